/- One instruction of the machine is one operation of the model. -/
import Derived.Test.YtkllpeebnabdiaaAmN
import Derived.Test.YtkllpeebnabdiaaAmP
import Derived.Lib.SliceRun
import Derived.WalkSpells
namespace Go.Am
open Go

section
variable {P : Program} {B : Base} {κ κ' : Nat → Option KI} {hp hp' : List (Nat × Ent)} {F : Nat → Prop} {w w' : World} {sl : List (Nat × D)} {tm : Array Value} {n : Nat} {d : D}

set_option maxHeartbeats 1000000 in
theorem cBin_no {op : BinOp} {t : TypeId} {x y : Operand} {o : LOp} (h : cBin P op t x y = some o) : (∀ f l m, o ≠ .call f l m) ∧ ∀ g l, o ≠ .callv g l := by
  unfold cBin at h
  repeat' split at h
  all_goals first
    | (simp only [Option.some.injEq] at h; subst h; simp)
    | (cases h)
theorem cOp_call {md : Nat → List Md} {o : Oper} {f : Nat} {l : List X} {m : List Md} (hc : cOp P md o = some (.call f l m)) :
    ∃ c, o.op = .call c ∧ c.callee = .value (.func f) ∧ allO cX c.args.toList = some l := by
  unfold cOp at hc
  split at hc
  case h_22 c hop =>
    refine ⟨c, hop, ?_⟩
    split at hc
    case h_7 g hcal =>
      simp only [Option.map_eq_some_iff, LOp.call.injEq] at hc
      obtain ⟨l', h1, rfl, rfl, rfl⟩ := hc
      exact ⟨hcal, h1⟩
    all_goals (repeat' split at hc) <;> simp at hc
  case h_11 => exact absurd rfl ((cBin_no hc).1 _ _ _)
  all_goals (repeat' split at hc) <;> simp [Option.bind_eq_some_iff] at hc
  all_goals (repeat' split at hc) <;> simp at hc
set_option maxHeartbeats 1000000 in
theorem cOp_callv {md : Nat → List Md} {o : Oper} {g : X} {l : List X} (hc : cOp P md o = some (.callv g l)) :
    ∃ c x, o.op = .call c ∧ c.callee = .value x ∧ cX x = some g ∧ allO cX c.args.toList = some l := by
  unfold cOp at hc
  split at hc
  case h_22 c hop =>
    split at hc
    case h_8 x _ hcal =>
      split at hc
      · simp only [Option.some.injEq, LOp.callv.injEq] at hc
        obtain ⟨rfl, rfl⟩ := hc
        exact ⟨c, x, hop, hcal, by assumption, by assumption⟩
      · cases hc
    all_goals (repeat' split at hc) <;> simp at hc
  case h_11 => exact absurd rfl ((cBin_no hc).2 _ _)
  all_goals (repeat' split at hc) <;> simp [Option.bind_eq_some_iff] at hc
  all_goals (repeat' split at hc) <;> simp at hc

set_option maxHeartbeats 1000000 in
theorem cOp_isnil {md : Nat → List Md} {o : Oper} {g : Bool} {x : X} (hc : cOp P md o = some (.isnil g x)) :
    ∃ op t xo y gd e, o.op = .binOp op t xo y gd ∧ P.underlying t = some (.slice e) ∧ cX xo = some x ∧ cX y = some (.k (.nl 0)) ∧ ((op = .eql ∧ g = false) ∨ (op = .neq ∧ g = true)) := by
  unfold cOp at hc
  split at hc
  case h_11 op t xo y gd hop =>
    unfold cBin at hc
    split at hc
    · simp at hc
    · repeat' split at hc
      all_goals simp at hc
    · repeat' split at hc
      all_goals simp at hc
    · rename_i e x' hu hx hy
      split at hc
      · simp only [Option.some.injEq, LOp.isnil.injEq] at hc
        obtain ⟨rfl, rfl⟩ := hc
        exact ⟨_, t, xo, y, gd, _, hop, hu, hx, hy, .inl ⟨rfl, rfl⟩⟩
      · simp only [Option.some.injEq, LOp.isnil.injEq] at hc
        obtain ⟨rfl, rfl⟩ := hc
        exact ⟨_, t, xo, y, gd, _, hop, hu, hx, hy, .inr ⟨rfl, rfl⟩⟩
      · simp at hc
    · simp at hc
  case h_22 c hop =>
    split at hc
    all_goals (repeat' split at hc) <;> simp at hc
    all_goals (repeat' split at hc) <;> simp at hc
  all_goals (repeat' split at hc) <;> simp [Option.bind_eq_some_iff] at hc
  all_goals (repeat' split at hc) <;> simp at hc

theorem MRs_append {I : Nat → Prop} : ∀ {ds es : List D} {us vs : List Value}, MRs w I κ ds us → MRs w I κ es vs → MRs w I κ (ds ++ es) (us ++ vs)
  | [], es, us, vs, h1, h2 => by simp only [MRs] at h1; subst h1; exact h2
  | d :: ds, es, us, vs, h1, h2 => by
    simp only [MRs] at h1
    obtain ⟨v, vs', rfl, hd, hds⟩ := h1
    simp only [List.cons_append, MRs]
    exact ⟨v, _, rfl, hd, MRs_append hds h2⟩

theorem putd_sound {a : Act} (hs : RS B κ hp w sl a.tmps) {dst : Option Nat} (hd : ∀ t, dst = some t → t < B.N ∧ t ∉ B.fx) {v : Value} (hm : MR w (Im B κ hp w) κ d v) :
    RS B κ hp w (putd dst d sl) (a.put dst v).tmps ∧ (a.put dst v).defers = a.defers := by
  cases dst with
  | none => exact ⟨hs, rfl⟩
  | some t => exact ⟨hs.put (hd t rfl).1 (hd t rfl).2 hm, rfl⟩

theorem act_sound {s : St} {a : Act} (h : RH B κ s.hp F w) (hs : RS B κ s.hp w s.sl a.tmps) (hF : ∀ k, k < 64 → F (n + k)) {md : Nat → List Md} {o : Oper} {op : LOp} {g : Option (Nat × Bool)} (hc : cOp P md o = some op)
    (hd : ∀ t, o.dst = some t → t < B.N ∧ t ∉ B.fx) {K : St → Prop} (hk : actP P n ⟨o.dst, op, g⟩ s K) {next : Act → World → Prop} {Q : Exit → Act → World → Prop}
    (hn : ∀ κ' s' a' w', K s' → RH B κ' s'.hp (Fr F n) w' → RS B κ' s'.hp w' s'.sl a'.tmps → Nxt B κ κ' s.hp s'.hp w w' → a'.defers = a.defers → next a' w') : o.wp P a w next Q := by
  obtain ⟨sl, hp, nx⟩ := s
  obtain ⟨tm, df⟩ := a
  have eff_case : (∀ f l m, op ≠ .call f l m) → (∀ x l, op ≠ .callv x l) → (∀ g x, op ≠ .isnil g x) → o.wp P ⟨tm, df⟩ w next Q := by
    intro h1 h2 h3
    have hk' : kon (eff n sl hp op) fun p => K ⟨putd o.dst p.1 sl, p.2, nx⟩ := by
      unfold actP at hk
      cases op <;> first | exact hk | exact absurd rfl (h1 _ _ _) | exact absurd rfl (h2 _ _) | exact absurd rfl (h3 _ _)
    unfold kon at hk'
    split at hk'
    case h_2 => exact hk'.elim
    rename_i p he
    obtain ⟨κ', v, w', hr, hR, hN, hm⟩ := eff_sound (df := df) h hs hF hc he
    have hgo : next (Act.put ⟨tm, df⟩ o.dst v) w' := by
      obtain ⟨g1, g2⟩ := putd_sound (a := ⟨tm, df⟩) (hs.next hN) hd hm
      exact hn κ' _ _ w' hk' hR g1 hN g2
    unfold Oper.wp
    rcases hr with hr | ⟨hr, rfl⟩
    · rw [hr]; exact hgo
    · rw [hr]; exact hgo
  have call_case : ∀ (f : Nat) (ds : List D) (vs : List Value) (md : List Md), (execOp (Act.eval ⟨tm, df⟩) o).run P w = (callFunc f vs.toArray).run P w → MRs w (Im B κ hp w) κ ds vs →
      (callP P n hp f ds md fun p => K ⟨putd o.dst p.1 sl, p.2, nx⟩) → o.wp P ⟨tm, df⟩ w next Q := by
    intro f ds vs md hrun hvs hcall
    obtain ⟨h1, h2⟩ := call_sound h hF hvs hcall
    unfold Oper.wp
    rw [hrun, h1]
    refine Calls.mono h2 ?_
    rintro e w' ⟨v, d, hp', κ', rfl, hK, hR, hN, hm⟩
    obtain ⟨g1, g2⟩ := putd_sound (a := ⟨tm, df⟩) (hs.next hN) hd hm
    exact hn κ' _ _ w' hK hR g1 hN g2
  cases op with
  | call f l md' =>
    obtain ⟨c, hop, hcal, hl⟩ := cOp_call hc
    simp only [actP] at hk
    unfold kon at hk
    split at hk
    case h_2 => exact hk.elim
    rename_i ds hds
    refine call_case f ds (c.args.toList.map (Act.eval ⟨tm, df⟩)) md' ?_ (evs_sound hs hl hds) hk
    have : (List.map (Act.eval ⟨tm, df⟩) c.args.toList).toArray = c.args.map (Act.eval ⟨tm, df⟩) := by apply Array.toList_inj.1; simp
    rw [this]
    have hf : Act.eval ⟨tm, df⟩ (.func f) = .func (.func f) #[] #[] := rfl
    unfold execOp
    simp only [hop, resolve, hcal, hf, Deferred.ofValue, Sem.run_bind, Sem.run_pure, Result.andThen_ok, invoke, Array.append_empty, Array.empty_append]
  | callv x l =>
    obtain ⟨c, xo, hop, hcal, hx, hl⟩ := cOp_callv hc
    simp only [actP] at hk
    unfold kon at hk
    split at hk
    case h_2 => exact hk.elim
    rename_i q hq
    split at hk
    case h_2 => exact hk.elim
    rename_i ds hds
    cases hx' : ev sl x with
    | none => rw [hx'] at hq; cases hq
    | some e =>
      rw [hx'] at hq
      simp only [Option.bind_some] at hq
      cases e <;> simp only [asClo, Option.some.injEq, reduceCtorEq] at hq
      rename_i f caps
      subst hq
      have hm := ev_sound (df := df) hs hx hx'
      simp only [MR] at hm
      obtain ⟨us, hu, hus⟩ := hm
      refine call_case f (ds ++ caps) (c.args.toList.map (Act.eval ⟨tm, df⟩) ++ us.toList) [] ?_ (MRs_append (evs_sound hs hl hds) hus) hk
      have : (List.map (Act.eval ⟨tm, df⟩) c.args.toList ++ us.toList).toArray = c.args.map (Act.eval ⟨tm, df⟩) ++ us := by simp
      rw [this]
      unfold execOp
      simp only [hop, resolve, hcal, hu, Deferred.ofValue, Sem.run_bind, Sem.run_pure, Result.andThen_ok, invoke, Array.empty_append]
  | isnil g x =>
    obtain ⟨bop, t, xo, y, gd, e, hop, hu, hx, hy, hg⟩ := cOp_isnil hc
    simp only [actP] at hk
    unfold kon at hk
    split at hk
    case h_2 => exact hk.elim
    rename_i q hq
    cases hx' : ev sl x with
    | none => rw [hx'] at hq; cases hq
    | some d =>
    rw [hx', Option.bind_some] at hq
    have hm := ev_sound (df := df) hs hx hx'
    have hy' : Act.eval ⟨tm, df⟩ y = .slice none 0 0 := by
      have := ev_sound (df := df) hs hy (d := .nl 0) rfl
      simpa only [MR] using this
    have hval : ∃ a n c, Act.eval ⟨tm, df⟩ xo = .slice a n c ∧ (a.isNone = true → q.1) ∧ (a.isNone = false → q.2) := by
      cases d <;> simp only [nilD, reduceCtorEq, Option.some.injEq] at hq
      case nl => subst hq; simp only [MR] at hm; exact ⟨_, _, _, hm, by simp, by simp⟩
      case lst sz xs =>
        subst hq
        simp only [MR, DR] at hm
        rcases hm.2.2 with ⟨h1, h2⟩ | ⟨b, off, cap, us, h1, _⟩
        · exact ⟨_, _, _, h1, fun _ => h2, fun _ => trivial⟩
        · exact ⟨_, _, _, h1, by simp, fun _ => trivial⟩
      case sl id lo len =>
        subst hq
        simp only [MR] at hm
        rcases hm with ⟨sz, _, h1, _, h2⟩ | ⟨b, sz, tot, off, cap, _, h1, _⟩
        · exact ⟨_, _, _, h1, fun _ => h2, fun _ => trivial⟩
        · exact ⟨_, _, _, h1, by simp, fun _ => trivial⟩
    obtain ⟨a, m, c, hv, hq1, hq2⟩ := hval
    have hrun : (execOp (Act.eval ⟨tm, df⟩) o).run P w = .ok (.value (.bool (if g then !a.isNone else a.isNone))) w := by
      rcases hg with ⟨rfl, rfl⟩ | ⟨rfl, rfl⟩
      · have := Lib.run_eql_slice_nil (P := P) w t e a m c 0 0 hu
        simp [execOp, hop, hv, hy', this, eqGuard]
      · have := run_neq_slice_nil_any (P := P) w t e a m c 0 0 hu
        simp [execOp, hop, hv, hy', this, eqGuard]
    unfold Oper.wp
    rw [hrun]
    obtain ⟨g1, g2⟩ := putd_sound (a := ⟨tm, df⟩) hs hd (d := .bool (if g then !a.isNone else a.isNone)) (v := .bool (if g then !a.isNone else a.isNone)) (by simp only [MR])
    refine hn κ ⟨putd o.dst (.bool (if g then !a.isNone else a.isNone)) sl, hp, nx⟩ _ w ?_ (h.same Fr.sub) g1 (Nxt.refl _ _ _ _) g2
    cases ha : a.isNone
    · have := hk.2 (hq2 ha)
      cases g <;> simpa [ha] using this
    · have := hk.1 (hq1 ha)
      cases g <;> simpa [ha] using this
  | _ => exact eff_case (fun _ _ _ => by simp) (fun _ _ => by simp) (fun _ _ => by simp)

theorem step_sound {s : St} {a : Act} (h : RH B κ s.hp F w) (hs : RS B κ s.hp w s.sl a.tmps) (hF : ∀ k, k < 64 → F (n + k)) {H : Hints} (hfx : B.fx = H.fx) {ops : Array Oper} {o : Oper} {li : LI} (hc : cI P H B.N ops o = some li)
    {K : St → Prop} (hk : stepP P n li s K) {next : Act → World → Prop} {Q : Exit → Act → World → Prop}
    (hn : ∀ κ' s' a' w', K s' → RH B κ' s'.hp (Fr F n) w' → RS B κ' s'.hp w' s'.sl a'.tmps → Nxt B κ κ' s.hp s'.hp w w' → a'.defers = a.defers → next a' w') :
    if Region.wanted o (yielded ops a.tmps) = true then o.wp P a w next Q else next (a.put o.dst undef) w := by
  unfold cI at hc
  split at hc
  case h_2 => cases hc
  rename_i g hg
  generalize hopd : (cOp P H.md o).getD .bad = op at hc
  have hli : li = ⟨o.dst, op, g⟩ ∧ ∀ t, o.dst = some t → t < B.N ∧ t ∉ B.fx := by
    split at hc
    · rename_i t ht
      split at hc
      · rename_i hlt
        simp only [Option.some.injEq] at hc
        refine ⟨by rw [← hc, ht], fun t' ht' => ?_⟩
        rw [ht, Option.some.injEq] at ht'
        subst ht'
        exact ⟨hlt.1, by rw [hfx]; exact hlt.2⟩
      · cases hc
    · rename_i ht
      simp only [Option.some.injEq] at hc
      exact ⟨by rw [← hc, ht], fun t' ht' => by rw [ht] at ht'; cases ht'⟩
  obtain ⟨rfl, hd⟩ := hli
  have skip : K ⟨putd o.dst .undef s.sl, s.hp, s.nx⟩ → next (a.put o.dst undef) w := by
    intro hK
    obtain ⟨g1, g2⟩ := putd_sound (a := a) hs hd (d := .undef) (v := undef) (by simp only [MR]; exact undef_nb)
    exact hn κ _ _ w hK (h.same Fr.sub) g1 (Nxt.refl _ _ _ _) g2
  have act : actP P n ⟨o.dst, op, g⟩ s K → o.wp P a w next Q := fun hK => by
    cases hop : cOp P H.md o with
    | some op' =>
      rw [hop, Option.getD_some] at hopd
      subst hopd
      exact act_sound h hs hF hop hd hK hn
    | none =>
      rw [hop, Option.getD_none] at hopd
      subst hopd
      exact absurd hK (by simp [actP, eff, kon])
  cases hgo : o.guard with
  | none =>
    rw [hgo] at hg
    simp only [cGuard, Option.some.injEq] at hg
    subst hg
    have : Region.wanted o (yielded ops a.tmps) = true := by simp [Region.wanted, hgo]
    rw [if_pos this]
    exact act hk
  | some jw =>
    obtain ⟨j, want⟩ := jw
    rw [hgo] at hg
    simp only [cGuard] at hg
    split at hg
    case h_2 => cases hg
    rename_i t ht
    simp only [Option.some.injEq] at hg
    subst hg
    have fin : ∀ {p q r : Prop}, brang (lk s.sl t) p q r → (∃ c : Bool, yielded ops a.tmps j = some c ∧ (c = true → p) ∧ (c = false → q)) ∨ (yielded ops a.tmps j = none ∧ r) := by
      intro p q r hb
      unfold brang at hb
      split at hb
      · rename_i c hlk
        obtain ⟨v, hv, hm⟩ := hs.sl t _ hlk
        simp only [MR] at hm
        subst hm
        exact .inl ⟨c, by simp [yielded, ht, hv], hb.1, hb.2⟩
      · rename_i hlk
        obtain ⟨v, hv, hm⟩ := hs.sl t _ hlk
        simp only [MR] at hm
        refine .inr ⟨?_, hb⟩
        simp only [yielded, ht, Option.bind_some, hv]
        split
        · rename_i b hb; exact absurd (Option.some.inj hb) (hm b)
        · rfl
      · exact hb.elim
    cases want with
    | true =>
      rcases fin hk with ⟨c, hc, h1, h2⟩ | ⟨hc, h0⟩
      · have hw : Region.wanted o (yielded ops a.tmps) = c := by simp [Region.wanted, hgo, hc]
        rw [hw]
        cases c
        · rw [if_neg (by simp)]; exact skip (h2 rfl)
        · rw [if_pos rfl]; exact act (h1 rfl)
      · have hw : Region.wanted o (yielded ops a.tmps) = false := by simp [Region.wanted, hgo, hc]
        rw [hw, if_neg (by simp)]; exact skip h0
    | false =>
      rcases fin hk with ⟨c, hc, h1, h2⟩ | ⟨hc, h0⟩
      · have hw : Region.wanted o (yielded ops a.tmps) = !c := by simp [Region.wanted, hgo, hc]
        rw [hw]
        cases c
        · rw [if_pos (by simp)]; exact act (h2 rfl)
        · rw [if_neg (by simp)]; exact skip (h1 rfl)
      · have hw : Region.wanted o (yielded ops a.tmps) = false := by simp [Region.wanted, hgo, hc]
        rw [hw, if_neg (by simp)]; exact skip h0

theorem ops_sound {H : Hints} (hfx : B.fx = H.fx) {ops : Array Oper} {Q : Exit → Act → World → Prop} : ∀ {os : List Oper} {l : List LI} {n : Nat} {κ : Nat → Option KI} {s : St} {a : Act} {w : World} {K : St → Prop}, allO (cI P H B.N ops) os = some l →
    RH B κ s.hp (fun id => n ≤ id) w → RS B κ s.hp w s.sl a.tmps → WOps P l n s K →
    (∀ κ' s' a' w', K s' → RH B κ' s'.hp (fun id => s'.nx ≤ id) w' → RS B κ' s'.hp w' s'.sl a'.tmps → Nxt B κ κ' s.hp s'.hp w w' → a'.defers = a.defers → Q .normal a' w') → wpList P ops Q os a w
  | [], l, n, κ, s, a, w, K, hc, h, hs, hk, hn => by
    simp only [allO, Option.some.injEq] at hc
    subst hc
    exact hn κ ⟨s.sl, s.hp, n⟩ a w hk h hs (Nxt.refl _ _ _ _) rfl
  | o :: os, l, n, κ, s, a, w, K, hc, h, hs, hk, hn => by
    simp only [allO] at hc
    split at hc
    case h_2 => cases hc
    rename_i li l' hli hl'
    simp only [Option.some.injEq] at hc
    subst hc
    have := step_sound (Q := Q) (next := wpList P ops Q os) h hs (fun k _ => Nat.le_add_right _ _) hfx hli hk (fun κ1 s1 a1 w1 hK hR hS hN hD =>
      ops_sound hfx hl' (hR.same (fun id (hid : n + 64 ≤ id) => ⟨by omega, .inr hid⟩)) hS hK (fun κ2 s2 a2 w2 hK2 hR2 hS2 hN2 hD2 => hn κ2 s2 a2 w2 hK2 hR2 hS2 (hN.trans hN2) (hD2.trans hD)))
    unfold wpList
    split at this
    · rename_i hw; rw [if_pos hw]; exact .inl this
    · rename_i hw; rw [if_neg hw]; exact this
end
end Go.Am
