/- One instruction of the machine is one operation of the model. -/
import Derived.Test.YtpdjpdfkacpnnaaAmPd
import Derived.Test.YtpdjpdfkacpnnaaAmPe
import Derived.Lib.SliceRun
import Derived.WalkSpells
namespace Go.Am
open Go
section
variable {P : Program} {B : Base} {κ κ' : Nat → Option KI} {hp hp' : List (Nat × Ent)} {F : Nat → Prop} {w w' : World} {sl : List (Nat × D)} {tm : Array Value} {n : Nat} {d : D}
set_option maxHeartbeats 1000000 in
theorem cBin_no {op : BinOp} {t : TypeId} {x y : Operand} {o : LOp} (h : cBin P op t x y = some o) : (∀ f l m, o ≠ .call f l m) ∧ ∀ g l, o ≠ .callv g l := by
 unfold cBin at h
 repeat' split at h
 all_goals first
  | (simp only [Option.some.injEq] at h; subst h; simp)
  | (cases h)
theorem cBin_nom {op : BinOp} {t : TypeId} {x y : Operand} {o : LOp} (h : cBin P op t x y = some o) : ∀ g l, o ≠ .callm g l := by
 unfold cBin at h
 repeat' split at h
 all_goals first
  | (simp only [Option.some.injEq] at h; subst h; simp)
  | (cases h)
theorem cOp_call {md : Nat → List Md} {o : Oper} {f : Nat} {l : List X} {m : List Md} (hc : cOp P md o = some (.call f l m)) :
  ∃ c, o.op = .call c ∧ c.callee = .value (.func f) ∧ allO cX c.args.toList = some l := by
 unfold cOp at hc
 split at hc
 case h_22 c hop =>
  refine ⟨c, hop, ?_⟩
  split at hc
  case h_7 g hcal =>
   simp only [Option.map_eq_some_iff, LOp.call.injEq] at hc
   obtain ⟨l', h1, rfl, rfl, rfl⟩ := hc
   exact ⟨hcal, h1⟩
  all_goals (repeat' split at hc) <;> simp at hc
 case h_11 => exact absurd rfl ((cBin_no hc).1 _ _ _)
 all_goals (repeat' split at hc) <;> simp [Option.bind_eq_some_iff] at hc
 all_goals (repeat' split at hc) <;> simp at hc
set_option maxHeartbeats 1000000 in
theorem cOp_callv {md : Nat → List Md} {o : Oper} {g : X} {l : List X} (hc : cOp P md o = some (.callv g l)) :
  ∃ c x, o.op = .call c ∧ c.callee = .value x ∧ cX x = some g ∧ allO cX c.args.toList = some l := by
 unfold cOp at hc
 split at hc
 case h_22 c hop =>
  split at hc
  case h_8 x _ hcal =>
   split at hc
   ·split at hc
    ·simp only [Option.some.injEq, LOp.callv.injEq] at hc
     obtain ⟨rfl, rfl⟩ := hc
     exact ⟨c, x, hop, hcal, by assumption, by assumption⟩
    ·simp at hc
   ·cases hc
  all_goals (repeat' split at hc) <;> simp at hc
 case h_11 => exact absurd rfl ((cBin_no hc).2 _ _)
 all_goals (repeat' split at hc) <;> simp [Option.bind_eq_some_iff] at hc
 all_goals (repeat' split at hc) <;> simp at hc
set_option maxHeartbeats 1000000 in
theorem cOp_callm {md : Nat → List Md} {o : Oper} {g : X} {l : List X} (hc : cOp P md o = some (.callm g l)) :
  ∃ c x, o.op = .call c ∧ c.callee = .value x ∧ cX x = some g ∧ allO cX c.args.toList = some l := by
 unfold cOp at hc
 split at hc
 case h_22 c hop =>
  split at hc
  case h_8 x _ hcal =>
   split at hc
   ·split at hc
    ·simp at hc
    ·simp only [Option.some.injEq, LOp.callm.injEq] at hc
     obtain ⟨rfl, rfl⟩ := hc
     exact ⟨c, x, hop, hcal, by assumption, by assumption⟩
   ·cases hc
  all_goals (repeat' split at hc) <;> simp at hc
 case h_11 => exact absurd rfl (cBin_nom hc _ _)
 all_goals (repeat' split at hc) <;> simp [Option.bind_eq_some_iff] at hc
 all_goals (repeat' split at hc) <;> simp at hc
set_option maxHeartbeats 1000000 in
theorem cOp_isnil {md : Nat → List Md} {o : Oper} {g : Bool} {x : X} (hc : cOp P md o = some (.isnil g x)) :
  ∃ op t xo y gd e, o.op = .binOp op t xo y gd ∧ P.underlying t = some (.slice e) ∧ cX xo = some x ∧ cX y = some (.k (.nl 0)) ∧ ((op = .eql ∧ g = false) ∨ (op = .neq ∧ g = true)) := by
 unfold cOp at hc
 split at hc
 case h_11 op t xo y gd hop =>
  unfold cBin at hc
  split at hc
  ·simp at hc
  ·repeat' split at hc
   all_goals simp at hc
  ·repeat' split at hc
   all_goals simp at hc
  ·rename_i e x' hu hx hy
   split at hc
   ·simp only [Option.some.injEq, LOp.isnil.injEq] at hc
    obtain ⟨rfl, rfl⟩ := hc
    exact ⟨_, t, xo, y, gd, _, hop, hu, hx, hy, .inl ⟨rfl, rfl⟩⟩
   ·simp only [Option.some.injEq, LOp.isnil.injEq] at hc
    obtain ⟨rfl, rfl⟩ := hc
    exact ⟨_, t, xo, y, gd, _, hop, hu, hx, hy, .inr ⟨rfl, rfl⟩⟩
   ·simp at hc
  ·simp at hc
 case h_22 c hop =>
  split at hc
  all_goals (repeat' split at hc) <;> simp at hc
  all_goals (repeat' split at hc) <;> simp at hc
 all_goals (repeat' split at hc) <;> simp [Option.bind_eq_some_iff] at hc
 all_goals (repeat' split at hc) <;> simp at hc
theorem MRs_append {I : Nat → Prop} : ∀ {ds es : List D} {us vs : List Value}, MRs w I κ ds us → MRs w I κ es vs → MRs w I κ (ds ++ es) (us ++ vs)
 | [], es, us, vs, h1, h2 => by simp only [MRs] at h1; subst h1; exact h2
 | d :: ds, es, us, vs, h1, h2 => by
  simp only [MRs] at h1
  obtain ⟨v, vs', rfl, hd, hds⟩ := h1
  simp only [List.cons_append, MRs]
  exact ⟨v, _, rfl, hd, MRs_append hds h2⟩
theorem putd_sound {a : Act} (hs : RS B κ hp w sl a.tmps) {dst : Option Nat} (hd : ∀ t, dst = some t → t < B.N ∧ t ∉ B.fx) {v : Value} (hm : MR w (Im B κ hp w) κ d v) :
  RS B κ hp w (putd dst d sl) (a.put dst v).tmps ∧ (a.put dst v).defers = a.defers := by
 cases dst with
 | none => exact ⟨hs, rfl⟩
 | some t => exact ⟨hs.put (hd t rfl).1 (hd t rfl).2 hm, rfl⟩
theorem act_sound {s : St} {a : Act} (h : RH B κ s.hp F w) (hs : RS B κ s.hp w s.sl a.tmps) (hF : ∀ k, k < 64 → F (n + k)) {md : Nat → List Md} {o : Oper} {op : LOp} {g : Option (Nat × Bool)} (hc : cOp P md o = some op)
  (hd : ∀ t, o.dst = some t → t < B.N ∧ t ∉ B.fx) {K : St → Prop} (hk : actP P n ⟨o.dst, op, g⟩ s K) {next : Act → World → Prop} {Q : Exit → Act → World → Prop}
  (hn : ∀ κ' s' a' w', K s' → RH B κ' s'.hp (Fr F n) w' → RS B κ' s'.hp w' s'.sl a'.tmps → Nxt B κ κ' s.hp s'.hp w w' → a'.defers = a.defers → next a' w') : o.wp P a w next Q := by
 obtain ⟨sl, hp, nx⟩ := s
 obtain ⟨tm, df⟩ := a
 have eff_case : (∀ f l m, op ≠ .call f l m) → (∀ x l, op ≠ .callv x l) → (∀ x l, op ≠ .callm x l) → (∀ g x, op ≠ .isnil g x) → o.wp P ⟨tm, df⟩ w next Q := by
  intro h1 h2 h4 h3
  have hk' : kon (eff n sl hp op) fun p => K ⟨putd o.dst p.1 sl, p.2, nx⟩ := by
   unfold actP at hk
   cases op <;> first | exact hk | exact absurd rfl (h1 _ _ _) | exact absurd rfl (h2 _ _) | exact absurd rfl (h4 _ _) | exact absurd rfl (h3 _ _)
  unfold kon at hk'
  split at hk'
  case h_2 => exact hk'.elim
  rename_i p he
  obtain ⟨κ', v, w', hr, hR, hN, hm⟩ := eff_sound (df := df) h hs hF hc he
  have hgo : next (Act.put ⟨tm, df⟩ o.dst v) w' := by
   obtain ⟨g1, g2⟩ := putd_sound (a := ⟨tm, df⟩) (hs.next hN) hd hm
   exact hn κ' _ _ w' hk' hR g1 hN g2
  unfold Oper.wp
  rcases hr with hr | ⟨hr, rfl⟩
  ·rw [hr]; exact hgo
  ·rw [hr]; exact hgo
 have call_case : ∀ (f : Nat) (ds : List D) (vs : List Value) (md : List Md), (execOp (Act.eval ⟨tm, df⟩) o).run P w = (callFunc f vs.toArray).run P w → MRs w (Im B κ hp w) κ ds vs →
   (callP P n hp f ds md fun p => K ⟨putd o.dst p.1 sl, p.2, nx⟩) → o.wp P ⟨tm, df⟩ w next Q := by
  intro f ds vs md hrun hvs hcall
  obtain ⟨h1, h2⟩ := call_sound h hF hvs hcall
  unfold Oper.wp
  rw [hrun, h1]
  refine Calls.mono h2 ?_
  rintro e w' ⟨v, d, hp', κ', rfl, hK, hR, hN, hm⟩
  obtain ⟨g1, g2⟩ := putd_sound (a := ⟨tm, df⟩) (hs.next hN) hd hm
  exact hn κ' _ _ w' hK hR g1 hN g2
 cases op with
 | call f l md' =>
  obtain ⟨c, hop, hcal, hl⟩ := cOp_call hc
  simp only [actP] at hk
  unfold kon at hk
  split at hk
  case h_2 => exact hk.elim
  rename_i ds hds
  refine call_case f ds (c.args.toList.map (Act.eval ⟨tm, df⟩)) md' ?_ (evs_sound hs hl hds) hk
  have : (List.map (Act.eval ⟨tm, df⟩) c.args.toList).toArray = c.args.map (Act.eval ⟨tm, df⟩) := by apply Array.toList_inj.1; simp
  rw [this]
  have hf : Act.eval ⟨tm, df⟩ (.func f) = .func (.func f) #[] #[] := rfl
  unfold execOp
  simp only [hop, resolve, hcal, hf, Deferred.ofValue, Sem.run_bind, Sem.run_pure, Result.andThen_ok, invoke, Array.append_empty, Array.empty_append]
 | callv x l =>
  obtain ⟨c, xo, hop, hcal, hx, hl⟩ := cOp_callv hc
  simp only [actP] at hk
  unfold kon at hk
  split at hk
  case h_2 => exact hk.elim
  rename_i q hq
  split at hk
  case h_2 => exact hk.elim
  rename_i ds hds
  cases hx' : ev sl x with
  | none => rw [hx'] at hq; cases hq
  | some e =>
   rw [hx'] at hq
   simp only [Option.bind_some] at hq
   cases e <;> simp only [asClo, Option.some.injEq, reduceCtorEq] at hq
   rename_i f caps
   subst hq
   have hm := ev_sound (df := df) hs hx hx'
   simp only [MR] at hm
   obtain ⟨us, hu, hus⟩ := hm
   refine call_case f (ds ++ caps) (c.args.toList.map (Act.eval ⟨tm, df⟩) ++ us.toList) [] ?_ (MRs_append (evs_sound hs hl hds) hus) hk
   have : (List.map (Act.eval ⟨tm, df⟩) c.args.toList ++ us.toList).toArray = c.args.map (Act.eval ⟨tm, df⟩) ++ us := by simp
   rw [this]
   unfold execOp
   simp only [hop, resolve, hcal, hu, Deferred.ofValue, Sem.run_bind, Sem.run_pure, Result.andThen_ok, invoke, Array.empty_append]
 | callm x l =>
  obtain ⟨c, xo, hop, hcal, hx, hl⟩ := cOp_callm hc
  simp only [actP] at hk
  unfold kon at hk
  split at hk
  case h_2 => exact hk.elim
  rename_i q hq
  split at hk
  case h_2 => exact hk.elim
  rename_i ds hds
  cases hx' : ev sl x with
  | none => rw [hx'] at hq; cases hq
  | some e =>
   rw [hx'] at hq
   simp only [Option.bind_some] at hq
   cases e <;> simp only [asClo, Option.some.injEq, reduceCtorEq] at hq
   rename_i f caps
   subst hq
   have hm := ev_sound (df := df) hs hx hx'
   simp only [MR] at hm
   obtain ⟨us, hu, hus⟩ := hm
   refine call_case f (ds ++ caps) (c.args.toList.map (Act.eval ⟨tm, df⟩) ++ us.toList) (ds.map (fun _ => Md.rd) ++ caps.map fun _ => Md.mp) ?_ (MRs_append (evs_sound hs hl hds) hus) hk
   have : (List.map (Act.eval ⟨tm, df⟩) c.args.toList ++ us.toList).toArray = c.args.map (Act.eval ⟨tm, df⟩) ++ us := by simp
   rw [this]
   unfold execOp
   simp only [hop, resolve, hcal, hu, Deferred.ofValue, Sem.run_bind, Sem.run_pure, Result.andThen_ok, invoke, Array.empty_append]
 | isnil g x =>
  obtain ⟨bop, t, xo, y, gd, e, hop, hu, hx, hy, hg⟩ := cOp_isnil hc
  simp only [actP] at hk
  unfold kon at hk
  split at hk
  case h_2 => exact hk.elim
  rename_i q hq
  cases hx' : ev sl x with
  | none => rw [hx'] at hq; cases hq
  | some d =>
  rw [hx', Option.bind_some] at hq
  have hm := ev_sound (df := df) hs hx hx'
  have hy' : Act.eval ⟨tm, df⟩ y = .slice none 0 0 := by
   have := ev_sound (df := df) hs hy (d := .nl 0) rfl
   simpa only [MR] using this
  have hval : ∃ a n c, Act.eval ⟨tm, df⟩ xo = .slice a n c ∧ (a.isNone = true → q.1) ∧ (a.isNone = false → q.2) := by
   cases d <;> simp only [nilD, reduceCtorEq, Option.some.injEq] at hq
   case nl => subst hq; simp only [MR] at hm; exact ⟨_, _, _, hm, by simp, by simp⟩
   case lst sz xs =>
    subst hq
    simp only [MR, DR] at hm
    rcases hm.2.2 with ⟨⟨_, h1⟩, h2⟩ | ⟨b, off, cap, us, h1, _⟩
    ·exact ⟨_, _, _, h1, fun _ => h2, fun _ => trivial⟩
    ·exact ⟨_, _, _, h1, by simp, fun _ => trivial⟩
   case sl id lo len =>
    subst hq
    simp only [MR] at hm
    rcases hm with ⟨sz, _, h1, _, h2⟩ | ⟨b, sz, tot, off, cap, _, h1, _⟩
    ·exact ⟨_, _, _, h1, fun _ => h2, fun _ => trivial⟩
    ·exact ⟨_, _, _, h1, by simp, fun _ => trivial⟩
  obtain ⟨a, m, c, hv, hq1, hq2⟩ := hval
  have hrun : (execOp (Act.eval ⟨tm, df⟩) o).run P w = .ok (.value (.bool (if g then !a.isNone else a.isNone))) w := by
   rcases hg with ⟨rfl, rfl⟩ | ⟨rfl, rfl⟩
   ·have := Lib.run_eql_slice_nil (P := P) w t e a m c 0 0 hu
    simp [execOp, hop, hv, hy', this, eqGuard]
   ·have := run_neq_slice_nil_any (P := P) w t e a m c 0 0 hu
    simp [execOp, hop, hv, hy', this, eqGuard]
  unfold Oper.wp
  rw [hrun]
  obtain ⟨g1, g2⟩ := putd_sound (a := ⟨tm, df⟩) hs hd (d := .bool (if g then !a.isNone else a.isNone)) (v := .bool (if g then !a.isNone else a.isNone)) (by simp only [MR])
  refine hn κ ⟨putd o.dst (.bool (if g then !a.isNone else a.isNone)) sl, hp, nx⟩ _ w ?_ (h.same Fr.sub) g1 (Nxt.refl _ _ _ _) g2
  cases ha : a.isNone
  ·have := hk.2 (hq2 ha)
   cases g <;> simpa [ha] using this
  ·have := hk.1 (hq1 ha)
   cases g <;> simpa [ha] using this
 | _ => exact eff_case (fun _ _ _ => by simp) (fun _ _ => by simp) (fun _ _ => by simp) (fun _ _ => by simp)
theorem step_sound {s : St} {a : Act} (h : RH B κ s.hp F w) (hs : RS B κ s.hp w s.sl a.tmps) (hF : ∀ k, k < 64 → F (n + k)) {H : Hints} (hfx : B.fx = H.fx) {ops : Array Oper} {o : Oper} {li : LI} (hc : cI P H B.N ops o = some li)
  {K : St → Prop} (hk : stepP P n li s K) {next : Act → World → Prop} {Q : Exit → Act → World → Prop}
  (hn : ∀ κ' s' a' w', K s' → RH B κ' s'.hp (Fr F n) w' → RS B κ' s'.hp w' s'.sl a'.tmps → Nxt B κ κ' s.hp s'.hp w w' → a'.defers = a.defers → next a' w') :
  if Region.wanted o (yielded ops a.tmps) = true then o.wp P a w next Q else next (a.put o.dst undef) w := by
 unfold cI at hc
 split at hc
 case h_2 => cases hc
 rename_i g hg
 generalize hopd : (cOp P H.md o).getD .bad = op at hc
 have hli : li = ⟨o.dst, op, g⟩ ∧ ∀ t, o.dst = some t → t < B.N ∧ t ∉ B.fx := by
  split at hc
  ·rename_i t ht
   split at hc
   ·rename_i hlt
    simp only [Option.some.injEq] at hc
    refine ⟨by rw [← hc, ht], fun t' ht' => ?_⟩
    rw [ht, Option.some.injEq] at ht'
    subst ht'
    exact ⟨hlt.1, by rw [hfx]; exact hlt.2⟩
   ·cases hc
  ·rename_i ht
   simp only [Option.some.injEq] at hc
   exact ⟨by rw [← hc, ht], fun t' ht' => by rw [ht] at ht'; cases ht'⟩
 obtain ⟨rfl, hd⟩ := hli
 have skip : K ⟨putd o.dst .undef s.sl, s.hp, s.nx⟩ → next (a.put o.dst undef) w := by
  intro hK
  obtain ⟨g1, g2⟩ := putd_sound (a := a) hs hd (d := .undef) (v := undef) (by simp only [MR]; exact undef_nb)
  exact hn κ _ _ w hK (h.same Fr.sub) g1 (Nxt.refl _ _ _ _) g2
 have act : actP P n ⟨o.dst, op, g⟩ s K → o.wp P a w next Q := fun hK => by
  cases hop : cOp P H.md o with
  | some op' =>
   rw [hop, Option.getD_some] at hopd
   subst hopd
   exact act_sound h hs hF hop hd hK hn
  | none =>
   rw [hop, Option.getD_none] at hopd
   subst hopd
   exact absurd hK (by simp [actP, eff, kon])
 cases hgo : o.guard with
 | none =>
  rw [hgo] at hg
  simp only [cGuard, Option.some.injEq] at hg
  subst hg
  have : Region.wanted o (yielded ops a.tmps) = true := by simp [Region.wanted, hgo]
  rw [if_pos this]
  exact act hk
 | some jw =>
  obtain ⟨j, want⟩ := jw
  rw [hgo] at hg
  simp only [cGuard] at hg
  split at hg
  case h_2 => cases hg
  rename_i t ht
  simp only [Option.some.injEq] at hg
  subst hg
  have fin : ∀ {p q r : Prop}, brang (lk s.sl t) p q r → (∃ c : Bool, yielded ops a.tmps j = some c ∧ (c = true → p) ∧ (c = false → q)) ∨ (yielded ops a.tmps j = none ∧ r) := by
   intro p q r hb
   unfold brang at hb
   split at hb
   ·rename_i c hlk
    obtain ⟨v, hv, hm⟩ := hs.sl t _ hlk
    simp only [MR] at hm
    subst hm
    exact .inl ⟨c, by simp [yielded, ht, hv], hb.1, hb.2⟩
   ·rename_i hlk
    obtain ⟨v, hv, hm⟩ := hs.sl t _ hlk
    simp only [MR] at hm
    refine .inr ⟨?_, hb⟩
    simp only [yielded, ht, Option.bind_some, hv]
    split
    ·rename_i b hb; exact absurd (Option.some.inj hb) (hm b)
    ·rfl
   ·exact hb.elim
  cases want with
  | true =>
   rcases fin hk with ⟨c, hc, h1, h2⟩ | ⟨hc, h0⟩
   ·have hw : Region.wanted o (yielded ops a.tmps) = c := by simp [Region.wanted, hgo, hc]
    rw [hw]
    cases c
    ·rw [if_neg (by simp)]; exact skip (h2 rfl)
    ·rw [if_pos rfl]; exact act (h1 rfl)
   ·have hw : Region.wanted o (yielded ops a.tmps) = false := by simp [Region.wanted, hgo, hc]
    rw [hw, if_neg (by simp)]; exact skip h0
  | false =>
   rcases fin hk with ⟨c, hc, h1, h2⟩ | ⟨hc, h0⟩
   ·have hw : Region.wanted o (yielded ops a.tmps) = !c := by simp [Region.wanted, hgo, hc]
    rw [hw]
    cases c
    ·rw [if_pos (by simp)]; exact act (h2 rfl)
    ·rw [if_neg (by simp)]; exact skip (h1 rfl)
   ·have hw : Region.wanted o (yielded ops a.tmps) = false := by simp [Region.wanted, hgo, hc]
    rw [hw, if_neg (by simp)]; exact skip h0
theorem ops_sound {H : Hints} (hfx : B.fx = H.fx) {ops : Array Oper} {Q : Exit → Act → World → Prop} : ∀ {os : List Oper} {l : List LI} {n : Nat} {κ : Nat → Option KI} {s : St} {a : Act} {w : World} {K : St → Prop}, allO (cI P H B.N ops) os = some l →
  RH B κ s.hp (fun id => n ≤ id) w → RS B κ s.hp w s.sl a.tmps → WOps P l n s K →
  (∀ κ' s' a' w', K s' → RH B κ' s'.hp (fun id => s'.nx ≤ id) w' → RS B κ' s'.hp w' s'.sl a'.tmps → Nxt B κ κ' s.hp s'.hp w w' → a'.defers = a.defers → Q .normal a' w') → wpList P ops Q os a w
 | [], l, n, κ, s, a, w, K, hc, h, hs, hk, hn => by
  simp only [allO, Option.some.injEq] at hc
  subst hc
  exact hn κ ⟨s.sl, s.hp, n⟩ a w hk h hs (Nxt.refl _ _ _ _) rfl
 | o :: os, l, n, κ, s, a, w, K, hc, h, hs, hk, hn => by
  simp only [allO] at hc
  split at hc
  case h_2 => cases hc
  rename_i li l' hli hl'
  simp only [Option.some.injEq] at hc
  subst hc
  have := step_sound (Q := Q) (next := wpList P ops Q os) h hs (fun k _ => Nat.le_add_right _ _) hfx hli hk (fun κ1 s1 a1 w1 hK hR hS hN hD =>
   ops_sound hfx hl' (hR.same (fun id (hid : n + 64 ≤ id) => ⟨by omega, .inr hid⟩)) hS hK (fun κ2 s2 a2 w2 hK2 hR2 hS2 hN2 hD2 => hn κ2 s2 a2 w2 hK2 hR2 hS2 (hN.trans hN2) (hD2.trans hD)))
  unfold wpList
  split at this
  ·rename_i hw; rw [if_pos hw]; exact .inl this
  ·rename_i hw; rw [if_neg hw]; exact this
end
set_option linter.unusedVariables false
set_option linter.unusedSimpArgs false
set_option linter.unnecessarySimpa false
structure Loc (S : Nat → Prop) (T : List (Nat × Ent) → List (Nat × Ent)) : Prop where
 out (l : List (Nat × Ent)) (id : Nat) : ¬ S id → lk (T l) id = lk l id
 same (l m : List (Nat × Ent)) : (∀ id, S id → lk m id = lk l id) → ∀ id, S id → lk (T m) id = lk (T l) id
section
variable {S : Nat → Prop} {T U : List (Nat × Ent) → List (Nat × Ent)}
theorem Loc.id : Loc S (fun l => l) := ⟨fun _ _ _ => rfl, fun _ _ h => h⟩
theorem Loc.comp (h : Loc S T) (k : Loc S U) : Loc S (fun l => T (U l)) :=
 ⟨fun hp id hn => (h.out _ id hn).trans (k.out _ id hn), fun hp hp2 he => h.same _ _ (k.same _ _ he)⟩
theorem Loc.up {i : Nat} {e : Ent} (hi : S i) : Loc S (fun l => up l i e) :=
 ⟨fun hp id hn => by rw [lk_up, if_neg (fun e : id = i => hn (e ▸ hi))], fun hp hp2 he id hs => by rw [lk_up, lk_up]; split; rfl; exact he id hs⟩
theorem Loc.rm {i : Nat} (hi : S i) : Loc S (fun l => rm l i) :=
 ⟨fun hp id hn => by rw [lk_rm, if_neg (fun e : id = i => hn (e ▸ hi))], fun hp hp2 he id hs => by rw [lk_rm, lk_rm]; split; rfl; exact he id hs⟩
theorem Loc.freeze {l : List Nat} (hl : ∀ id ∈ l, S id) : Loc S (freezeIds l) :=
 ⟨fun hp id hn => by
  rw [lk_freeze_eq, if_neg' (fun hm => hn (hl id hm))], fun hp hp2 he id hs => by rw [lk_freeze_eq, lk_freeze_eq, he id hs]⟩
where
 if_neg' {l : List Nat} {id : Nat} {o : Option Ent} (h : id ∉ l) : (o.map fun e => if id ∈ l then e.frozen else e) = o := by
  cases o <;> simp [h]
theorem lk_none_of {α : Type} {E : List (Nat × α)} {id : Nat} (h : ∀ p ∈ E, p.1 ≠ id) : lk E id = none := by
 cases hE : lk E id with
 | none => rfl
 | some a => exact absurd rfl (h _ (lk_mem hE))
theorem Loc.app {E : List (Nat × Ent)} (hE : ∀ p ∈ E, S p.1) : Loc S (fun l => E ++ l) :=
 ⟨fun hp id hn => by rw [lk_append, lk_none_of (fun p hp (e : p.1 = id) => hn (e ▸ hE p hp))]; rfl, fun hp hp2 he id hs => by rw [lk_append, lk_append, he id hs]⟩
end
theorem allO_congr {α β : Type} {f g : α → Option β} : ∀ {l : List α}, (∀ a ∈ l, f a = g a) → allO f l = allO g l
 | [], _ => rfl
 | a :: l, h => by simp only [allO, h a (by simp), allO_congr (l := l) (fun b hb => h b (List.mem_cons_of_mem _ hb))]
section
variable {hp hp2 hp' : List (Nat × Ent)} {sl sl2 : List (Nat × D)} {d : D} {n : Nat}
theorem lend0_agr (h : ∀ id ∈ d.ids0, lk hp2 id = lk hp id) : lend0 hp2 d = lend0 hp d := by
 cases d <;> simp only [lend0]
 rw [h _ (by simp [D.ids0])]
theorem lend0s_agr {cs : List D} (h : ∀ id ∈ cs.flatMap D.ids0, lk hp2 id = lk hp id) : allO (lend0 hp2) cs = allO (lend0 hp) cs :=
 allO_congr fun c hc => lend0_agr fun id hid => h id (List.mem_flatMap.2 ⟨c, hc, hid⟩)
theorem pur_agr (h : ∀ id ∈ d.ids, lk hp2 id = lk hp id) : pur hp2 d = pur hp d := by
 cases d <;> simp only [pur]
 case agg cs => rw [lend0s_agr (by simpa only [D.ids] using h)]
 all_goals exact lend0_agr (by simpa only [D.ids] using h)
theorem lend1_agr (h : ∀ id ∈ d.rch1 hp, lk hp2 id = lk hp id) : lend1 hp2 d = lend1 hp d := by
 cases d <;> simp only [lend1]
 case agg cs => rw [lend0s_agr (by simpa only [D.rch1] using h)]
 case pt id off =>
  simp only [D.rch1] at h
  have h0 := h id (by simp)
  rw [h0]
  split
  ·rename_i cs hcs
   rw [lend0s_agr (fun i hi => h i (by rw [hcs]; exact List.mem_cons_of_mem _ hi))]
  ·rfl
 all_goals exact lend0_agr (by simpa only [D.rch1] using h)
theorem lend_agr (h : ∀ id ∈ d.rch hp, lk hp2 id = lk hp id) : lend hp2 d = lend hp d := by
 cases d <;> simp only [lend]
 case clo f cs =>
  rw [allO_congr fun c hc => lend1_agr fun id hid => h id (List.mem_flatMap.2 ⟨c, hc, hid⟩)]
 all_goals exact lend1_agr (by simpa only [D.rch] using h)
theorem rdS_agr {sz : Nat} (h : ∀ id ∈ d.hd, lk hp2 id = lk hp id) : rdS hp2 sz d = rdS hp sz d := by
 cases d <;> simp only [rdS]
 rw [h _ (by simp [D.hd])]
theorem entSz_agr {id : Nat} (h : lk hp2 id = lk hp id) : entSz hp2 id = entSz hp id := by simp only [entSz, h]
theorem lend0_pres {e : D} (h : lend0 hp d = some e) : ∀ id ∈ d.ids0, lk hp id ≠ none := by
 cases d <;> simp only [D.ids0, List.not_mem_nil, false_implies, implies_true, List.mem_singleton, forall_eq]
 intro hn
 simp [lend0, hn] at h
theorem allO_mem {α β : Type} {f : α → Option β} : ∀ {l : List α} {m : List β}, allO f l = some m → ∀ a ∈ l, ∃ b, f a = some b
 | [], _, _, a, ha => by simp at ha
 | x :: l, m, h, a, ha => by
  simp only [allO] at h
  split at h
  case h_2 => cases h
  rename_i b m' hb hm
  rcases List.mem_cons.1 ha with rfl | ha
  ·exact ⟨b, hb⟩
  ·exact allO_mem hm a ha
theorem lend0s_pres {cs es : List D} (h : allO (lend0 hp) cs = some es) : ∀ id ∈ cs.flatMap D.ids0, lk hp id ≠ none := by
 intro id hid
 obtain ⟨c, hc, hi⟩ := List.mem_flatMap.1 hid
 obtain ⟨e, he⟩ := allO_mem h c hc
 exact lend0_pres he id hi
theorem pur_pres {e : D} (h : pur hp d = some e) : ∀ id ∈ d.ids, lk hp id ≠ none := by
 cases d
 case agg cs =>
  simp only [pur, Option.map_eq_some_iff] at h
  obtain ⟨es, h, _⟩ := h
  exact lend0s_pres h
 all_goals exact lend0_pres (by simpa only [pur] using h)
theorem lend1_pres {e : D} (h : lend1 hp d = some e) : ∀ id ∈ d.rch1 hp, lk hp id ≠ none := by
 cases d
 case agg cs =>
  simp only [lend1, Option.map_eq_some_iff] at h
  obtain ⟨es, h, _⟩ := h
  exact lend0s_pres h
 case pt i off =>
  simp only [lend1] at h
  split at h
  ·rename_i cs hcs
   simp only [Option.map_eq_some_iff] at h
   obtain ⟨es, h, _⟩ := h
   intro id hid
   simp only [D.rch1, hcs, List.mem_cons] at hid
   rcases hid with rfl | hid
   ·simp [hcs]
   ·exact lend0s_pres h id hid
  ·cases h
 case ref cs => intro id hid; simp [D.rch1, D.ids0] at hid
 all_goals exact lend0_pres (by simpa only [lend1] using h)
theorem lend_pres {e : D} (h : lend hp d = some e) : ∀ id ∈ d.rch hp, lk hp id ≠ none := by
 cases d
 case clo f cs =>
  simp only [lend, Option.map_eq_some_iff] at h
  obtain ⟨es, h, _⟩ := h
  intro id hid
  obtain ⟨c, hc, hi⟩ := List.mem_flatMap.1 hid
  obtain ⟨e, he⟩ := allO_mem h c hc
  exact lend1_pres he id hi
 all_goals exact lend1_pres (by simpa only [lend] using h)
theorem rdS_pres {sz : Nat} {l : List D} (h : rdS hp sz d = some l) : ∀ id ∈ d.hd, lk hp id ≠ none := by
 cases d <;> simp only [D.hd, List.not_mem_nil, false_implies, implies_true, List.mem_singleton, forall_eq]
 ·intro hn; simp [rdS, hn] at h
 ·simp [rdS] at h
 ·simp [rdS] at h
theorem entSz_pres {id s : Nat} (h : entSz hp id = some s) : lk hp id ≠ none := by
 intro hn; simp [entSz, hn] at h
theorem evL_of {x : X} (h : ev sl x = some d) : evL sl x = d := by simp [evL, h]
theorem buildSlGo_agr {sz : Nat} : ∀ {ps : List (Nat × X)} {es : List D}, (∀ id ∈ ps.flatMap fun p => (evL sl p.2).ids, lk hp2 id = lk hp id) → buildSlGo sl hp2 sz ps es = buildSlGo sl hp sz ps es
 | [], _, _ => rfl
 | (i, x) :: ps, es, h => by
  simp only [buildSlGo]
  split
  ·rename_i d hd
   rw [pur_agr (fun id hid => h id (by simp only [List.flatMap_cons, List.mem_append, evL_of hd]; exact .inl hid))]
   split
   ·split
    ·rw [buildSlGo_agr (fun id hid => h id (by simp only [List.flatMap_cons, List.mem_append]; exact .inr hid))]
    ·rfl
   ·rfl
  ·rfl
theorem buildSlGo_pres {sz : Nat} : ∀ {ps : List (Nat × X)} {es l : List D} {f : List Nat}, buildSlGo sl hp sz ps es = some (l, f) →
  f = (ps.flatMap fun p => (evL sl p.2).ids) ∧ ∀ id ∈ ps.flatMap fun p => (evL sl p.2).ids, lk hp id ≠ none
 | [], es, l, f, h => by
  simp only [buildSlGo, Option.some.injEq, Prod.mk.injEq] at h
  simp [← h.2]
 | (i, x) :: ps, es, l, f, h => by
  simp only [buildSlGo] at h
  split at h
  case h_2 => cases h
  rename_i d hd
  split at h
  case h_2 => cases h
  rename_i e he
  split at h
  case isFalse => cases h
  simp only [Option.map_eq_some_iff] at h
  obtain ⟨⟨l', f'⟩, h, hh⟩ := h
  simp only [Prod.mk.injEq] at hh
  obtain ⟨h1, h2⟩ := buildSlGo_pres h
  rw [List.flatMap_cons, evL_of hd, ← hh.2, h1]
  refine ⟨rfl, fun id hid => ?_⟩
  rcases List.mem_append.1 hid with hid | hid
  ·exact pur_pres he id hid
  ·exact h2 id hid
theorem fr_pure {op : LOp} (hg : ∀ hp, eff n sl hp op = (eff n sl [] op).map fun p => (p.1, hp)) (hr : rdI sl hp op = []) (he : eff n sl hp op = some (d, hp')) :
  ∃ T, hp' = T hp ∧ Loc (fun id => id ∈ muI sl op ∨ (op.ck = true ∧ n ≤ id ∧ id < n + 64)) T ∧
  (∀ id ∈ rdI sl hp op, lk hp id ≠ none) ∧ ∀ hp2, (∀ id ∈ rdI sl hp op, lk hp2 id = lk hp id) → eff n sl hp2 op = some (d, T hp2) := by
 rw [hg, Option.map_eq_some_iff] at he
 obtain ⟨p, hp0, hh⟩ := he
 simp only [Prod.mk.injEq] at hh
 obtain ⟨rfl, rfl⟩ := hh
 exact ⟨fun l => l, rfl, Loc.id, by simp [hr], fun hp2 _ => by rw [hg, hp0]; rfl⟩
theorem fr_new {op : LOp} {g : Option (D × Ent)} (hck : op.ck = true) (hg : ∀ hp, eff n sl hp op = g.map fun p => (p.1, up hp n p.2)) (hr : rdI sl hp op = []) (he : eff n sl hp op = some (d, hp')) :
  ∃ T, hp' = T hp ∧ Loc (fun id => id ∈ muI sl op ∨ (op.ck = true ∧ n ≤ id ∧ id < n + 64)) T ∧
  (∀ id ∈ rdI sl hp op, lk hp id ≠ none) ∧ ∀ hp2, (∀ id ∈ rdI sl hp op, lk hp2 id = lk hp id) → eff n sl hp2 op = some (d, T hp2) := by
 rw [hg, Option.map_eq_some_iff] at he
 obtain ⟨p, hp0, hh⟩ := he
 simp only [Prod.mk.injEq] at hh
 obtain ⟨rfl, rfl⟩ := hh
 exact ⟨fun l => up l n p.2, rfl, Loc.up (.inr ⟨hck, by omega⟩), by simp [hr], fun hp2 _ => by rw [hg, hp0]; rfl⟩
theorem fr_read {op : LOp} (hp0 : hp' = hp) (hp1 : ∀ id ∈ rdI sl hp op, lk hp id ≠ none) (hp2 : ∀ hp2, (∀ id ∈ rdI sl hp op, lk hp2 id = lk hp id) → eff n sl hp2 op = some (d, hp2)) :
  ∃ T, hp' = T hp ∧ Loc (fun id => id ∈ muI sl op ∨ (op.ck = true ∧ n ≤ id ∧ id < n + 64)) T ∧
  (∀ id ∈ rdI sl hp op, lk hp id ≠ none) ∧ ∀ hp2, (∀ id ∈ rdI sl hp op, lk hp2 id = lk hp id) → eff n sl hp2 op = some (d, T hp2) :=
 ⟨fun l => l, hp0, Loc.id, hp1, hp2⟩
set_option maxHeartbeats 2000000 in
theorem eff_frame {op : LOp} (he : eff n sl hp op = some (d, hp')) : ∃ T, hp' = T hp ∧ Loc (fun id => id ∈ muI sl op ∨ (op.ck = true ∧ n ≤ id ∧ id < n + 64)) T ∧
  (∀ id ∈ rdI sl hp op, lk hp id ≠ none) ∧ ∀ hp2, (∀ id ∈ rdI sl hp op, lk hp2 id = lk hp id) → eff n sl hp2 op = some (d, T hp2) := by
 have fr : n ≤ n ∧ n < n + 64 := by omega
 cases op
 case alloc z => exact fr_new rfl (g := some (.pt n 0, .box z)) (fun _ => rfl) rfl he
 case bx x => exact fr_new rfl (g := ((ev sl x).bind cellsO).map fun cs => (.pt n 0, .box cs)) (fun hp => by simp only [eff, Option.map_map]; rfl) rfl he
 case makeSl s b z x =>
  refine fr_new rfl (g := match (ev sl x).bind asI with | some m => if 0 ≤ m ∧ fits m.toNat b then some (.sl n 0 m.toNat, .arr s (List.replicate m.toNat z)) else none | none => none) (fun hp => ?_) rfl he
  cases h : (ev sl x).bind asI with
  | none => simp [eff, h]
  | some m => by_cases hc : 0 ≤ m ∧ fits m.toNat b = true <;> simp [eff, h, hc]
 case load ag m x =>
  simp only [eff] at he
  split at he
  ·rename_i id off hx
   split at he
   ·rename_i cs hl
    simp only [Option.map_eq_some_iff, Prod.mk.injEq] at he
    obtain ⟨d', hd, rfl, rfl⟩ := he
    refine fr_read rfl ?_ fun hp2 h => ?_
    ·simp [rdI, evL_of hx, D.hd, hl]
    ·simp [rdI, evL_of hx, D.hd] at h
     simp [eff, hx, h, hl, hd]
   ·cases he
  ·rename_i cs hx
   simp only [Option.map_eq_some_iff, Prod.mk.injEq] at he
   obtain ⟨d', hd, rfl, rfl⟩ := he
   refine fr_read rfl ?_ fun hp2 h => ?_
   ·simp [rdI, evL_of hx, D.hd]
   ·simp [eff, hx, hd]
  ·rename_i id i off hx
   split at he
   ·rename_i sz xs hl
    split at he
    ·rename_i e hxe
     simp only [Option.map_eq_some_iff, Prod.mk.injEq] at he
     obtain ⟨d', hd, rfl, rfl⟩ := he
     refine fr_read rfl ?_ fun hp2 h => ?_
     ·simp [rdI, evL_of hx, D.hd, hl]
     ·simp [rdI, evL_of hx, D.hd] at h
      simp [eff, hx, h, hl, hxe, hd]
    ·cases he
   ·rename_i sz xs hl
    split at he
    ·rename_i e hxe
     simp only [Option.map_eq_some_iff, Prod.mk.injEq] at he
     obtain ⟨d', hd, rfl, rfl⟩ := he
     refine fr_read rfl ?_ fun hp2 h => ?_
     ·simp [rdI, evL_of hx, D.hd, hl]
     ·simp [rdI, evL_of hx, D.hd] at h
      simp [eff, hx, h, hl, hxe, hd]
    ·cases he
   ·cases he
  ·cases he
 case slc s x lo hi =>
  simp only [eff] at he
  split at he
  ·rename_i id lo0 len l hx hlo
   split at he
   ·rename_i h hhi
    split at he
    ·rename_i hc
     simp only [Option.some.injEq, Prod.mk.injEq] at he
     obtain ⟨rfl, rfl⟩ := he
     have hp0 : lk hp id ≠ none := entSz_pres hc.2.2.2
     refine fr_read rfl ?_ fun hp2 hh => ?_
     ·simp [rdI, evL_of hx, D.hd, hp0]
     ·simp [rdI, evL_of hx, D.hd] at hh
      simp only [eff, hx, hlo, hhi]
      rw [if_pos ⟨hc.1, hc.2.1, hc.2.2.1, by rw [entSz_agr hh]; exact hc.2.2.2⟩]
    ·cases he
   ·cases he
  ·rename_i s' xs l hx hlo
   split at he
   ·rename_i h hhi
    split at he
    ·rename_i hc
     simp only [Option.some.injEq, Prod.mk.injEq] at he
     obtain ⟨rfl, rfl⟩ := he
     refine fr_read rfl ?_ fun hp2 hh => ?_
     ·simp [rdI, evL_of hx, D.hd]
     ·simp only [eff, hx, hlo, hhi]
      rw [if_pos hc]
    ·cases he
   ·cases he
  ·rename_i s' l hx hlo
   split at he
   ·rename_i h hhi
    split at he
    ·rename_i hc
     simp only [Option.some.injEq, Prod.mk.injEq] at he
     obtain ⟨rfl, rfl⟩ := he
     refine fr_read rfl ?_ fun hp2 hh => ?_
     ·simp [rdI, evL_of hx, D.hd]
     ·simp only [eff, hx, hlo, hhi]
      rw [if_pos hc]
    ·cases he
   ·cases he
  ·cases he
 case bad => simp [eff] at he
 case mkn s b x =>
  refine fr_new rfl (g := match (ev sl x).bind asI with | some m => if 0 ≤ m ∧ fits m.toNat b then some (.sl n 0 m.toNat, .nst s (List.replicate m.toNat (some []))) else none | none => none) (fun hp => ?_) rfl he
  cases h : (ev sl x).bind asI with
  | none => simp [eff, h]
  | some m => by_cases hc : 0 ≤ m ∧ fits m.toNat b = true <;> simp [eff, h, hc]
 case tk x =>
  simp only [eff] at he
  split at he
  case h_2 => cases he
  rename_i id i off hx
  split at he
  case h_2 => cases he
  rename_i sz l hl
  split at he
  case h_2 => cases he
  rename_i xs hli
  split at he
  case isFalse => cases he
  rename_i hoff
  simp only [Option.some.injEq, Prod.mk.injEq] at he
  obtain ⟨rfl, rfl⟩ := he
  refine ⟨fun hp => up (up hp id (.nst sz (l.set i none))) n (.arr sz xs), rfl, Loc.comp (Loc.up (.inr ⟨rfl, fr⟩)) (Loc.up (.inl (by simp [muI, evL_of hx, D.hd]))), by simp [rdI, evL_of hx, D.hd, hl], fun hp2 hh => ?_⟩
  simp [rdI, evL_of hx, D.hd] at hh
  simp only [eff, hx, hh, hl, hli]
  rw [if_pos hoff]
 case pu a x =>
  simp only [eff] at he
  split at he
  case h_2 => cases he
  rename_i id i off m lo len ha hx
  split at he
  case h_2 => cases he
  rename_i sz l sz' xs hl hm
  split at he
  case isFalse => cases he
  rename_i hc
  simp only [Option.some.injEq, Prod.mk.injEq] at he
  obtain ⟨rfl, rfl⟩ := he
  refine ⟨fun hp => up (rm hp m) id (.nst sz (l.set i (some xs))), rfl, Loc.comp (Loc.up (.inl (by simp [muI, evL_of ha, D.hd]))) (Loc.rm (.inl (by simp [muI, evL_of hx, D.hd]))), by simp [rdI, evL_of ha, evL_of hx, D.hd, hl, hm], fun hp2 hh => ?_⟩
  simp [rdI, evL_of ha, evL_of hx, D.hd] at hh
  simp only [eff, ha, hx, hh.1, hh.2, hl, hm]
  rw [if_pos hc]
 case clr s x =>
  simp only [eff] at he
  split at he
  ·rename_i sz' hx
   simp only [Option.some.injEq, Prod.mk.injEq] at he
   obtain ⟨rfl, rfl⟩ := he
   refine fr_read rfl ?_ fun hp2 h => ?_
   ·simp [rdI, evL_of hx, D.hd]
   ·simp [eff, hx]
  ·rename_i id lo len hx
   split at he
   ·rename_i sz' xs hl
    split at he
    ·rename_i hc
     simp only [Option.some.injEq, Prod.mk.injEq] at he
     obtain ⟨rfl, rfl⟩ := he
     refine ⟨fun l => up l id (.arr s (xs.take lo)), rfl, Loc.up (.inl (by simp [muI, evL_of hx, D.hd])), ?_, fun hp2 h => ?_⟩
     ·simp [rdI, evL_of hx, D.hd, hl]
     ·simp [rdI, evL_of hx, D.hd] at h
      simp only [eff, hx, h, hl]
      rw [if_pos hc]
    ·cases he
   ·cases he
  ·cases he
 case appz s b z x l =>
  refine fr_new rfl (g := match ev sl x, (ev sl l).bind asI with | some (.nl _), some m => if 0 < m ∧ fits m.toNat b then some (.sl n 0 m.toNat, .arr s (List.replicate m.toNat z)) else none | _, _ => none) (fun hp => ?_) rfl he
  simp only [eff]
  split
  ·rename_i h1 h2
   simp only [h1, h2]
   split <;> rfl
  ·rename_i h1
   split
   ·rename_i h2 h3
    exact absurd h3 (fun h3 => h1 _ _ h2 h3)
   ·rfl
 case iad s x i =>
  simp only [eff] at he
  split at he
  ·rename_i id lo len j hx hj
   split at he
   ·rename_i hc
    simp only [Option.some.injEq, Prod.mk.injEq] at he
    obtain ⟨rfl, rfl⟩ := he
    have hp0 : lk hp id ≠ none := entSz_pres hc.2.2
    refine fr_read rfl ?_ fun hp2 hh => ?_
    ·simp [rdI, evL_of hx, D.hd, hp0]
    ·simp [rdI, evL_of hx, D.hd] at hh
     simp only [eff, hx, hj]
     rw [if_pos ⟨hc.1, hc.2.1, by rw [entSz_agr hh]; exact hc.2.2⟩]
   ·cases he
  ·rename_i s' xs j hx hj
   split at he
   ·rename_i hc
    split at he
    ·rename_i e hxe
     simp only [Option.some.injEq, Prod.mk.injEq] at he
     obtain ⟨rfl, rfl⟩ := he
     refine fr_read rfl ?_ fun hp2 hh => ?_
     ·simp [rdI, evL_of hx, D.hd]
     ·simp only [eff, hx, hj]
      rw [if_pos hc]
      simp [hxe]
    ·cases he
   ·cases he
  ·cases he
 case store m a x =>
  simp only [eff] at he
  split at he
  ·rename_i id off d0 ha hx
   split at he
   ·rename_i cs l hl hcl
    split at he
    ·rename_i hc
     simp only [Option.some.injEq, Prod.mk.injEq] at he
     obtain ⟨rfl, rfl⟩ := he
     refine ⟨fun hp => up hp id (.box (splice cs off l)), rfl, Loc.up (.inl (by simp [muI, evL_of ha])), by simp [rdI, evL_of ha, hl], fun hp2 hh => ?_⟩
     simp [rdI, evL_of ha] at hh
     simp only [eff, ha, hx, hh, hl, hcl]
     rw [if_pos hc]
    ·cases he
   ·cases he
  ·rename_i id i off d0 ha hx
   split at he
   ·rename_i sz xs hl
    split at he
    ·rename_i e d' hxe hpu
     split at he
     ·rename_i hc
      have hids : ∀ j ∈ d0.ids, j ∈ muI sl (.store m a x) := fun j hj => by simp [muI, evL_of ha, evL_of hx, hj]
      have hid : id ∈ muI sl (.store m a x) := by simp [muI, evL_of ha]
      have hpre : ∀ j ∈ rdI sl hp (.store m a x), lk hp j ≠ none := by
       intro j hj
       simp only [rdI, evL_of ha, evL_of hx, List.mem_cons] at hj
       rcases hj with rfl | hj
       ·simp [hl]
       ·exact pur_pres hpu j hj
      have hagr : ∀ hp2, (∀ j ∈ rdI sl hp (.store m a x), lk hp2 j = lk hp j) → lk hp2 id = some (.arr sz xs) ∧ pur hp2 d0 = some d' := by
       intro hp2 hh
       simp only [rdI, evL_of ha, evL_of hx] at hh
       exact ⟨by rw [hh id (by simp), hl], by rw [pur_agr fun j hj => hh j (by simp [hj])]; exact hpu⟩
      split at he
      ·rename_i hms
       split at he
       ·rename_i hok
        simp only [Option.some.injEq, Prod.mk.injEq] at he
        obtain ⟨rfl, rfl⟩ := he
        refine ⟨fun hp => up (freezeIds d0.ids hp) id (.arr sz (xs.set i d')), rfl, Loc.comp (Loc.up (.inl hid)) (Loc.freeze fun j hj => .inl (hids j hj)), hpre, fun hp2 hh => ?_⟩
        obtain ⟨h1, h2⟩ := hagr hp2 hh
        simp only [eff, ha, hx, h1, h2, hxe]
        rw [if_pos hc, if_pos hms, if_pos hok]
       ·cases he
      ·rename_i hms
       split at he
       ·rename_i hok
        simp only [Option.some.injEq, Prod.mk.injEq] at he
        obtain ⟨rfl, rfl⟩ := he
        refine ⟨fun hp => up (freezeIds d0.ids hp) id (.arr sz (xs.set i (.agg (splice e.cells off d'.cells)))), rfl, Loc.comp (Loc.up (.inl hid)) (Loc.freeze fun j hj => .inl (hids j hj)), hpre, fun hp2 hh => ?_⟩
        obtain ⟨h1, h2⟩ := hagr hp2 hh
        simp only [eff, ha, hx, h1, h2, hxe]
        rw [if_pos hc, if_neg hms, if_pos hok]
       ·cases he
     ·cases he
    ·cases he
   ·cases he
  ·cases he
 case app s b x y =>
  simp only [eff] at he
  split at he
  ·rename_i z ys hx hy
   cases hy0 : ev sl y with
   | none => rw [hy0] at hy; cases hy
   | some dy =>
   rw [hy0, Option.bind_some] at hy
   split at he
   ·rename_i hc
    simp only [Option.some.injEq, Prod.mk.injEq] at he
    obtain ⟨rfl, rfl⟩ := he
    refine ⟨fun hp => up hp n (.arr s ys), rfl, Loc.up (.inr ⟨rfl, fr⟩), ?_, fun hp2 hh => ?_⟩
    ·simp only [rdI, evL_of hx, evL_of hy0]; simpa [D.hd] using rdS_pres hy
    ·simp only [rdI, evL_of hx, evL_of hy0] at hh
     have : rdS hp2 s dy = some ys := by rw [rdS_agr fun j hj => hh j (by simp [hj]), hy]
     simp only [eff, hx, hy0, Option.bind_some, this]
     rw [if_pos hc]
   ·cases he
  ·rename_i id lo len ys hx hy
   cases hy0 : ev sl y with
   | none => rw [hy0] at hy; cases hy
   | some dy =>
   rw [hy0, Option.bind_some] at hy
   split at he
   ·rename_i sz' xs hl
    have hid : id ∈ muI sl (.app s b x y) := by simp [muI, evL_of hx, D.hd]
    have hr : rdI sl hp (.app s b x y) = id :: dy.hd := by simp only [rdI, evL_of hx, evL_of hy0]; rfl
    have hpre : ∀ j ∈ rdI sl hp (.app s b x y), lk hp j ≠ none := by
     intro j hj
     rw [hr, List.mem_cons] at hj
     rcases hj with rfl | hj
     ·simp [hl]
     ·exact rdS_pres hy j hj
    have hagr : ∀ hp2, (∀ j ∈ rdI sl hp (.app s b x y), lk hp2 j = lk hp j) → lk hp2 id = some (.arr sz' xs) ∧ rdS hp2 s dy = some ys := by
     intro hp2 hh
     rw [hr] at hh
     exact ⟨by rw [hh id (by simp), hl], by rw [rdS_agr fun j hj => hh j (by simp [hj]), hy]⟩
    split at he
    ·rename_i hc
     split at he
     ·rename_i hlen
      simp only [Option.some.injEq, Prod.mk.injEq] at he
      obtain ⟨rfl, rfl⟩ := he
      refine ⟨fun hp => up (rm hp id) n (.arr s (xs ++ ys)), rfl, Loc.comp (Loc.up (.inr ⟨rfl, fr⟩)) (Loc.rm (.inl hid)), hpre, fun hp2 hh => ?_⟩
      obtain ⟨h1, h2⟩ := hagr hp2 hh
      simp only [eff, hx, hy0, Option.bind_some, h1, h2]
      rw [if_pos hc, if_pos hlen]
     ·rename_i hlen
      split at he
      ·rename_i hle
       simp only [Option.some.injEq, Prod.mk.injEq] at he
       obtain ⟨rfl, rfl⟩ := he
       refine ⟨fun hp => up (rm hp id) n (.arr s (xs.take len ++ ys)), rfl, Loc.comp (Loc.up (.inr ⟨rfl, fr⟩)) (Loc.rm (.inl hid)), hpre, fun hp2 hh => ?_⟩
       obtain ⟨h1, h2⟩ := hagr hp2 hh
       simp only [eff, hx, hy0, Option.bind_some, h1, h2]
       rw [if_pos hc, if_neg hlen, if_pos hle]
      ·cases he
    ·cases he
   ·cases he
  ·cases he
 case buildSl s b z m ps =>
  simp only [eff] at he
  split at he
  ·rename_i hf
   simp only [Option.map_eq_some_iff] at he
   obtain ⟨⟨es, f⟩, hb, hh⟩ := he
   simp only [Prod.mk.injEq] at hh
   obtain ⟨rfl, rfl⟩ := hh
   obtain ⟨h1, h2⟩ := buildSlGo_pres hb
   refine ⟨fun hp => up (freezeIds f hp) n (.arr s es), rfl, Loc.comp (Loc.up (.inr ⟨rfl, fr⟩)) (Loc.freeze fun j hj => .inl (by rw [h1] at hj; exact hj)), h2, fun hp2 hh => ?_⟩
   simp only [eff]
   rw [if_pos hf, buildSlGo_agr hh, hb]
   rfl
  ·cases he
 case call | callv | callm => simp [eff] at he
 all_goals
  refine fr_pure (fun hp => ?_) rfl he
  simp only [eff]
  repeat' split
  all_goals first
   | rfl
   | (simp only [Option.map_map]; rfl)
   | (simp; done)
end
section
variable {hp hp2 hp' : List (Nat × Ent)} {sl sl2 : List (Nat × D)} {d : D} {n : Nat}
theorem buildGo_sl : ∀ {ps : List (Nat × Nat × X)} {cs : List D}, (∀ p ∈ ps, ev sl2 p.2.2 = ev sl p.2.2) → buildGo sl2 ps cs = buildGo sl ps cs
 | [], _, _ => rfl
 | (a, b, x) :: ps, cs, h => by
  simp only [buildGo, h (a, b, x) (by simp)]
  split
  ·split
   ·exact buildGo_sl fun p hp => h p (List.mem_cons_of_mem _ hp)
   ·rfl
  ·rfl
theorem buildSlGo_sl {sz : Nat} : ∀ {ps : List (Nat × X)} {es : List D}, (∀ p ∈ ps, ev sl2 p.2 = ev sl p.2) → buildSlGo sl2 hp sz ps es = buildSlGo sl hp sz ps es
 | [], _, _ => rfl
 | (a, x) :: ps, es, h => by
  simp only [buildSlGo, h (a, x) (by simp)]
  split
  ·split
   ·split
    ·rw [buildSlGo_sl fun p hp => h p (List.mem_cons_of_mem _ hp)]
    ·rfl
   ·rfl
  ·rfl
theorem optI_sl {d0 : Int} {x : Option X} (h : ∀ y ∈ x.toList, ev sl2 y = ev sl y) : optI sl2 d0 x = optI sl d0 x := by
 cases x with
 | none => rfl
 | some y => simp only [optI, h y (by simp)]
theorem eff_sl {op : LOp} (h : ∀ x ∈ op.xs, ev sl2 x = ev sl x) : eff n sl2 hp op = eff n sl hp op := by
 cases op <;> simp only [LOp.xs, List.mem_cons, List.not_mem_nil, or_false, forall_eq_or_imp, forall_eq, List.mem_append, List.mem_map, forall_exists_index, and_imp, forall_apply_eq_imp_iff₂] at h
 case build z ps => simp only [eff, buildGo_sl (fun p hp => h p hp)]
 case buildSl s b z m ps => simp only [eff, buildSlGo_sl (fun p hp => h p hp)]
 case slc s x lo hi => simp only [eff, h.1, optI_sl (fun y hy => h.2 y (.inl hy)), optI_sl (fun y hy => h.2 y (.inr hy))]
 case mkf f l => simp only [eff, allO_congr h]
 case mn l => simp only [eff, allO_congr h]
 case mx l => simp only [eff, allO_congr h]
 case call => simp only [eff]
 case callv => simp only [eff]
 all_goals first | rfl | simp only [eff, h]
theorem adopt0_rng : n ≤ (adopt0 n d).2.2 ∧ ∀ p ∈ (adopt0 n d).2.1, n ≤ p.1 ∧ p.1 < (adopt0 n d).2.2 := by
 cases d <;> simp [adopt0]
theorem adopts_rng {f : Nat → D → D × List (Nat × Ent) × Nat} (hf : ∀ n d, n ≤ (f n d).2.2 ∧ ∀ p ∈ (f n d).2.1, n ≤ p.1 ∧ p.1 < (f n d).2.2) :
  ∀ {ds : List D} {n : Nat}, n ≤ (adopts f n ds).2.2 ∧ ∀ p ∈ (adopts f n ds).2.1, n ≤ p.1 ∧ p.1 < (adopts f n ds).2.2
 | [], n => by simp [adopts]
 | d :: ds, n => by
  obtain ⟨h1, h2⟩ := hf n d
  obtain ⟨h3, h4⟩ := adopts_rng hf (ds := ds) (n := (f n d).2.2)
  simp only [adopts]
  refine ⟨Nat.le_trans h1 h3, fun p hp => ?_⟩
  rcases List.mem_append.1 hp with hp | hp
  ·exact ⟨(h2 p hp).1, Nat.lt_of_lt_of_le (h2 p hp).2 h3⟩
  ·exact ⟨Nat.le_trans h1 (h4 p hp).1, (h4 p hp).2⟩
theorem adoptB_rng : n ≤ (adoptB n d).2.2 ∧ ∀ p ∈ (adoptB n d).2.1, n ≤ p.1 ∧ p.1 < (adoptB n d).2.2 := by
 cases d <;> simp only [adoptB]
 case box cs =>
  obtain ⟨h1, h2⟩ := adopts_rng (f := adopt0) (fun n d => adopt0_rng) (ds := cs) (n := n + 1)
  refine ⟨by omega, fun p hp => ?_⟩
  rcases List.mem_cons.1 hp with rfl | hp
  ·simp only; omega
  ·have := h2 p hp; omega
 all_goals exact adopt0_rng
theorem adopt1_rng : n ≤ (adopt1 n d).2.2 ∧ ∀ p ∈ (adopt1 n d).2.1, n ≤ p.1 ∧ p.1 < (adopt1 n d).2.2 := by
 cases d <;> simp only [adopt1]
 case agg cs => exact adopts_rng (fun n d => adopt0_rng)
 case clb f cs => exact adopts_rng (fun n d => adoptB_rng)
 case box cs =>
  obtain ⟨h1, h2⟩ := adopts_rng (f := adopt0) (fun n d => adopt0_rng) (ds := cs) (n := n + 1)
  refine ⟨by omega, fun p hp => ?_⟩
  rcases List.mem_cons.1 hp with rfl | hp
  ·simp only; omega
  ·have := h2 p hp; omega
 all_goals exact adopt0_rng
theorem adopt_rng : n ≤ (adopt n d).2.2 ∧ ∀ p ∈ (adopt n d).2.1, n ≤ p.1 ∧ p.1 < (adopt n d).2.2 := by
 cases d <;> simp only [adopt]
 case tup cs => exact adopts_rng (fun n d => adopt1_rng)
 all_goals exact adopt1_rng
theorem expel0_frame {e : D} (h : expel0 hp d = some (e, hp')) : ∃ T, hp' = T hp ∧ Loc (fun id => id ∈ d.ids) T ∧ (∀ (l : List (Nat × Ent)) id e, lk (T l) id = some e → lk l id = some e) ∧ (∀ id ∈ d.rch hp, lk hp id ≠ none) ∧
  ∀ hp2, (∀ id ∈ d.ids, lk hp2 id = lk hp id) → expel0 hp2 d = some (e, T hp2) := by
 cases d <;> simp only [expel0, reduceCtorEq] at h
 case sl id lo len =>
  have hid : id ∈ D.ids (.sl id lo len) := by simp [D.ids, D.ids0]
  have hpre : ∀ e, lk hp id = some e → ∀ i ∈ D.rch hp (.sl id lo len), lk hp i ≠ none := by
   intro e he i hi
   simp only [D.rch, D.rch1, D.ids0, List.mem_singleton] at hi
   subst hi
   rw [he]; simp
  have rmc : ∀ (l : List (Nat × Ent)) i e, lk (rm l id) i = some e → lk l i = some e := by
   intro l i e he
   rw [lk_rm] at he
   split at he
   ·cases he
   ·exact he
  split at h
  ·rename_i sz xs hl
   split at h
   case isFalse => cases h
   rename_i hlo
   split at h
   ·rename_i hlen
    simp only [Option.some.injEq, Prod.mk.injEq] at h
    obtain ⟨rfl, rfl⟩ := h
    exact ⟨fun l => rm l id, rfl, Loc.rm hid, rmc, hpre _ hl, fun hp2 hh => by simp only [expel0, hh id hid, hl, hlo, hlen, if_true]⟩
   ·rename_i hlen
    split at h
    ·rename_i hle
     simp only [Option.some.injEq, Prod.mk.injEq] at h
     obtain ⟨rfl, rfl⟩ := h
     exact ⟨fun l => rm l id, rfl, Loc.rm hid, rmc, hpre _ hl, fun hp2 hh => by simp only [expel0, hh id hid, hl, hlo, if_true]; rw [if_neg hlen, if_pos hle]⟩
    ·cases h
  ·rename_i sz xs hl
   split at h
   ·rename_i hc
    simp only [Option.some.injEq, Prod.mk.injEq] at h
    obtain ⟨rfl, rfl⟩ := h
    exact ⟨fun l => l, rfl, Loc.id, fun _ _ _ h => h, hpre _ hl, fun hp2 hh => by simp only [expel0, hh id hid, hl]; rw [if_pos hc]⟩
   ·rename_i hc
    split at h
    ·rename_i hle
     simp only [Option.some.injEq, Prod.mk.injEq] at h
     obtain ⟨rfl, rfl⟩ := h
     exact ⟨fun l => l, rfl, Loc.id, fun _ _ _ h => h, hpre _ hl, fun hp2 hh => by simp only [expel0, hh id hid, hl]; rw [if_neg hc, if_pos hle]⟩
    ·cases h
  ·cases h
 all_goals
  simp only [Option.some.injEq, Prod.mk.injEq] at h
  obtain ⟨rfl, rfl⟩ := h
  exact ⟨fun l => l, rfl, Loc.id, fun _ _ _ h => h, by simp [D.rch, D.rch1, D.ids0], fun hp2 _ => rfl⟩
theorem expelN_frame {e : D} (h : expelN hp d = some (e, hp')) : ∃ T, hp' = T hp ∧ Loc (fun id => id ∈ d.ids) T ∧ (∀ (l : List (Nat × Ent)) id e, lk (T l) id = some e → lk l id = some e) ∧ (∀ id ∈ d.rch hp, lk hp id ≠ none) ∧
  ∀ hp2, (∀ id ∈ d.ids, lk hp2 id = lk hp id) → expelN hp2 d = some (e, T hp2) := by
 cases d <;> simp only [expelN] at h ⊢
 case nl s =>
  simp only [Option.some.injEq, Prod.mk.injEq] at h
  obtain ⟨rfl, rfl⟩ := h
  exact ⟨fun l => l, rfl, Loc.id, fun _ _ _ h => h, by simp [D.rch, D.rch1, D.ids0], fun hp2 _ => rfl⟩
 all_goals exact expel0_frame h
def D.nPc : D → Bool
 | .pt .. | .clo .. => false
 | _ => true
theorem expelN_flat {e : D} (h : expelN hp d = some (e, hp')) : D.rch hp d = d.ids ∧ d.nPc = true := by
 cases d <;> simp only [expelN, expel0, reduceCtorEq] at h <;> simp [D.rch, D.rch1, D.ids, D.ids0, D.nPc]
theorem Loc.mono {S S' : Nat → Prop} {T : List (Nat × Ent) → List (Nat × Ent)} (h : Loc S T) (hs : ∀ id, S id → S' id) : Loc S' T :=
 ⟨fun l id hn => h.out l id fun hh => hn (hs id hh), fun l m he id hi => by
  by_cases hS : S id
  ·exact h.same l m (fun i hi => he i (hs i hi)) id hS
  ·rw [h.out l id hS, h.out m id hS]; exact he id hi⟩
theorem rdOf_sub : ∀ {md : List Md} {ds : List D}, ∀ d ∈ rdOf md ds, d ∈ ds
 | [], ds, d, h => by cases ds <;> simpa [rdOf] using h
 | m :: md, [], d, h => by cases m <;> simp [rdOf] at h
 | m :: md, c :: ds, d, h => by
  cases m
  case rd =>
   rcases List.mem_cons.1 h with rfl | h
   ·simp
   ·exact List.mem_cons_of_mem _ (rdOf_sub d h)
  all_goals exact List.mem_cons_of_mem _ (rdOf_sub (md := md) d h)
theorem giveR_agr : ∀ {md : List Md} {es : List D}, (∀ d ∈ rdOf md es, ∀ id ∈ d.rch hp, lk hp2 id = lk hp id) → giveR hp2 md es = giveR hp md es
 | [], es, h => by
  have e1 : ∀ hp, giveR hp [] es = allO (lend hp) es := fun hp => by cases es <;> rfl
  have e2 : rdOf [] es = es := by cases es <;> rfl
  rw [e1, e1]
  rw [e2] at h
  exact allO_congr fun d hd => lend_agr (h d hd)
 | m :: md, [], _ => by cases m <;> rfl
 | m :: md, e :: es, h => by
  by_cases hm : m = .rd
  ·subst hm
   simp only [giveR]
   rw [lend_agr (h e (by simp [rdOf])), giveR_agr (fun d hd => h d (by simp only [rdOf]; exact List.mem_cons_of_mem _ hd))]
  ·rw [giveR_own hm, giveR_own hm, giveR_agr (fun d hd => h d (by rw [rdOf_own hm]; exact hd))]
theorem lend1_rch {e : D} (hs : Sub hp2 hp) (h : lend1 hp2 d = some e) : d.rch1 hp = d.rch1 hp2 := by
 cases d <;> simp only [D.rch1]
 case pt id off =>
  simp only [lend1] at h
  split at h
  ·rename_i cs hcs
   simp only [hs _ _ hcs, hcs]
  ·cases h
theorem lend_rch {e : D} (hs : Sub hp2 hp) (h : lend hp2 d = some e) : d.rch hp = d.rch hp2 := by
 cases d <;> simp only [D.rch] <;> simp only [lend] at h
 case clo f cs =>
  simp only [Option.map_eq_some_iff] at h
  obtain ⟨l, hl, _⟩ := h
  have : ∀ c ∈ cs, D.rch1 hp c = D.rch1 hp2 c := fun c hc => let ⟨e, he⟩ := allO_mem hl c hc; lend1_rch hs he
  clear hl
  induction cs with
  | nil => rfl
  | cons c cs ih => rw [List.flatMap_cons, List.flatMap_cons, this c (by simp), ih fun c hc => this c (List.mem_cons_of_mem _ hc)]
 all_goals exact lend1_rch hs h
theorem giveOs_frame : ∀ {md : List Md} {ds es : List D} {hp hp' : List (Nat × Ent)}, giveOs hp md ds = some (es, hp') → md.contains .mp = false →
  ∃ T, hp' = T hp ∧ Loc (fun id => id ∈ ds.flatMap D.ids) T ∧ (∀ (l : List (Nat × Ent)) id e, lk (T l) id = some e → lk l id = some e) ∧ (∀ d ∈ ds, d ∈ rdOf md ds ∨ (d.rch hp = d.ids ∧ ∀ id ∈ d.ids, lk hp id ≠ none)) ∧ rdOf md es = rdOf md ds ∧
   (∀ i ∈ muIdx 0 md, ∀ y, ds[i]? = some y → y.nPc = true) ∧ ∀ hp2, (∀ id ∈ ds.flatMap D.ids, lk hp2 id = lk hp id) → giveOs hp2 md ds = some (es, T hp2)
 | [], ds, es, hp, hp', h, _ => by
  have : es = ds ∧ hp' = hp := by cases ds <;> simp only [giveOs, Option.some.injEq, Prod.mk.injEq] at h <;> exact ⟨h.1.symm, h.2.symm⟩
  obtain ⟨rfl, rfl⟩ := this
  have e2 : rdOf [] es = es := by cases es <;> rfl
  exact ⟨fun l => l, rfl, Loc.id, fun _ _ _ h => h, fun d hd => .inl (by rw [e2]; exact hd), rfl, by simp [muIdx], fun hp2 _ => by cases es <;> rfl⟩
 | m :: md, [], es, hp, hp', h, _ => by
  simp only [giveOs, Option.some.injEq, Prod.mk.injEq] at h
  obtain ⟨rfl, rfl⟩ := h
  exact ⟨fun l => l, rfl, Loc.id, fun _ _ _ h => h, by simp, rfl, by simp, fun hp2 _ => rfl⟩
 | m :: md, d :: ds, es, hp, hp', h, hmp => by
  simp only [giveOs] at h
  split at h
  case h_2 => cases h
  rename_i e hp1 h1
  split at h
  case h_2 => cases h
  rename_i l hp3 h2
  simp only [Option.some.injEq, Prod.mk.injEq] at h
  obtain ⟨rfl, rfl⟩ := h
  have hmp' : md.contains .mp = false := by
   simp only [List.contains_cons, Bool.or_eq_false_iff] at hmp
   exact hmp.2
  obtain ⟨T, rfl, hT, hsub, hpre, hrd, hno, hgo⟩ := giveOs_frame h2 hmp'
  have idx : ∀ (k : Nat) (md : List Md), ∀ i ∈ muIdx (k + 1) md, ∃ j, i = j + 1 ∧ j ∈ muIdx k md := by
   intro k md
   induction md generalizing k with
   | nil => simp [muIdx]
   | cons m md ih =>
    intro i hi
    cases m <;> simp only [muIdx, List.mem_cons] at hi ⊢
    case mu =>
     rcases hi with rfl | hi
     ·exact ⟨k, rfl, .inl rfl⟩
     ·obtain ⟨j, h1, h2⟩ := ih (k + 1) i hi
      exact ⟨j, h1, .inr h2⟩
    case mp =>
     rcases hi with rfl | hi
     ·exact ⟨k, rfl, .inl rfl⟩
     ·obtain ⟨j, h1, h2⟩ := ih (k + 1) i hi
      exact ⟨j, h1, .inr h2⟩
    all_goals exact ih (k + 1) i hi
  have step : ∀ i ∈ muIdx 1 md, ∀ y, (d :: ds)[i]? = some y → y.nPc = true := by
   intro i hi y
   obtain ⟨j, rfl, hj⟩ := idx 0 md i hi
   simpa using hno j hj y
  by_cases hm : m = .rd
  ·subst hm
   simp only [giveO, Option.some.injEq, Prod.mk.injEq] at h1
   obtain ⟨rfl, rfl⟩ := h1
   refine ⟨T, rfl, hT.mono (fun id hi => by simp only [List.flatMap_cons, List.mem_append]; exact .inr hi), hsub, fun c hc => ?_, by simp only [rdOf, hrd], ?_, fun hp2 hh => ?_⟩
   ·rcases List.mem_cons.1 hc with rfl | hc
    ·exact .inl (by simp [rdOf])
    ·exact (hpre c hc).imp (fun h => by simp only [rdOf]; exact List.mem_cons_of_mem _ h) id
   ·simpa only [muIdx, Nat.zero_add] using step
   ·simp only [giveOs, giveO]
    rw [hgo hp2 (fun id hi => hh id (by simp only [List.flatMap_cons, List.mem_append]; exact .inr hi))]
  ·have hm2 : ∀ l, giveO l m d = expelN l d := fun l => by cases m <;> first | rfl | exact absurd rfl hm | (simp at hmp)
   rw [hm2] at h1
   have hfl := expelN_flat h1
   obtain ⟨U, rfl, hU, hus, hup, hug⟩ := expelN_frame h1
   refine ⟨fun l => T (U l), rfl, Loc.comp (hT.mono (fun id hi => by simp only [List.flatMap_cons, List.mem_append]; exact .inr hi)) (hU.mono (fun id hi => by simp only [List.flatMap_cons, List.mem_append]; exact .inl hi)), fun l id e he => hus _ _ _ (hsub _ _ _ he), fun c hc => ?_, by rw [rdOf_own hm, rdOf_own hm, hrd], ?_, fun hp2 hh => ?_⟩
   ·rcases List.mem_cons.1 hc with rfl | hc
    ·have e : D.rch hp c = c.ids := hfl.1
     exact .inr ⟨e, by rw [← e]; exact hup⟩
    ·rw [rdOf_own hm]
     rcases hpre c hc with h | ⟨h3, h4⟩
     ·exact .inl h
     ·refine .inr ⟨?_, fun id hi hn => ?_⟩
      ·rw [← h3]
       cases c <;> simp only [D.rch, D.rch1]
       case pt id off => simp [D.rch, D.rch1, D.ids, D.ids0] at h3
       case clo f cs =>
        simp only [D.rch, D.ids, D.ids0, List.flatMap_eq_nil_iff] at h3
        rw [List.flatMap_eq_nil_iff.2 h3, List.flatMap_eq_nil_iff]
        intro x hx
        have := h3 x hx
        cases x <;> simp_all [D.rch1]
      ·cases hl : lk (U hp) id with
       | none => exact h4 id hi hl
       | some e => rw [hus _ _ _ hl] at hn; cases hn
   ·have h0 : d.nPc = true := hfl.2
    intro i hi
    cases m <;> simp only [muIdx, List.mem_cons] at hi
    case rd => exact absurd rfl hm
    case mp => simp at hmp
    case mu =>
     rcases hi with rfl | hi
     ·intro y hy; simp only [List.getElem?_cons_zero, Option.some.injEq] at hy; subst hy; exact h0
     ·exact step i hi
    case ow => exact step i hi
   ·simp only [giveOs, hm2]
    rw [hug hp2 (fun id hi => hh id (by simp only [List.flatMap_cons, List.mem_append]; exact .inl hi))]
    simp only
    rw [hgo (U hp2) (fun id hi => ?_)]
    by_cases hid : id ∈ d.ids
    ·exact hU.same _ _ (fun i hi => hh i (by simp only [List.flatMap_cons, List.mem_append]; exact .inl hi)) id hid
    ·rw [hU.out _ id hid, hU.out _ id hid]
     exact hh id (by simp only [List.flatMap_cons, List.mem_append]; exact .inr hi)
theorem gives_frame {md : List Md} {ds args : List D} (hmp : md.contains .mp = false) (hg : gives hp md ds = some (args, hp')) :
  ∃ T, hp' = T hp ∧ Loc (fun id => id ∈ ds.flatMap D.ids) T ∧ (∀ id ∈ ds.flatMap (D.rch hp), lk hp id ≠ none) ∧ (∀ i ∈ muIdx 0 md, ∀ y, ds[i]? = some y → y.nPc = true) ∧
   ∀ hp2, (∀ id ∈ ds.flatMap (D.rch hp), lk hp2 id = lk hp id) → gives hp2 md ds = some (args, T hp2) := by
 have hge : ∀ hp, gives hp md ds = match giveOs hp md ds with
   | some (es, hp1) => (giveR hp1 md es).map fun l => (l, hp1)
   | none => none := by
  intro hp
  cases md with
  | nil =>
   have e1 : giveOs hp [] ds = some (ds, hp) := by cases ds <;> rfl
   have e2 : giveR hp [] ds = allO (lend hp) ds := by cases ds <;> rfl
   simp only [gives, e1, e2]
  | cons m md => rfl
 have hrdl := gives_rdOf hg
 rw [hge] at hg
 split at hg
 case h_2 => cases hg
 rename_i es hp1 h1
 simp only [Option.map_eq_some_iff, Prod.mk.injEq] at hg
 obtain ⟨l, hl, rfl, rfl⟩ := hg
 obtain ⟨T, rfl, hT, hsub, hpre, hrd, hno, hgo⟩ := giveOs_frame h1 hmp
 have hids : ∀ d : D, ∀ id ∈ d.ids, id ∈ d.rch hp := by
  intro d id
  cases d <;> simp [D.ids, D.rch, D.rch1, D.ids0]
 have hrch : ∀ d ∈ rdOf md ds, d.rch hp = d.rch (T hp) := fun d hd => let ⟨e, he⟩ := hrdl d hd; lend_rch (fun id e he => hsub _ _ _ he) he
 refine ⟨T, rfl, hT, fun id hid => ?_, hno, fun hp2 hh => ?_⟩
 ·obtain ⟨d, hd, hi⟩ := List.mem_flatMap.1 hid
  rcases hpre d hd with h | ⟨h3, h4⟩
  ·obtain ⟨e, he⟩ := hrdl d h
   rw [hrch d h] at hi
   have := lend_pres he id hi
   intro hn
   cases hl2 : lk (T hp) id with
   | none => exact this hl2
   | some e => rw [hsub _ _ _ hl2] at hn; cases hn
  ·rw [h3] at hi; exact h4 id hi
 ·have hi2 : ∀ id ∈ ds.flatMap D.ids, lk hp2 id = lk hp id := fun id hi => by
   obtain ⟨d, hd, hi⟩ := List.mem_flatMap.1 hi
   exact hh id (List.mem_flatMap.2 ⟨d, hd, hids d id hi⟩)
  have hag : ∀ id ∈ ds.flatMap (D.rch hp), lk (T hp2) id = lk (T hp) id := fun id hi => by
   by_cases hS : id ∈ ds.flatMap D.ids
   ·exact hT.same _ _ hi2 id hS
   ·rw [hT.out _ id hS, hT.out _ id hS]; exact hh id hi
  rw [hge, hgo hp2 hi2]
  simp only
  rw [giveR_agr (hp := T hp) (fun d hd id hi => by
   rw [hrd] at hd
   rw [← hrch d hd] at hi
   exact hag id (List.mem_flatMap.2 ⟨d, rdOf_sub d hd, hi⟩)), hl]
  rfl
theorem takeBack_frame {hp0 : List (Nat × Ent)} {ds : List D} : ∀ {outs : List (Nat × D)} {n n' : Nat} {hp hp' : List (Nat × Ent)}, takeBack hp0 ds n outs hp = some (n', hp') → (∀ i ∈ outs.map (·.1), ∀ y, ds[i]? = some y → y.nPc = true) →
  n' = n ∧ ∃ E, hp' = E ++ hp ∧ (∀ p ∈ E, p.1 ∈ ds.flatMap D.ids) ∧ ∀ hq hpb, (∀ id ∈ ds.flatMap D.ids, lk hq id = lk hp0 id) → takeBack hq ds n outs hpb = some (n', E ++ hpb)
 | [], n, n', hp, hp', h, _ => by
  simp only [takeBack, Option.some.injEq, Prod.mk.injEq] at h
  obtain ⟨rfl, rfl⟩ := h
  exact ⟨rfl, [], rfl, by simp, fun _ _ _ => rfl⟩
 | (i, d) :: l, n, n', hp, hp', h, hno => by
  simp only [takeBack] at h
  split at h
  ·rename_i id len sz xs hds
   split at h
   case isFalse => cases h
   rename_i hc
   obtain ⟨rfl, E, rfl, hE, hgo⟩ := takeBack_frame h (fun j hj => hno j (by simp at hj ⊢; exact .inr hj))
   have hid : id ∈ ds.flatMap D.ids := List.mem_flatMap.2 ⟨_, List.mem_of_getElem? hds, by simp [D.ids, D.ids0]⟩
   refine ⟨rfl, E ++ [(id, .arr sz xs)], by simp, fun p hp => ?_, fun hq hpb hh => ?_⟩
   ·rcases List.mem_append.1 hp with hp | hp
    ·exact hE p hp
    ·simp only [List.mem_singleton] at hp; subst hp; exact hid
   ·have ha : arrSz hq id = arrSz hp0 id := by simp only [arrSz, hh id hid]
    simp only [takeBack, hds]
    rw [ha, if_pos hc, hgo hq _ hh]
    simp
  ·rename_i id cs hds
   exact absurd (hno i (by simp) _ hds) (by simp [D.nPc])
  ·rename_i f cs f' bs hds
   exact absurd (hno i (by simp) _ hds) (by simp [D.nPc])
  ·cases h
theorem callP_frame {P : Program} {f : Nat} {ds : List D} {md : List Md} (hmp : md.contains .mp = false) (hk : callP P n hp f ds md (· = (d, hp'))) :
  ∃ T, hp' = T hp ∧ Loc (fun id => id ∈ ds.flatMap D.ids ∨ (n ≤ id ∧ id < n + 64)) T ∧
  (∀ id ∈ ds.flatMap (D.rch hp), lk hp id ≠ none) ∧ ∀ hp2, (∀ id ∈ ds.flatMap (D.rch hp), lk hp2 id = lk hp id) → callP P n hp2 f ds md (· = (d, T hp2)) := by
 unfold callP kon at hk
 split at hk
 case h_2 => exact hk.elim
 rename_i q hg
 obtain ⟨args, hp1⟩ := q
 obtain ⟨T0, rfl, hT0, hpre, hno, hgo⟩ := gives_frame hmp hg
 obtain ⟨fz, r, outs, hfc, ha⟩ := hk
 simp only at ha
 split at ha
 case h_2 => exact ha.elim
 rename_i dh hac
 subst ha
 unfold afterCall at hac
 split at hac
 case isFalse => cases hac
 rename_i hcond
 have hout : ∀ i ∈ outs.map (·.1), ∀ y, ds[i]? = some y → y.nPc = true := by rw [hcond.1]; exact hno
 have hids : ∀ hp2, (∀ id ∈ ds.flatMap (D.rch hp), lk hp2 id = lk hp id) → ∀ id ∈ ds.flatMap D.ids, lk hp2 id = lk hp id := by
  intro hp2 hh id hi
  obtain ⟨d, hd, hi⟩ := List.mem_flatMap.1 hi
  refine hh id (List.mem_flatMap.2 ⟨d, hd, ?_⟩)
  revert hi
  cases d <;> simp [D.ids, D.rch, D.rch1, D.ids0]
 split at hac
 ·rename_i hflat
  split at hac
  case h_2 => cases hac
  rename_i n' hp'' htb
  split at hac
  case isFalse => cases hac
  rename_i hle
  simp only [Option.some.injEq, Prod.mk.injEq] at hac
  obtain ⟨rfl, rfl⟩ := hac
  obtain ⟨rfl, E, rfl, hE, hgb⟩ := takeBack_frame htb hout
  refine ⟨fun hp => E ++ ((adopt n r).2.1 ++ T0 hp), rfl, Loc.comp (Loc.app fun p hp => .inl (hE p hp)) (Loc.comp (Loc.app fun p hp => .inr ?_) (hT0.mono fun _ h => .inl h)), hpre, fun hp2 hh => ?_⟩
  ·have := adopt_rng.2 p hp; omega
  ·simp only [callP, hgo hp2 hh, kon]
   refine ⟨fz, r, outs, hfc, ?_⟩
   simp only [afterCall]
   rw [if_pos hcond, if_pos hflat, hgb hp2 _ (hids hp2 hh)]
   simp only
   rw [if_pos hle]
 ·rename_i hflat
  split at hac
  case isFalse => cases hac
  rename_i hno
  split at hac
  case h_2 => cases hac
  rename_i n' hp'' htb
  split at hac
  case isFalse => cases hac
  rename_i hle
  simp only [Option.some.injEq, Prod.mk.injEq] at hac
  obtain ⟨rfl, rfl⟩ := hac
  obtain ⟨rfl, E, rfl, hE, hgb⟩ := takeBack_frame htb hout
  refine ⟨fun hp => E ++ ((adopt n r).2.1 ++ freezeIds ((rdOf md ds).flatMap D.ids) (T0 hp)), rfl, Loc.comp (Loc.app fun p hp => .inl (hE p hp)) (Loc.comp (Loc.app fun p hp => .inr ?_) (Loc.comp (Loc.freeze fun id hid => .inl ?_) (hT0.mono fun _ h => .inl h))), hpre, fun hp2 hh => ?_⟩
  ·have := adopt_rng.2 p hp; omega
  ·obtain ⟨d, hd, hi⟩ := List.mem_flatMap.1 hid
   exact List.mem_flatMap.2 ⟨d, rdOf_sub d hd, hi⟩
  ·simp only [callP, hgo hp2 hh, kon]
   refine ⟨fz, r, outs, hfc, ?_⟩
   simp only [afterCall]
   rw [if_pos hcond, if_neg hflat, if_pos hno, hgb hp2 _ (hids hp2 hh)]
   simp only
   rw [if_pos hle]
end
def Fp (n : Nat) (ck : Bool) (mu : List Nat) (id : Nat) : Prop := id ∈ mu ∨ (ck = true ∧ n ≤ id ∧ id < n + 64)
theorem evs_flat {sl : List (Nat × D)} {g : D → List Nat} : ∀ {l : List X} {ds : List D}, allO (ev sl) l = some ds → (l.flatMap fun x => g (evL sl x)) = ds.flatMap g
 | [], ds, h => by simp only [allO, Option.some.injEq] at h; subst h; rfl
 | x :: l, ds, h => by
  simp only [allO] at h
  split at h
  case h_2 => cases h
  rename_i d es hd hes
  simp only [Option.some.injEq] at h
  subst h
  simp only [List.flatMap_cons, evL_of hd, evs_flat hes]
theorem kon_eq {α : Type} {o : Option α} {f : α → Prop} (h : kon o f) : ∃ a, o = some a ∧ f a := by
 cases o
 ·exact h.elim
 ·exact ⟨_, rfl, h⟩
theorem callP_ex {P : Program} {n : Nat} {hp : List (Nat × Ent)} {f : Nat} {ds : List D} {md : List Md} {K : D × List (Nat × Ent) → Prop} (hk : callP P n hp f ds md K) : ∃ p, K p ∧ callP P n hp f ds md (· = p) := by
 obtain ⟨q, hq, fz, r, outs, hfc, ha⟩ := kon_eq hk
 obtain ⟨p, hp, hK⟩ := kon_eq ha
 refine ⟨p, hK, ?_⟩
 simp only [callP, hq, kon]
 exact ⟨fz, r, outs, hfc, by simp only [hp]⟩
section
variable {P : Program} {n : Nat} {s s1 : St} {op : LOp} {dst : Option Nat} {g : Option (Nat × Bool)}
theorem actP_frame {K : St → Prop} (hdet : op.det = true) (hk : actP P n ⟨dst, op, g⟩ s K) : ∃ d T, K ⟨putd dst d s.sl, T s.hp, s.nx⟩ ∧ Loc (Fp n op.ck (muI s.sl op)) T ∧ (∀ id ∈ rdI s.sl s.hp op, lk s.hp id ≠ none) ∧
  ∀ sl2 hp2 nx2, (∀ x ∈ op.xs, ev sl2 x = ev s.sl x) → (∀ id ∈ rdI s.sl s.hp op, lk hp2 id = lk s.hp id) → actP P n ⟨dst, op, g⟩ ⟨sl2, hp2, nx2⟩ (· = ⟨putd dst d sl2, T hp2, nx2⟩) := by
 obtain ⟨sl, hp, nx⟩ := s
 have eff_case : (∀ f l m, op ≠ .call f l m) → (∀ x l, op ≠ .callv x l) → (∀ x l, op ≠ .callm x l) → (∀ g x, op ≠ .isnil g x) → ∃ d T, K ⟨putd dst d sl, T hp, nx⟩ ∧ Loc (Fp n op.ck (muI sl op)) T ∧ (∀ id ∈ rdI sl hp op, lk hp id ≠ none) ∧
  ∀ sl2 hp2 nx2, (∀ x ∈ op.xs, ev sl2 x = ev sl x) → (∀ id ∈ rdI sl hp op, lk hp2 id = lk hp id) → actP P n ⟨dst, op, g⟩ ⟨sl2, hp2, nx2⟩ (· = ⟨putd dst d sl2, T hp2, nx2⟩) := by
  intro h1 h2 h4 h3
  have e : ∀ (sl : List (Nat × D)) hp nx (K : St → Prop), actP P n ⟨dst, op, g⟩ ⟨sl, hp, nx⟩ K = kon (eff n sl hp op) fun p => K ⟨putd dst p.1 sl, p.2, nx⟩ := by
   intro sl hp nx K
   unfold actP
   cases op <;> first | rfl | exact absurd rfl (h1 _ _ _) | exact absurd rfl (h2 _ _) | exact absurd rfl (h4 _ _) | exact absurd rfl (h3 _ _)
  rw [e] at hk
  obtain ⟨⟨d, hp'⟩, he, hK⟩ := kon_eq hk
  obtain ⟨T, rfl, hT, hp, hf⟩ := eff_frame he
  refine ⟨d, T, hK, hT, hp, fun sl2 hp2 nx2 hx hh => ?_⟩
  rw [e, eff_sl hx, hf hp2 hh]
  rfl
 cases op with
 | call f l md =>
  simp only [actP] at hk
  obtain ⟨ds, hds, hc⟩ := kon_eq hk
  obtain ⟨⟨d, hp'⟩, hK, hc⟩ := callP_ex hc
  obtain ⟨T, rfl, hT, hpre, hf⟩ := callP_frame (by simpa [LOp.det] using hdet) hc
  have e1 : muI sl (.call f l md) = ds.flatMap D.ids := evs_flat hds
  have e2 : rdI sl hp (.call f l md) = ds.flatMap (D.rch hp) := evs_flat hds
  refine ⟨d, T, hK, ?_, ?_, fun sl2 hp2 nx2 hx hh => ?_⟩
  ·unfold Fp; rw [e1]; simpa [LOp.ck] using hT
  ·rw [e2]; exact hpre
  ·simp only [actP]
   rw [allO_congr (l := l) (f := ev sl2) (g := ev sl) (fun x h => hx x h), hds]
   rw [e2] at hh
   exact callP_mono (fun p hp => by rw [hp]) (hf hp2 hh)
 | callv x l =>
  simp only [actP] at hk
  obtain ⟨c, hc0, hk⟩ := kon_eq hk
  obtain ⟨ds, hds, hc⟩ := kon_eq hk
  obtain ⟨⟨d, hp'⟩, hK, hc⟩ := callP_ex hc
  obtain ⟨T, rfl, hT, hpre, hf⟩ := callP_frame rfl hc
  have hcap : capsOf (evL sl x) = c.2 := by
   cases hx : ev sl x with
   | none => rw [hx] at hc0; cases hc0
   | some e =>
    rw [hx, Option.bind_some] at hc0
    rw [evL_of hx]
    cases e <;> simp only [asClo, Option.some.injEq, reduceCtorEq] at hc0
    subst hc0
    rfl
  have e1 : muI sl (.callv x l) = (ds ++ c.2).flatMap D.ids := by rw [List.flatMap_append, ← evs_flat hds, ← hcap]; rfl
  have e2 : rdI sl hp (.callv x l) = (ds ++ c.2).flatMap (D.rch hp) := by rw [List.flatMap_append, ← evs_flat hds, ← hcap]; rfl
  refine ⟨d, T, hK, ?_, ?_, fun sl2 hp2 nx2 hx hh => ?_⟩
  ·unfold Fp; rw [e1]; simpa [LOp.ck] using hT
  ·rw [e2]; exact hpre
  ·simp only [actP]
   rw [hx x (by simp [LOp.xs]), hc0, allO_congr (f := ev sl2) (g := ev sl) (fun y h => hx y (by simp [LOp.xs, h])), hds]
   rw [e2] at hh
   exact callP_mono (fun p hp => by rw [hp]) (hf hp2 hh)
 | isnil g x => simp [LOp.det] at hdet
 | callm g x => simp [LOp.det] at hdet
 | _ => exact eff_case (fun _ _ _ => by simp) (fun _ _ => by simp) (fun _ _ => by simp) (fun _ _ => by simp)
theorem ev_reads {li : LI} {sl sl2 : List (Nat × D)} (h : ∀ t ∈ li.reads, lk sl2 t = lk sl t) : ∀ x ∈ li.op.xs, ev sl2 x = ev sl x := by
 intro x hx
 cases x with
 | t t => exact h t (List.mem_append_left _ (List.mem_flatMap.2 ⟨_, hx, by simp [X.slots]⟩))
 | k d => rfl
theorem mu_rd {sl : List (Nat × D)} {hp : List (Nat × Ent)} {op : LOp} : ∀ id ∈ muI sl op, id ∈ rdI sl hp op := by
 have one : ∀ d : D, ∀ id ∈ d.ids, id ∈ d.rch hp := by
  intro d id
  cases d <;> simp [D.ids, D.rch, D.rch1, D.ids0]
 intro id h
 cases op <;> simp only [muI, List.not_mem_nil, List.mem_append, List.mem_flatMap] at h
 case store m a x => simpa only [rdI] using h
 case app s b x y => simp only [rdI, List.mem_append]; exact .inl h
 case clr s x => simpa only [rdI] using h
 case tk x => simpa only [rdI] using h
 case pu a x => simpa only [rdI, List.mem_append] using h
 case buildSl s b z m ps => simpa only [rdI, List.mem_flatMap] using h
 case call f l md =>
  obtain ⟨x, hx, hi⟩ := h
  simp only [rdI, List.mem_flatMap]
  exact ⟨x, hx, one _ _ hi⟩
 case callv x l =>
  simp only [rdI, List.mem_append, List.mem_flatMap]
  rcases h with ⟨x, hx, hi⟩ | ⟨x, hx, hi⟩
  ·exact .inl ⟨x, hx, one _ _ hi⟩
  ·exact .inr ⟨x, hx, one _ _ hi⟩
structure Fra (P : Program) (n : Nat) (li : LI) (s : St) (d : D) (T : List (Nat × Ent) → List (Nat × Ent)) (rd mu : List Nat) : Prop where
 loc : Loc (Fp n li.op.ck mu) T
 pre : ∀ id ∈ rd, lk s.hp id ≠ none ∧ id ∈ rdI s.sl s.hp li.op
 mu : ∀ id ∈ mu, id ∈ rd ∧ id ∈ muI s.sl li.op
 go (sl2 : List (Nat × D)) (hp2 : List (Nat × Ent)) (nx2 : Nat) : (∀ t ∈ li.reads, lk sl2 t = lk s.sl t) → (∀ id ∈ rd, lk hp2 id = lk s.hp id) → stepP P n li ⟨sl2, hp2, nx2⟩ (· = ⟨putd li.dst d sl2, T hp2, nx2⟩)
theorem stepP_frame {li : LI} {K : St → Prop} (hdet : li.op.det = true) (hk : stepP P n li s K) : ∃ d T rd mu, K ⟨putd li.dst d s.sl, T s.hp, s.nx⟩ ∧ Fra P n li s d T rd mu := by
 obtain ⟨dst, op, g⟩ := li
 have act : actP P n ⟨dst, op, g⟩ s K → (∀ (sl2 : List (Nat × D)) (hp2 : List (Nat × Ent)) (nx2 : Nat) (K' : St → Prop), (∀ t ∈ LI.reads ⟨dst, op, g⟩, lk sl2 t = lk s.sl t) → actP P n ⟨dst, op, g⟩ ⟨sl2, hp2, nx2⟩ K' → stepP P n ⟨dst, op, g⟩ ⟨sl2, hp2, nx2⟩ K') →
   ∃ d T rd mu, K ⟨putd dst d s.sl, T s.hp, s.nx⟩ ∧ Fra P n ⟨dst, op, g⟩ s d T rd mu := fun hk hg => by
  obtain ⟨d, T, h1, h2, h3, h4⟩ := actP_frame hdet hk
  exact ⟨d, T, _, _, h1, h2, fun id hid => ⟨h3 id hid, hid⟩, fun id hid => ⟨mu_rd id hid, hid⟩, fun sl2 hp2 nx2 hs hh => hg _ _ _ _ hs (h4 sl2 hp2 nx2 (ev_reads hs) hh)⟩
 have skip : K ⟨putd dst .undef s.sl, s.hp, s.nx⟩ → (∀ (sl2 : List (Nat × D)) (hp2 : List (Nat × Ent)) (nx2 : Nat) (K' : St → Prop), (∀ t ∈ LI.reads ⟨dst, op, g⟩, lk sl2 t = lk s.sl t) → K' ⟨putd dst .undef sl2, hp2, nx2⟩ → stepP P n ⟨dst, op, g⟩ ⟨sl2, hp2, nx2⟩ K') →
   ∃ d T rd mu, K ⟨putd dst d s.sl, T s.hp, s.nx⟩ ∧ Fra P n ⟨dst, op, g⟩ s d T rd mu := fun hk hg =>
  ⟨.undef, fun l => l, [], [], hk, Loc.id, by simp, by simp, fun sl2 hp2 nx2 hs _ => hg _ _ _ _ hs rfl⟩
 cases g with
 | none => exact act hk fun sl2 hp2 nx2 K' _ h => h
 | some tw =>
  obtain ⟨t, w⟩ := tw
  have ht : t ∈ LI.reads ⟨dst, op, some (t, w)⟩ := by simp [LI.reads]
  have bc : ∀ {o : Option D} {p q r : Prop}, brang o p q r → (∃ c : Bool, o = some (.bool c) ∧ (c = true → p) ∧ (c = false → q)) ∨ (o = some .undef ∧ r) := by
   intro o p q r hb
   unfold brang at hb
   split at hb
   ·exact .inl ⟨_, rfl, hb.1, hb.2⟩
   ·exact .inr ⟨rfl, hb⟩
   ·exact hb.elim
  cases w with
  | true =>
   simp only [stepP] at hk
   rcases bc hk with ⟨c, hc, h1, h2⟩ | ⟨hc, h0⟩
   ·cases c
    ·refine skip (h2 rfl) fun sl2 hp2 nx2 K' hs h => ?_
     simp only [stepP, hs t ht, hc, brang]
     simp [h]
    ·refine act (h1 rfl) fun sl2 hp2 nx2 K' hs h => ?_
     simp only [stepP, hs t ht, hc, brang]
     simp [h]
   ·refine skip h0 fun sl2 hp2 nx2 K' hs h => ?_
    simp only [stepP, hs t ht, hc, brang]
    exact h
  | false =>
   simp only [stepP] at hk
   rcases bc hk with ⟨c, hc, h1, h2⟩ | ⟨hc, h0⟩
   ·cases c
    ·refine act (h2 rfl) fun sl2 hp2 nx2 K' hs h => ?_
     simp only [stepP, hs t ht, hc, brang]
     simp [h]
    ·refine skip (h1 rfl) fun sl2 hp2 nx2 K' hs h => ?_
     simp only [stepP, hs t ht, hc, brang]
     simp [h]
   ·refine skip h0 fun sl2 hp2 nx2 K' hs h => ?_
    simp only [stepP, hs t ht, hc, brang]
    exact h
end
end Go.Am
