/- Functions whose only result may only be read: function values that hold what they captured. -/
import Derived.Test.YtmkhlefohbfekaaAmPh
namespace Go.Am
open Go
set_option linter.unusedVariables false
set_option linter.unusedSimpArgs false
def lendO (hp : List (Nat × Ent)) : Option (List D) → Option D
 | some [d] => lend hp d
 | _ => none
def DoneC (rs : List RV) (r : D) : LX → St → Prop
 | .exit _, _ => False
 | .normal, s => lendO s.hp (allO (rvGet s) rs) = some r
 | .ret, s => lendO s.hp (allO (rvGet s) rs) = some r
section
variable {s : St}
theorem W_ofC {P : Program} {c : LC} {rs : List RV} {r : D} (h : @RUN P c ⟨DoneC rs r⟩ s) : W P c (DoneC rs r) s := h
theorem DoneC_normal {rs : List RV} {r : D} : @END .normal s ⟨DoneC rs r⟩ = (lendO s.hp (allO (rvGet s) rs) = some r) := id rfl
theorem DoneC_ret {rs : List RV} {r : D} : @END .ret s ⟨DoneC rs r⟩ = (lendO s.hp (allO (rvGet s) rs) = some r) := id rfl
theorem lendO_some {hp : List (Nat × Ent)} {d : D} : lendO hp (some [d]) = lend hp d := id rfl
end
attribute [go_sem] DoneC_normal DoneC_ret lendO_some
theorem FC.ofL {P : Program} {f : Nat} {fn : Func} {body : Code} {lc : LC} {rs : List RV} {args : List D} {r : D} {H : Hints}
  (hf : P.funcs[f]? = some fn) (hnm : (fn.name == "runtime.NumGoroutine") = false) (hb : fn.body = some body) (hmx : P.follows .mixedOrders = true) (hfx : H.fx = []) (hc : cC P H fn.ntmps body = some lc)
  (hrs : rsOf P fn.results.toList = some rs) (hN : args.length ≤ fn.ntmps) (hok : args.all okA1 = true)
  (hW : W P lc (DoneC rs r) (init args)) : FC P f args r [] := by
 refine ⟨callFunc_enter hf hnm hb, fun w I vs os hI hnd hos hdr => ?_⟩
 let B : Base := ⟨w, I, os, fn.ntmps, [], vs⟩
 obtain ⟨κ, ht, hm, hfr⟩ := adopts_sound adopt1 okA1 (fun n κ d v os ho h hf => adopt1_sound ho h hf) args 0 (fun _ => none) vs os hok hdr (fun _ _ => rfl)
 obtain ⟨hi1, hi2⟩ := initGo_adopts args 0 0
 have hvl : vs.length = args.length := hdr.length
 have hhp : (init args).hp = (adopts adopt1 0 args).2.1 := by simp only [init, hi1]
 have hnx : (init args).nx = (adopts adopt1 0 args).2.2 := by simp only [init, hi1]
 have hob : ∀ id b, OB κ (adopts adopt1 0 args).2.1 w id b → b ∈ os ∧ ∃ e, (id, e) ∈ (adopts adopt1 0 args).2.1 ∧ (κ id).bind KI.blk = some b := by
  rintro id b ⟨e, k, h1, h2, h3, h4⟩
  have hb : (κ id).bind KI.blk = some b := by rw [h3]; exact h4.own1 (ht.owned _ (lk_mem h1))
  exact ⟨by rw [← ht.blks]; exact List.mem_filterMap.2 ⟨(id, e), lk_mem h1, hb⟩, e, lk_mem h1, hb⟩
 have hIm : ∀ b, I b → Im B κ (adopts adopt1 0 args).2.1 w b := fun b hb => ⟨.inl hb, (hI b hb).1, fun ⟨id, ho⟩ => (hI b hb).2 (hob id b ho).1⟩
 have hkeep : Keep w w I (Im B κ (adopts adopt1 0 args).2.1 w) := ⟨hIm, fun _ _ => rfl⟩
 have hR : RH B κ (init args).hp (fun id => (init args).nx ≤ id) w := by
  rw [hhp, hnx]
  refine ⟨Stp.refl _ _, hfr, fun id e he => (ht.ent _ (lk_mem he)).mono hkeep (fun _ _ h => h) (fun _ _ _ _ _ => rfl), fun b ⟨id, ho⟩ => ?_, fun id id' b h1 h2 => ?_⟩
  ·have := (hob id b ho).1
   exact ⟨.inl this, hos b this⟩
  ·obtain ⟨_, e1, m1, b1⟩ := hob id b h1
   obtain ⟨_, e2, m2, b2⟩ := hob id' b h2
   have := filterMap_inj (g := fun p : Nat × Ent => (κ p.1).bind KI.blk) (l := (adopts adopt1 0 args).2.1) (by have := ht.blks; unfold blks at this; rw [this]; exact hnd) m1 m2 b1 b2
   exact congrArg Prod.fst this
 have hS : RS B κ (init args).hp w (init args).sl (vs.toArray ++ Array.replicate (fn.ntmps - vs.toArray.size) undef) := by
  have hget : ∀ (i : Nat) (v : Value), vs[i]? = some v → (vs.toArray ++ Array.replicate (fn.ntmps - vs.toArray.size) undef)[i]? = some v := by
   intro i v hv
   have : i < vs.length := (List.getElem?_eq_some_iff.1 hv).1
   rw [Array.getElem?_append_left (by simpa using this)]
   simpa using hv
  refine ⟨by simp [B]; omega, fun t d htd => ?_, fun t htf => by simp [B] at htf⟩
  ·obtain ⟨i, rfl, hi⟩ := hi2 t d htd
   obtain ⟨v, hv, hmv⟩ := hm.get hi
   refine ⟨v, hget _ v (by simpa using hv), ?_⟩
   rw [hhp]
   exact hmv.mono hkeep (fun _ _ h => h)
 refine calls_of_wp hf hb (code_sound (B := B) hmx (by rw [hfx]) body lc hc _ _ (init args) _ w ⟨rfl, κ, hR, hS⟩ hW ?_)
 intro e s a w' hdone hat
 obtain ⟨hdf, κ', hR', hS'⟩ := hat
 have fin : lendO s.hp (allO (rvGet s) rs) = some r → bodyPost P fn (fun e w' => ∃ v' os'', e = .returned v' ∧ Stp (· ∈ os) w w' ∧ os''.Nodup ∧ (∀ b ∈ os'', (b ∈ os ∨ w.heap.size ≤ b) ∧ b < w'.heap.size) ∧
   DRs w' (fun b => (I b ∨ b ∈ os ∨ w.heap.size ≤ b) ∧ b ∉ os'' ∧ b < w'.heap.size) (r :: ([] : List (Nat × D)).map (·.2)) (v' :: ([] : List (Nat × D)).map (fun o => vs.getD o.1 undef)) os'') .ret a w' := by
  intro hfin
  cases hds : allO (rvGet s) rs with
  | none => rw [hds] at hfin; cases hfin
  | some ds =>
   rw [hds] at hfin
   match ds, hds, hfin with
   | [d], hds, hfin =>
    simp only [lendO] at hfin
    obtain ⟨rvs, hrun, hrl, hrm⟩ := results_sound rfl hR' hS' _ _ _ hrs hds
    have hres := run_results hrun
    simp only [MRs] at hrm
    obtain ⟨v, vs', rfl, hv, rfl⟩ := hrm
    have hRI : RI B κ' s.hp s.hp w' (fun b => (I b ∨ b ∈ os ∨ w.heap.size ≤ b) ∧ b ∉ ([] : List Nat) ∧ b < w'.heap.size) := by
     refine ⟨Sub.refl, ⟨fun b ⟨h1, h2, h3⟩ => ⟨h1, by simp, h2⟩, fun _ _ => rfl⟩, fun id b hb => ?_⟩
     have := hR'.own b ⟨id, hb⟩
     exact ⟨.inr this.1, by simp, this.2⟩
    have hd := lendI_sound hR' hRI hv hfin
    refine ⟨hdf, _, hres, _, [], rfl, hR'.stp, List.nodup_nil, by simp, ?_⟩
    simp only [List.map_nil, DRs]
    exact ⟨v, [], [], [], rfl, rfl, hd, rfl, rfl⟩
   | [], _, hfin => cases hfin
   | _ :: _ :: _, _, hfin => cases hfin
 cases e with
 | normal => exact fin hdone
 | exit id => exact hdone.elim
 | ret => exact fin hdone
theorem FC.ofC {P : Program} {f : Nat} {fn : Func} {lc : LC} {rs : List RV} {args : List D} {r : D} {H : Hints} {n : Nat} (hf : P.funcs[f]? = some fn) (hmx : P.follows .mixedOrders = true)
  (hc : fn.body.bind (cC P H fn.ntmps) = some lc) (hrs : rsOf P fn.results.toList = some rs) (hsm : ((fn.name != "runtime.NumGoroutine") && decide (n ≤ fn.ntmps) && H.fx.isEmpty) = true)
  (hn : args.length = n) (hok : args.all okA1 = true) (hW : W P lc (DoneC rs r) (init args)) : FC P f args r [] := by
 obtain ⟨body, hb, hc⟩ := Option.bind_eq_some_iff.1 hc
 simp only [Bool.and_eq_true, bne_iff_ne, ne_eq, decide_eq_true_eq, List.isEmpty_iff] at hsm
 exact FC.ofL hf (by simpa using hsm.1.1) hb hmx hsm.2 hc hrs (by omega) hok hW
end Go.Am
