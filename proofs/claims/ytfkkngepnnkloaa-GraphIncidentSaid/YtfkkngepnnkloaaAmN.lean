/- Every operation of the machine that calls nothing is sound. -/
import Derived.Test.YtfkkngepnnkloaaAmM
namespace Go.Am
open Go

section
variable {P : Program} {B : Base} {κ : Nat → Option KI} {hp hp' : List (Nat × Ent)} {F : Nat → Prop} {w : World} {sl : List (Nat × D)} {tm : Array Value} {df : List Deferred} {n : Nat} {d : D}

set_option maxHeartbeats 1000000 in
theorem eff_sound (h : RH B κ hp F w) (hs : RS B κ hp w sl tm) (hF : ∀ k, k < 64 → F (n + k)) {md : Nat → List Md} {o : Oper} {lop : LOp} (hc : cOp P md o = some lop) (he : eff n sl hp lop = some (d, hp')) :
    Res P B κ hp hp' (Fr F n) w ((execOp (Act.eval ⟨tm, df⟩) o).run P w) d := by
  unfold cOp at hc
  split at hc
  case h_1 x hop =>
    cases hx : cX x with
    | none => simp [hx] at hc
    | some y => simp only [hx, Option.map_some, Option.some.injEq] at hc; subst hc; exact res_mov h hs (.inl hop) hx he
  case h_2 hop =>
    cases hz : (elemOfT P o.type).bind (szOf P) with
    | none => simp [hz] at hc
    | some y => simp only [hz, Option.map_some, Option.some.injEq] at hc; subst hc; exact res_nl h hop he
  case h_3 x hop _ =>
    cases hx : cX x with
    | none => simp [hx] at hc
    | some y => simp only [hx, Option.map_some, Option.some.injEq] at hc; subst hc; exact res_mov h hs (.inr ‹_›) hx he
  case h_4 c a b hop =>
    split at hc
    · rename_i h1 h2 h3; simp only [Option.some.injEq] at hc; subst hc; exact res_pick h hs hop h1 h2 h3 he
    · cases hc
  case h_5 e hop =>
    cases hz : zOf P e with
    | none => simp [hz] at hc
    | some z =>
      simp only [hz, Option.map_some, Option.some.injEq] at hc; subst hc
      simp only [eff, Option.some.injEq, Prod.mk.injEq] at he
      obtain ⟨rfl, rfl⟩ := he
      exact res_alloc h hF hop hz
  case h_6 e x hop =>
    cases hx : cX x with
    | none => simp [hx] at hc
    | some y =>
      simp only [hx, Option.map_some, Option.some.injEq] at hc; subst hc
      simp only [eff] at he
      cases hd : (ev sl y).bind cellsO with
      | none => simp [hd] at he
      | some cs =>
        simp only [hd, Option.map_some, Option.some.injEq, Prod.mk.injEq] at he
        obtain ⟨rfl, rfl⟩ := he
        exact res_bx h hs hF hop hx hd
  case h_7 t ps hop =>
    split at hc
    · rename_i fs hu
      split at hc
      · rename_i pls z l h1 h2 h3; simp only [Option.some.injEq] at hc; subst hc; exact res_build h hs hop hu h1 h2 h3 he
      · cases hc
    · cases hc
  case h_8 t m ps hop =>
    unfold elemOfT at hc
    split at hc
    · rename_i e hu
      split at hu
      · rename_i e' hu'
        simp only [Option.some.injEq] at hu
        subst hu
        split at hc
        · rename_i s i z l h1 h2 h3 h4
          split at hc
          · cases hc
          · rename_i hcond
            simp only [Option.some.injEq] at hc; subst hc
            simp only [not_or, Nat.not_lt] at hcond
            exact res_buildSl h hs hF hop hu' h1 hcond.1 hcond.2.1 h3 (by simpa using hcond.2.2) h4 he
        · cases hc
      · cases hu
    · cases hc
  case h_9 t a hop =>
    split at hc
    · rename_i h1 h2 h3
      split at hc
      · cases hc
      · simp only [Option.some.injEq] at hc; subst hc; exact res_load h hs hop h3 h1 h2 he
    · cases hc
  case h_10 t a v hop =>
    split at hc
    · rename_i h1 h2 h3
      split at hc
      · cases hc
      · rename_i h0; simp only [Option.some.injEq] at hc; subst hc; exact res_store h hs hop h2 h3 h1 h0 he
    · cases hc
  case h_11 op t x y u hop =>
    unfold cBin at hc
    split at hc
    · rename_i h1 h2 h3; simp only [Option.some.injEq] at hc; subst hc; exact res_bin h hs hop h2 h3 he
    · rename_i h1 h2 h3
      split at hc
      · simp only [Option.some.injEq] at hc; subst hc; exact res_eqB (neg := false) h hs hop h2 h3 h1 he
      · simp only [Option.some.injEq] at hc; subst hc; exact res_eqB (neg := true) h hs hop h2 h3 h1 he
      · cases hc
    · rename_i h1 h2 h3
      split at hc
      · rename_i hm; simp only [Option.some.injEq] at hc; subst hc; exact res_eqA (neg := false) h hs hop h2 h3 hm he
      · rename_i hm; simp only [Option.some.injEq] at hc; subst hc; exact res_eqA (neg := true) h hs hop h2 h3 hm he
      · cases hc
    · split at hc
      · simp only [Option.some.injEq] at hc; subst hc; simp [eff] at he
      · simp only [Option.some.injEq] at hc; subst hc; simp [eff] at he
      · cases hc
    · cases hc
  case h_12 t x hop =>
    cases hx : cX x with
    | none => simp [hx] at hc
    | some y => simp only [hx, Option.map_some, Option.some.injEq] at hc; subst hc; exact res_not h hs hop hx he
  case h_13 s t x hop =>
    split at hc
    · rename_i h1 h2 h3; simp only [Option.some.injEq] at hc; subst hc; exact res_conv h hs hop h3 h1 h2 he
    · cases hc
  case h_14 f first caps hop =>
    split at hc
    · rename_i hf
      cases hx : allO cX caps.toList with
      | none => simp [hx] at hc
      | some l => simp only [hx, Option.map_some, Option.some.injEq] at hc; subst hc; exact res_mkf h hs hop hf hx he
    · cases hc
  case h_15 t l c hop =>
    split at hc
    · rename_i hsame
      unfold elemOfT at hc
      split at hc
      · rename_i e hu
        split at hu
        · rename_i e' hu'
          simp only [Option.some.injEq] at hu
          subst hu
          split at hc
          · rename_i s i z l h1 h2 h3 h4
            split at hc
            · cases hc
            · rename_i hcond
              simp only [Option.some.injEq] at hc; subst hc
              simp only [not_or] at hcond
              exact res_makeSl h hs hF hop hsame hu' h1 h2 h3 (by simpa using hcond.2) h4 he
          · cases hc
        · cases hu
      · cases hc
    · cases hc
  case h_16 t x lo hi hop =>
    split at hc
    · rename_i s x' lo' hi' h1 h2 h3 h4
      simp only [Option.some.injEq] at hc; subst hc
      cases hu : elemOfT P t with
      | none => simp [hu] at h1
      | some e =>
        simp only [hu, Option.bind_some] at h1
        unfold elemOfT at hu
        split at hu
        · rename_i e' hu'
          simp only [Option.some.injEq] at hu; subst hu
          exact res_slc h hs hop hu' h1 h2 h3 h4 he
        · cases hu
    · cases hc
  case h_17 t x f hop =>
    split at hc
    · rename_i h1 h2; simp only [Option.some.injEq] at hc; subst hc; exact res_fad h hs hop h2 h1 he
    · cases hc
  case h_18 t x f hop =>
    split at hc
    · rename_i h1 h2; simp only [Option.some.injEq] at hc; subst hc; exact res_fld h hs hop h2 h1 he
    · cases hc
  case h_19 t x i hop =>
    split at hc
    · rename_i e x' i' h1 h2 h3
      cases hz : szOf P e with
      | none => simp [hz] at hc
      | some s =>
        simp only [hz, Option.bind_some] at hc
        split at hc
        · cases hc
        · simp only [Option.some.injEq] at hc; subst hc; exact res_iad h hs hop h2 h3 h1 hz he
    · rename_i m e x' i' h1 h2 h3
      cases hz : szOf P e with
      | none => simp [hz] at hc
      | some s =>
        simp only [hz, Option.bind_some] at hc
        split at hc
        · cases hc
        · simp only [Option.some.injEq] at hc; subst hc; exact res_iaa h hs hop h2 h3 h1 hz he
    · cases hc
  case h_20 t x i hop =>
    split at hc
    · rename_i m e x' i' h1 h2 h3
      split at hc
      · rename_i h4 h5
        split at hc
        · cases hc
        · simp only [Option.some.injEq] at hc; subst hc; exact res_idx h hs hop h2 h3 h1 h4 h5 he
      · cases hc
    · cases hc
  case h_21 x i hop =>
    cases hx : cX x with
    | none => simp [hx] at hc
    | some y => simp only [hx, Option.map_some, Option.some.injEq] at hc; subst hc; exact res_ext h hs hop hx he
  case h_22 c hop =>
    split at hc
    · rename_i hcl
      split at hc
      · rename_i t u x y hat hargs
        split at hc
        · rename_i e e' hu1 hu2
          unfold elemOfT at hu1
          split at hu1
          · rename_i e'' hu1'
            simp only [Option.some.injEq] at hu1; subst hu1
            split at hc
            · rename_i s i x' y' h1 h2 h3 h4
              split at hc
              · cases hc
              · rename_i hcond
                simp only [Option.some.injEq] at hc; subst hc
                simp only [not_or, ne_eq, Decidable.not_not] at hcond
                obtain ⟨_, _, c3, c4⟩ := hcond
                cases hzz : i.zero with
                | none => simp [hzz] at c3
                | some z =>
                  simp only [hzz, Option.map_some, Option.some.injEq] at c4
                  exact res_app h hs hF hop hcl hat hargs hu1' hu2 h1 h2 hzz c4 h3 h4 he
            · cases hc
          · cases hu1
        · cases hc
      · cases hc
    · rename_i hcl
      split at hc
      · rename_i t x hat hargs
        split at hc
        · rename_i e hu
          cases hx : cX x with
          | none => simp [hx] at hc
          | some y => simp only [hx, Option.map_some, Option.some.injEq] at hc; subst hc; exact res_len h hs hop hcl hat hargs hx hu he
        · cases hc
      · cases hc
    · rename_i hcl
      cases hx : allO cX c.args.toList with
      | none => simp [hx] at hc
      | some y => simp only [hx, Option.map_some, Option.some.injEq] at hc; subst hc; exact res_mn h hs hop hcl hx he
    · rename_i hcl
      cases hx : allO cX c.args.toList with
      | none => simp [hx] at hc
      | some y => simp only [hx, Option.map_some, Option.some.injEq] at hc; subst hc; exact res_mx h hs hop hcl hx he
    · cases hx : allO cX c.args.toList with
      | none => simp [hx] at hc
      | some y => simp only [hx, Option.map_some, Option.some.injEq] at hc; subst hc; simp [eff] at he
    · split at hc
      · simp only [Option.some.injEq] at hc; subst hc; simp [eff] at he
      · cases hc
    · cases hc
  case h_23 => cases hc
end
end Go.Am
