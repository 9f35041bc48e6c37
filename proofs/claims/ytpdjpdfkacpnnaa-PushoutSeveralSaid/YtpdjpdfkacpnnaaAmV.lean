/- Lemmas by which a statement of the machine is carried out. -/
import Derived.Test.YtpdjpdfkacpnnaaAmPa
namespace Go.Am
open Go
class Kt (α : Type) where
 go : α → Prop
class Kp where
 p : Prop
class Kq where
 go : LX → St → Prop
def KON {α : Type} (o : Option α) [f : Kt α] : Prop := kon o f.go
def BRAN (o : Option D) [a : Kp] [b : Kp] : Prop := bran o a.p b.p
def GBR (o : Option D) [a : Kp] [b : Kp] [c : Kp] : Prop := brang o a.p b.p c.p
def NIL (o : Option (Prop × Prop)) [a : Kp] [b : Kp] : Prop := kon o fun q => (q.1 → a.p) ∧ (q.2 → b.p)
def CALL (P : Program) (f : Nat) (args : List D) [F : Kt (Bool × D × List (Nat × D))] : Prop := callK P f args F.go
def ACT (P : Program) (n : Nat) (i : LI) (s : St) [K : Kt St] : Prop := actP P n i s K.go
def STEP (P : Program) (n : Nat) (i : LI) (s : St) [K : Kt St] : Prop := stepP P n i s K.go
def OPS (P : Program) (l : List LI) (n : Nat) (s : St) [K : Kt St] : Prop := WOps P l n s K.go
def RUN (P : Program) (c : LC) [Q : Kq] (s : St) : Prop := W P c Q.go s
def END (e : LX) (s : St) [Q : Kq] : Prop := Q.go e s
section
variable {P : Program} {q : LX → St → Prop} {s : St}
theorem W_of {c : LC} {rs : List RV} {outs : List Nat} {r : D} {os : List (Nat × D)} (h : @RUN P c ⟨Done rs outs r os⟩ s) : W P c (Done rs outs r os) s := h
theorem W_ofF {c : LC} {rs : List RV} {outs : List Nat} {r : D} {os : List (Nat × D)} (h : @RUN P c ⟨DoneF rs outs r os⟩ s) : W P c (DoneF rs outs r os) s := h
theorem W_skip : @RUN P .skip ⟨q⟩ s = @END .normal s ⟨q⟩ := by simp only [RUN, W, END]
theorem W_ret : @RUN P .ret ⟨q⟩ s = @END .ret s ⟨q⟩ := by simp only [RUN, W, END]
theorem W_exit {i : Nat} : @RUN P (.exit i) ⟨q⟩ s = @END (.exit i) s ⟨q⟩ := by simp only [RUN, W, END]
theorem W_seq {a b : LC} : @RUN P (.seq a b) ⟨q⟩ s = @RUN P a ⟨LX.seq (fun s => @RUN P b ⟨q⟩ s) q⟩ s := by simp only [RUN, W]
theorem W_block {i : Nat} {a : LC} : @RUN P (.block i a) ⟨q⟩ s = @RUN P a ⟨LX.blk i q⟩ s := by simp only [RUN, W]
theorem W_reg {ops : List LI} {keep : List Nat} {sl : List (Nat × D)} {hp : List (Nat × Ent)} {n : Nat} :
  @RUN P (.reg ops keep) ⟨q⟩ ⟨sl, hp, n⟩ = @OPS P ops n ⟨sl, hp, n⟩ ⟨fun s' => @END .normal ⟨fil keep s'.sl, s'.hp, s'.nx⟩ ⟨q⟩⟩ := by simp only [RUN, W]; rfl
theorem W_cond {c : X} {a b : LC} : @RUN P (.cond c a b) ⟨q⟩ s = @BRAN (ev s.sl c) ⟨@RUN P a ⟨q⟩ s⟩ ⟨@RUN P b ⟨q⟩ s⟩ := by simp only [RUN, W]; rfl
theorem kon_some {α : Type} {a : α} {f : Kt α} : @KON α (some a) f = f.go a := id rfl
theorem kon_none {α : Type} {f : Kt α} : @KON α none f = False := id rfl
theorem bran_true {a b : Kp} : @BRAN (some (.bool true)) a b = a.p := by simp [BRAN, bran]
theorem bran_false {a b : Kp} : @BRAN (some (.bool false)) a b = b.p := by simp [BRAN, bran]
theorem bran_by {t : Bool} {a b : Kp} (h : t = true → a.p) (k : t = false → b.p) : @BRAN (some (.bool t)) a b := ⟨h, k⟩
theorem bran_dec {p : Prop} [Decidable p] {a b : Kp} (h : p → a.p) (k : ¬ p → b.p) : @BRAN (some (.bool (decide p))) a b := ⟨fun e => h (of_decide_eq_true e), fun e => k (of_decide_eq_false e)⟩
theorem bran_ndec {p : Prop} [Decidable p] {a b : Kp} (h : ¬ p → a.p) (k : p → b.p) : @BRAN (some (.bool (!decide p))) a b := ⟨fun e => h (by simpa using e), fun e => k (by simpa using e)⟩
theorem nil_by {p q : Prop} {a b : Kp} (h : p → a.p) (k : q → b.p) : @NIL (some (p, q)) a b := ⟨h, k⟩
theorem nilD_nl {n : Nat} : nilD (.nl n) = some (True, False) := id rfl
theorem nilD_lst {n : Nat} {xs : List D} : nilD (.lst n xs) = some (xs = [], True) := id rfl
theorem nilD_sl {i lo len : Nat} : nilD (.sl i lo len) = some (len = 0, True) := id rfl
theorem call_by {f : Nat} {args : List D} {F : Kt (Bool × D × List (Nat × D))} {r : D} {outs : List (Nat × D)} (h : FC P f args r outs) (k : F.go (false, r, outs)) : @CALL P f args F := ⟨false, r, outs, h, k⟩
theorem call_fz {f : Nat} {args : List D} {F : Kt (Bool × D × List (Nat × D))} {r : D} {outs : List (Nat × D)} (h : FC P f args r outs) (k : F.go (true, r, outs)) : @CALL P f args F := ⟨true, r, outs, h, k⟩
theorem seq_normal {V : St → Prop} : @END .normal s ⟨LX.seq V q⟩ = V s := id rfl
theorem seq_exit {V : St → Prop} {i : Nat} : @END (.exit i) s ⟨LX.seq V q⟩ = @END (.exit i) s ⟨q⟩ := id rfl
theorem seq_ret {V : St → Prop} : @END .ret s ⟨LX.seq V q⟩ = @END .ret s ⟨q⟩ := id rfl
theorem blk_normal {i : Nat} : @END .normal s ⟨LX.blk i q⟩ = @END .normal s ⟨q⟩ := id rfl
theorem blk_exit {i j : Nat} : @END (.exit j) s ⟨LX.blk i q⟩ = if j = i then @END .normal s ⟨q⟩ else @END (.exit j) s ⟨q⟩ := id rfl
theorem blk_ret {i : Nat} : @END .ret s ⟨LX.blk i q⟩ = @END .ret s ⟨q⟩ := id rfl
theorem DoneF_normal {rs : List RV} {outs : List Nat} {r : D} {os : List (Nat × D)} : @END .normal s ⟨DoneF rs outs r os⟩ = (fin ⟨s.sl, freezeIds (s.hp.map (·.1)) s.hp, s.nx⟩ rs outs = some (r, os)) := id rfl
theorem DoneF_ret {rs : List RV} {outs : List Nat} {r : D} {os : List (Nat × D)} : @END .ret s ⟨DoneF rs outs r os⟩ = (fin ⟨s.sl, freezeIds (s.hp.map (·.1)) s.hp, s.nx⟩ rs outs = some (r, os)) := id rfl
theorem Done_normal {rs : List RV} {outs : List Nat} {r : D} {os : List (Nat × D)} : @END .normal s ⟨Done rs outs r os⟩ = (fin s rs outs = some (r, os)) := id rfl
theorem Done_ret {rs : List RV} {outs : List Nat} {r : D} {os : List (Nat × D)} : @END .ret s ⟨Done rs outs r os⟩ = (fin s rs outs = some (r, os)) := id rfl
theorem gbr_bool {t : Bool} {a b c : Kp} : @GBR (some (.bool t)) a b c = @BRAN (some (.bool t)) a b := id rfl
theorem gbr_undef {a b c : Kp} : @GBR (some .undef) a b c = c.p := id rfl
theorem stepP_t {d : Option Nat} {op : LOp} {t : Nat} {n : Nat} {sl : List (Nat × D)} {hp : List (Nat × Ent)} {m : Nat} {K : Kt St} : @STEP P n ⟨d, op, some (t, true)⟩ ⟨sl, hp, m⟩ K = @GBR (lk sl t) ⟨@ACT P n ⟨d, op, some (t, true)⟩ ⟨sl, hp, m⟩ K⟩ ⟨K.go ⟨putd d .undef sl, hp, m⟩⟩ ⟨K.go ⟨putd d .undef sl, hp, m⟩⟩ := id rfl
theorem stepP_f {d : Option Nat} {op : LOp} {t : Nat} {n : Nat} {sl : List (Nat × D)} {hp : List (Nat × Ent)} {m : Nat} {K : Kt St} : @STEP P n ⟨d, op, some (t, false)⟩ ⟨sl, hp, m⟩ K = @GBR (lk sl t) ⟨K.go ⟨putd d .undef sl, hp, m⟩⟩ ⟨@ACT P n ⟨d, op, some (t, false)⟩ ⟨sl, hp, m⟩ K⟩ ⟨K.go ⟨putd d .undef sl, hp, m⟩⟩ := id rfl
theorem stepP_mk {d : Option Nat} {op : LOp} {n : Nat} {s : St} {K : Kt St} : @STEP P n ⟨d, op, none⟩ s K = @ACT P n ⟨d, op, none⟩ s K := id rfl
theorem WOps_nil {n m : Nat} {sl : List (Nat × D)} {hp : List (Nat × Ent)} {K : Kt St} : @OPS P [] n ⟨sl, hp, m⟩ K = K.go ⟨sl, hp, n⟩ := id rfl
theorem WOps_cons {i : LI} {l : List LI} {n : Nat} {s : St} {K : Kt St} : @OPS P (i :: l) n s K = @STEP P n i s ⟨fun s' => @OPS P l (n + 64) s' K⟩ := id rfl
section
variable {dst : Option Nat} {gd : Option (Nat × Bool)} {n m : Nat} {sl : List (Nat × D)} {hp : List (Nat × Ent)} {K : Kt St}
theorem actP_mov {x} : @ACT P n ⟨dst, .mov x, gd⟩ ⟨sl, hp, m⟩ K = @KON _ (eff n sl hp (.mov x)) ⟨fun p => K.go ⟨putd dst p.1 sl, p.2, m⟩⟩ := id rfl
theorem actP_pick {c a b} : @ACT P n ⟨dst, .pick c a b, gd⟩ ⟨sl, hp, m⟩ K = @KON _ (eff n sl hp (.pick c a b)) ⟨fun p => K.go ⟨putd dst p.1 sl, p.2, m⟩⟩ := id rfl
theorem actP_alloc {z} : @ACT P n ⟨dst, .alloc z, gd⟩ ⟨sl, hp, m⟩ K = @KON _ (eff n sl hp (.alloc z)) ⟨fun p => K.go ⟨putd dst p.1 sl, p.2, m⟩⟩ := id rfl
theorem actP_bx {x} : @ACT P n ⟨dst, .bx x, gd⟩ ⟨sl, hp, m⟩ K = @KON _ (eff n sl hp (.bx x)) ⟨fun p => K.go ⟨putd dst p.1 sl, p.2, m⟩⟩ := id rfl
theorem actP_build {z ps} : @ACT P n ⟨dst, .build z ps, gd⟩ ⟨sl, hp, m⟩ K = @KON _ (eff n sl hp (.build z ps)) ⟨fun p => K.go ⟨putd dst p.1 sl, p.2, m⟩⟩ := id rfl
theorem actP_buildSl {a b z c ps} : @ACT P n ⟨dst, .buildSl a b z c ps, gd⟩ ⟨sl, hp, m⟩ K = @KON _ (eff n sl hp (.buildSl a b z c ps)) ⟨fun p => K.go ⟨putd dst p.1 sl, p.2, m⟩⟩ := id rfl
theorem actP_mkn {a b x} : @ACT P n ⟨dst, .mkn a b x, gd⟩ ⟨sl, hp, m⟩ K = @KON _ (eff n sl hp (.mkn a b x)) ⟨fun p => K.go ⟨putd dst p.1 sl, p.2, m⟩⟩ := id rfl
theorem actP_tk {x} : @ACT P n ⟨dst, .tk x, gd⟩ ⟨sl, hp, m⟩ K = @KON _ (eff n sl hp (.tk x)) ⟨fun p => K.go ⟨putd dst p.1 sl, p.2, m⟩⟩ := id rfl
theorem actP_pu {a x} : @ACT P n ⟨dst, .pu a x, gd⟩ ⟨sl, hp, m⟩ K = @KON _ (eff n sl hp (.pu a x)) ⟨fun p => K.go ⟨putd dst p.1 sl, p.2, m⟩⟩ := id rfl
theorem actP_load {a b x} : @ACT P n ⟨dst, .load a b x, gd⟩ ⟨sl, hp, m⟩ K = @KON _ (eff n sl hp (.load a b x)) ⟨fun p => K.go ⟨putd dst p.1 sl, p.2, m⟩⟩ := id rfl
theorem actP_store {a x y} : @ACT P n ⟨dst, .store a x y, gd⟩ ⟨sl, hp, m⟩ K = @KON _ (eff n sl hp (.store a x y)) ⟨fun p => K.go ⟨putd dst p.1 sl, p.2, m⟩⟩ := id rfl
theorem actP_bin {op x y} : @ACT P n ⟨dst, .bin op x y, gd⟩ ⟨sl, hp, m⟩ K = @KON _ (eff n sl hp (.bin op x y)) ⟨fun p => K.go ⟨putd dst p.1 sl, p.2, m⟩⟩ := id rfl
theorem actP_eqA {c b x y} : @ACT P n ⟨dst, .eqA c b x y, gd⟩ ⟨sl, hp, m⟩ K = @KON _ (eff n sl hp (.eqA c b x y)) ⟨fun p => K.go ⟨putd dst p.1 sl, p.2, m⟩⟩ := id rfl
theorem actP_eqB {b x y} : @ACT P n ⟨dst, .eqB b x y, gd⟩ ⟨sl, hp, m⟩ K = @KON _ (eff n sl hp (.eqB b x y)) ⟨fun p => K.go ⟨putd dst p.1 sl, p.2, m⟩⟩ := id rfl
theorem actP_not {x} : @ACT P n ⟨dst, .not x, gd⟩ ⟨sl, hp, m⟩ K = @KON _ (eff n sl hp (.not x)) ⟨fun p => K.go ⟨putd dst p.1 sl, p.2, m⟩⟩ := id rfl
theorem actP_conv {k x} : @ACT P n ⟨dst, .conv k x, gd⟩ ⟨sl, hp, m⟩ K = @KON _ (eff n sl hp (.conv k x)) ⟨fun p => K.go ⟨putd dst p.1 sl, p.2, m⟩⟩ := id rfl
theorem actP_mkf {f l} : @ACT P n ⟨dst, .mkf f l, gd⟩ ⟨sl, hp, m⟩ K = @KON _ (eff n sl hp (.mkf f l)) ⟨fun p => K.go ⟨putd dst p.1 sl, p.2, m⟩⟩ := id rfl
theorem actP_makeSl {a b z x} : @ACT P n ⟨dst, .makeSl a b z x, gd⟩ ⟨sl, hp, m⟩ K = @KON _ (eff n sl hp (.makeSl a b z x)) ⟨fun p => K.go ⟨putd dst p.1 sl, p.2, m⟩⟩ := id rfl
theorem actP_slc {a x y z} : @ACT P n ⟨dst, .slc a x y z, gd⟩ ⟨sl, hp, m⟩ K = @KON _ (eff n sl hp (.slc a x y z)) ⟨fun p => K.go ⟨putd dst p.1 sl, p.2, m⟩⟩ := id rfl
theorem actP_fad {a x} : @ACT P n ⟨dst, .fad a x, gd⟩ ⟨sl, hp, m⟩ K = @KON _ (eff n sl hp (.fad a x)) ⟨fun p => K.go ⟨putd dst p.1 sl, p.2, m⟩⟩ := id rfl
theorem actP_fld {a b c x} : @ACT P n ⟨dst, .fld a b c x, gd⟩ ⟨sl, hp, m⟩ K = @KON _ (eff n sl hp (.fld a b c x)) ⟨fun p => K.go ⟨putd dst p.1 sl, p.2, m⟩⟩ := id rfl
theorem actP_iad {a x y} : @ACT P n ⟨dst, .iad a x y, gd⟩ ⟨sl, hp, m⟩ K = @KON _ (eff n sl hp (.iad a x y)) ⟨fun p => K.go ⟨putd dst p.1 sl, p.2, m⟩⟩ := id rfl
theorem actP_iaa {a b x y} : @ACT P n ⟨dst, .iaa a b x y, gd⟩ ⟨sl, hp, m⟩ K = @KON _ (eff n sl hp (.iaa a b x y)) ⟨fun p => K.go ⟨putd dst p.1 sl, p.2, m⟩⟩ := id rfl
theorem actP_idx {a b c x y} : @ACT P n ⟨dst, .idx a b c x y, gd⟩ ⟨sl, hp, m⟩ K = @KON _ (eff n sl hp (.idx a b c x y)) ⟨fun p => K.go ⟨putd dst p.1 sl, p.2, m⟩⟩ := id rfl
theorem actP_app {a b x y} : @ACT P n ⟨dst, .app a b x y, gd⟩ ⟨sl, hp, m⟩ K = @KON _ (eff n sl hp (.app a b x y)) ⟨fun p => K.go ⟨putd dst p.1 sl, p.2, m⟩⟩ := id rfl
theorem actP_len {x} : @ACT P n ⟨dst, .len x, gd⟩ ⟨sl, hp, m⟩ K = @KON _ (eff n sl hp (.len x)) ⟨fun p => K.go ⟨putd dst p.1 sl, p.2, m⟩⟩ := id rfl
theorem actP_cap {x} : @ACT P n ⟨dst, .cap x, gd⟩ ⟨sl, hp, m⟩ K = @KON _ (eff n sl hp (.cap x)) ⟨fun p => K.go ⟨putd dst p.1 sl, p.2, m⟩⟩ := id rfl
theorem actP_clr {a x} : @ACT P n ⟨dst, .clr a x, gd⟩ ⟨sl, hp, m⟩ K = @KON _ (eff n sl hp (.clr a x)) ⟨fun p => K.go ⟨putd dst p.1 sl, p.2, m⟩⟩ := id rfl
theorem actP_appz {a b z x y} : @ACT P n ⟨dst, .appz a b z x y, gd⟩ ⟨sl, hp, m⟩ K = @KON _ (eff n sl hp (.appz a b z x y)) ⟨fun p => K.go ⟨putd dst p.1 sl, p.2, m⟩⟩ := id rfl
theorem actP_bad  : @ACT P n ⟨dst, .bad, gd⟩ ⟨sl, hp, m⟩ K = @KON _ (eff n sl hp (.bad)) ⟨fun p => K.go ⟨putd dst p.1 sl, p.2, m⟩⟩ := id rfl
theorem actP_mn {l} : @ACT P n ⟨dst, .mn l, gd⟩ ⟨sl, hp, m⟩ K = @KON _ (eff n sl hp (.mn l)) ⟨fun p => K.go ⟨putd dst p.1 sl, p.2, m⟩⟩ := id rfl
theorem actP_mx {l} : @ACT P n ⟨dst, .mx l, gd⟩ ⟨sl, hp, m⟩ K = @KON _ (eff n sl hp (.mx l)) ⟨fun p => K.go ⟨putd dst p.1 sl, p.2, m⟩⟩ := id rfl
theorem actP_isnil {g x} : @ACT P n ⟨dst, .isnil g x, gd⟩ ⟨sl, hp, m⟩ K = @NIL ((ev sl x).bind nilD) ⟨K.go ⟨putd dst (.bool (!g)) sl, hp, m⟩⟩ ⟨K.go ⟨putd dst (.bool g) sl, hp, m⟩⟩ := by
 simp only [ACT, actP, NIL]
theorem actP_ext {x a} : @ACT P n ⟨dst, .ext x a, gd⟩ ⟨sl, hp, m⟩ K = @KON _ (eff n sl hp (.ext x a)) ⟨fun p => K.go ⟨putd dst p.1 sl, p.2, m⟩⟩ := id rfl
theorem actP_call {f xs md} : @ACT P n ⟨dst, .call f xs md, gd⟩ ⟨sl, hp, m⟩ K =
  @KON _ (allO (ev sl) xs) ⟨fun ds => @KON _ (gives hp md ds) ⟨fun p => @CALL P f p.1 ⟨fun q => @KON _ (afterCall q.1 n hp p.2 ds md q.2.1 q.2.2) ⟨fun p => K.go ⟨putd dst p.1 sl, p.2, m⟩⟩⟩⟩⟩ := id rfl
theorem actP_callv {g xs} : @ACT P n ⟨dst, .callv g xs, gd⟩ ⟨sl, hp, m⟩ K =
  @KON _ ((ev sl g).bind asClo) ⟨fun c => @KON _ (allO (ev sl) xs) ⟨fun ds => @KON _ (gives hp [] (ds ++ c.2)) ⟨fun p => @CALL P c.1 p.1 ⟨fun q => @KON _ (afterCall q.1 n hp p.2 (ds ++ c.2) [] q.2.1 q.2.2) ⟨fun p => K.go ⟨putd dst p.1 sl, p.2, m⟩⟩⟩⟩⟩⟩ := id rfl
theorem actP_callm {g xs} : @ACT P n ⟨dst, .callm g xs, gd⟩ ⟨sl, hp, m⟩ K =
  @KON _ ((ev sl g).bind asClo) ⟨fun c => @KON _ (allO (ev sl) xs) ⟨fun ds => @KON _ (gives hp (ds.map (fun _ => Md.rd) ++ c.2.map fun _ => Md.mp) (ds ++ c.2)) ⟨fun p => @CALL P c.1 p.1 ⟨fun q => @KON _ (afterCall q.1 n hp p.2 (ds ++ c.2) (ds.map (fun _ => Md.rd) ++ c.2.map fun _ => Md.mp) q.2.1 q.2.2) ⟨fun p => K.go ⟨putd dst p.1 sl, p.2, m⟩⟩⟩⟩⟩⟩ := id rfl
end
theorem okA0_int {k : IntKind} {x : Int} : okA0 (.int k x : D) = true := id rfl
theorem okA1_int {k : IntKind} {x : Int} : okA1 (.int k x : D) = okA0 (.int k x : D) := id rfl
theorem okA_int {k : IntKind} {x : Int} : okA (.int k x : D) = okA1 (.int k x : D) := id rfl
theorem noPt_int {k : IntKind} {x : Int} : noPt (.int k x : D) = true := id rfl
theorem okA0_bool {b : Bool} : okA0 (.bool b : D) = true := id rfl
theorem okA1_bool {b : Bool} : okA1 (.bool b : D) = okA0 (.bool b : D) := id rfl
theorem okA_bool {b : Bool} : okA (.bool b : D) = okA1 (.bool b : D) := id rfl
theorem noPt_bool {b : Bool} : noPt (.bool b : D) = true := id rfl
theorem okA0_nl {sz : Nat} : okA0 (.nl sz : D) = true := id rfl
theorem okA1_nl {sz : Nat} : okA1 (.nl sz : D) = okA0 (.nl sz : D) := id rfl
theorem okA_nl {sz : Nat} : okA (.nl sz : D) = okA1 (.nl sz : D) := id rfl
theorem noPt_nl {sz : Nat} : noPt (.nl sz : D) = true := id rfl
theorem okA0_lst {sz : Nat} {xs : List D} : okA0 (.lst sz xs : D) = true := id rfl
theorem okA1_lst {sz : Nat} {xs : List D} : okA1 (.lst sz xs : D) = okA0 (.lst sz xs : D) := id rfl
theorem okA_lst {sz : Nat} {xs : List D} : okA (.lst sz xs : D) = okA1 (.lst sz xs : D) := id rfl
theorem noPt_lst {sz : Nat} {xs : List D} : noPt (.lst sz xs : D) = true := id rfl
theorem okA0_arr {sz : Nat} {xs : List D} : okA0 (.arr sz xs : D) = true := id rfl
theorem okA1_arr {sz : Nat} {xs : List D} : okA1 (.arr sz xs : D) = okA0 (.arr sz xs : D) := id rfl
theorem okA_arr {sz : Nat} {xs : List D} : okA (.arr sz xs : D) = okA1 (.arr sz xs : D) := id rfl
theorem noPt_arr {sz : Nat} {xs : List D} : noPt (.arr sz xs : D) = true := id rfl
theorem okA0_agg {cs : List D} : okA0 (.agg cs : D) = false := id rfl
theorem okA1_agg {cs : List D} : okA1 (.agg cs : D) = cs.all okA0 := id rfl
theorem okA_agg {cs : List D} : okA (.agg cs : D) = okA1 (.agg cs : D) := id rfl
theorem noPt_agg {cs : List D} : noPt (.agg cs : D) = true := id rfl
theorem okA0_tup {cs : List D} : okA0 (.tup cs : D) = false := id rfl
theorem okA1_tup {cs : List D} : okA1 (.tup cs : D) = okA0 (.tup cs : D) := id rfl
theorem okA_tup {cs : List D} : okA (.tup cs : D) = cs.all okA1 := id rfl
theorem noPt_tup {cs : List D} : noPt (.tup cs : D) = false := id rfl
theorem okA0_ref {cs : List D} : okA0 (.ref cs : D) = true := id rfl
theorem okA1_ref {cs : List D} : okA1 (.ref cs : D) = okA0 (.ref cs : D) := id rfl
theorem okA_ref {cs : List D} : okA (.ref cs : D) = okA1 (.ref cs : D) := id rfl
theorem noPt_ref {cs : List D} : noPt (.ref cs : D) = true := id rfl
theorem okA0_box {cs : List D} : okA0 (.box cs : D) = false := id rfl
theorem okA1_box {cs : List D} : okA1 (.box cs : D) = cs.all okA0 := id rfl
theorem okA_box {cs : List D} : okA (.box cs : D) = okA1 (.box cs : D) := id rfl
theorem noPt_box {cs : List D} : noPt (.box cs : D) = true := id rfl
theorem okA0_clo {f : Nat} {cs : List D} : okA0 (.clo f cs : D) = cs.all okCap := id rfl
theorem okCap_int {k : IntKind} {x : Int} : okCap (.int k x) = true := id rfl
theorem okCap_bool {b : Bool} : okCap (.bool b) = true := id rfl
theorem okCap_nl {n : Nat} : okCap (.nl n) = true := id rfl
theorem okCap_lst {n : Nat} {l : List D} : okCap (.lst n l) = true := id rfl
theorem okCap_ref {l : List D} : okCap (.ref l) = true := id rfl
theorem okA1_clo {f : Nat} {cs : List D} : okA1 (.clo f cs : D) = okA0 (.clo f cs : D) := id rfl
theorem okA_clo {f : Nat} {cs : List D} : okA (.clo f cs : D) = okA1 (.clo f cs : D) := id rfl
theorem noPt_clo {f : Nat} {cs : List D} : noPt (.clo f cs : D) = cs.all okCap := id rfl
theorem okA0_sl {i : Nat} {lo : Nat} {len : Nat} : okA0 (.sl i lo len : D) = false := id rfl
theorem okA1_sl {i : Nat} {lo : Nat} {len : Nat} : okA1 (.sl i lo len : D) = okA0 (.sl i lo len : D) := id rfl
theorem okA_sl {i : Nat} {lo : Nat} {len : Nat} : okA (.sl i lo len : D) = okA1 (.sl i lo len : D) := id rfl
theorem noPt_sl {i : Nat} {lo : Nat} {len : Nat} : noPt (.sl i lo len : D) = true := id rfl
theorem okA0_pt {i : Nat} {off : Nat} : okA0 (.pt i off : D) = false := id rfl
theorem okA1_pt {i : Nat} {off : Nat} : okA1 (.pt i off : D) = okA0 (.pt i off : D) := id rfl
theorem okA_pt {i : Nat} {off : Nat} : okA (.pt i off : D) = okA1 (.pt i off : D) := id rfl
theorem noPt_pt {i : Nat} {off : Nat} : noPt (.pt i off : D) = false := id rfl
theorem okA0_pe {i : Nat} {j : Nat} {off : Nat} : okA0 (.pe i j off : D) = false := id rfl
theorem okA1_pe {i : Nat} {j : Nat} {off : Nat} : okA1 (.pe i j off : D) = okA0 (.pe i j off : D) := id rfl
theorem okA_pe {i : Nat} {j : Nat} {off : Nat} : okA (.pe i j off : D) = okA1 (.pe i j off : D) := id rfl
theorem noPt_pe {i : Nat} {j : Nat} {off : Nat} : noPt (.pe i j off : D) = false := id rfl
theorem okA0_undef : okA0 (.undef : D) = false := id rfl
theorem okA1_undef : okA1 (.undef : D) = okA0 (.undef : D) := id rfl
theorem okA_undef : okA (.undef : D) = okA1 (.undef : D) := id rfl
theorem noPt_undef : noPt (.undef : D) = true := id rfl
theorem optI_none {sl : List (Nat × D)} {d0 : Int} : optI sl d0 none = some d0 := id rfl
theorem optI_some {sl : List (Nat × D)} {d0 : Int} {x : X} : optI sl d0 (some x) = (ev sl x).bind asI := id rfl
def entSz2 (o : Option Ent) : Option Nat := match o with | some (.arr sz _) => some sz | some (.imm sz _) => some sz | some (.nst ..) => some 1 | _ => none
theorem entSz_eq {hp : List (Nat × Ent)} {i : Nat} : entSz hp i = entSz2 (lk hp i) := id rfl
theorem entSz2_nst {sz : Nat} {l : List (Option (List D))} : entSz2 (some (.nst sz l)) = some 1 := id rfl
theorem entSz2_arr {sz : Nat} {xs : List D} : entSz2 (some (.arr sz xs)) = some sz := id rfl
theorem entSz2_imm {sz : Nat} {xs : List D} : entSz2 (some (.imm sz xs)) = some sz := id rfl
theorem fits_ok {n b : Nat} (h : n * b ≤ 140737488355328) (h' : n ≤ 140737488355328) : fits n b = true := by simp [fits, maxL, h, h']
theorem wrap_i64 {n : Int} (h : -9223372036854775808 ≤ n) (h' : n ≤ 9223372036854775807) : IntKind.i64.wrap n = n := by
 rw [IntKind.wrap_i64]; omega
def ints (l : List Int) : List D := l.map (.int .i64)
theorem ints_length (l : List Int) : (ints l).length = l.length := by simp [ints]
theorem ints_snoc (l : List Int) (x : Int) : ints l ++ [.int .i64 x] = ints (l ++ [x]) := by simp [ints]
theorem flat_ints (l : List Int) : (ints l).all D.flatE = true := by simp [ints, D.flatE, D.flat0]
theorem ints_nil : ints [] = [] := id rfl
theorem ints_get (l : List Int) (i : Nat) : (ints l)[i]? = (l[i]?).map (.int .i64) := by simp [ints]
theorem cells_int {k : IntKind} {x : Int} : D.cells (.int k x : D) = [(.int k x : D)] := id rfl
theorem cellsO_int {k : IntKind} {x : Int} : cellsO (.int k x : D) = some [(.int k x : D)] := id rfl
theorem flat0_int {k : IntKind} {x : Int} : D.flat0 (.int k x : D) = true := id rfl
theorem flatE_int {k : IntKind} {x : Int} : D.flatE (.int k x : D) = D.flat0 (.int k x : D) := id rfl
theorem flat1_int {k : IntKind} {x : Int} : D.flat1 (.int k x : D) = D.flat0 (.int k x : D) := id rfl
theorem flat2_int {k : IntKind} {x : Int} : D.flat2 (.int k x : D) = D.flat1 (.int k x : D) := id rfl
theorem flat_int {k : IntKind} {x : Int} : D.flat (.int k x : D) = D.flat2 (.int k x : D) := id rfl
theorem lend0_int {hp : List (Nat × Ent)} {k : IntKind} {x : Int} : lend0 hp (.int k x : D) = some (.int k x : D) := id rfl
theorem lend1_int {hp : List (Nat × Ent)} {k : IntKind} {x : Int} : lend1 hp (.int k x : D) = lend0 hp (.int k x : D) := id rfl
theorem lend_int {hp : List (Nat × Ent)} {k : IntKind} {x : Int} : lend hp (.int k x : D) = lend1 hp (.int k x : D) := id rfl
theorem pur_int {hp : List (Nat × Ent)} {k : IntKind} {x : Int} : pur hp (.int k x : D) = lend0 hp (.int k x : D) := id rfl
theorem expel0_int {hp : List (Nat × Ent)} {k : IntKind} {x : Int} : expel0 hp (.int k x : D) = some ((.int k x : D), hp) := id rfl
theorem expel1_int {hp : List (Nat × Ent)} {k : IntKind} {x : Int} : expel1 hp (.int k x : D) = expel0 hp (.int k x : D) := id rfl
theorem expel_int {hp : List (Nat × Ent)} {k : IntKind} {x : Int} : expel hp (.int k x : D) = expel1 hp (.int k x : D) := id rfl
theorem adopt0_int {n : Nat} {k : IntKind} {x : Int} : adopt0 n (.int k x : D) = ((.int k x : D), [], n) := id rfl
theorem adopt1_int {n : Nat} {k : IntKind} {x : Int} : adopt1 n (.int k x : D) = adopt0 n (.int k x : D) := id rfl
theorem adopt_int {n : Nat} {k : IntKind} {x : Int} : adopt n (.int k x : D) = adopt1 n (.int k x : D) := id rfl
theorem ids_int {k : IntKind} {x : Int} : D.ids (.int k x : D) = [] := id rfl
theorem ids0_int {k : IntKind} {x : Int} : D.ids0 (.int k x : D) = [] := id rfl
theorem rdS_int {m : Nat} {hp : List (Nat × Ent)} {k : IntKind} {x : Int} : rdS hp m (.int k x : D) = none := id rfl
theorem okElem_int {m : Nat} {k : IntKind} {x : Int} : okElem m (.int k x : D) = decide (m = 1) := id rfl
theorem okCell_int {k : IntKind} {x : Int} : okCell (.int k x : D) = true := id rfl
theorem asClo_int {k : IntKind} {x : Int} : asClo (.int k x : D) = none := id rfl
theorem ren0_int {hp : List (Nat × Ent)} {n : NS} {k : IntKind} {x : Int} : ren0 hp n (.int k x : D) = ((.int k x : D), n) := id rfl
theorem ren1_int {hp : List (Nat × Ent)} {n : NS} {k : IntKind} {x : Int} : ren1 hp n (.int k x : D) = ren0 hp n (.int k x : D) := id rfl
theorem ren2_int {hp : List (Nat × Ent)} {n : NS} {k : IntKind} {x : Int} : ren2 hp n (.int k x : D) = ren1 hp n (.int k x : D) := id rfl
theorem cells_bool {b : Bool} : D.cells (.bool b : D) = [(.bool b : D)] := id rfl
theorem cellsO_bool {b : Bool} : cellsO (.bool b : D) = some [(.bool b : D)] := id rfl
theorem flat0_bool {b : Bool} : D.flat0 (.bool b : D) = true := id rfl
theorem flatE_bool {b : Bool} : D.flatE (.bool b : D) = D.flat0 (.bool b : D) := id rfl
theorem flat1_bool {b : Bool} : D.flat1 (.bool b : D) = D.flat0 (.bool b : D) := id rfl
theorem flat2_bool {b : Bool} : D.flat2 (.bool b : D) = D.flat1 (.bool b : D) := id rfl
theorem flat_bool {b : Bool} : D.flat (.bool b : D) = D.flat2 (.bool b : D) := id rfl
theorem lend0_bool {hp : List (Nat × Ent)} {b : Bool} : lend0 hp (.bool b : D) = some (.bool b : D) := id rfl
theorem lend1_bool {hp : List (Nat × Ent)} {b : Bool} : lend1 hp (.bool b : D) = lend0 hp (.bool b : D) := id rfl
theorem lend_bool {hp : List (Nat × Ent)} {b : Bool} : lend hp (.bool b : D) = lend1 hp (.bool b : D) := id rfl
theorem pur_bool {hp : List (Nat × Ent)} {b : Bool} : pur hp (.bool b : D) = lend0 hp (.bool b : D) := id rfl
theorem expel0_bool {hp : List (Nat × Ent)} {b : Bool} : expel0 hp (.bool b : D) = some ((.bool b : D), hp) := id rfl
theorem expel1_bool {hp : List (Nat × Ent)} {b : Bool} : expel1 hp (.bool b : D) = expel0 hp (.bool b : D) := id rfl
theorem expel_bool {hp : List (Nat × Ent)} {b : Bool} : expel hp (.bool b : D) = expel1 hp (.bool b : D) := id rfl
theorem adopt0_bool {n : Nat} {b : Bool} : adopt0 n (.bool b : D) = ((.bool b : D), [], n) := id rfl
theorem adopt1_bool {n : Nat} {b : Bool} : adopt1 n (.bool b : D) = adopt0 n (.bool b : D) := id rfl
theorem adopt_bool {n : Nat} {b : Bool} : adopt n (.bool b : D) = adopt1 n (.bool b : D) := id rfl
theorem ids_bool {b : Bool} : D.ids (.bool b : D) = [] := id rfl
theorem ids0_bool {b : Bool} : D.ids0 (.bool b : D) = [] := id rfl
theorem rdS_bool {m : Nat} {hp : List (Nat × Ent)} {b : Bool} : rdS hp m (.bool b : D) = none := id rfl
theorem okElem_bool {m : Nat} {b : Bool} : okElem m (.bool b : D) = decide (m = 1) := id rfl
theorem okCell_bool {b : Bool} : okCell (.bool b : D) = true := id rfl
theorem asClo_bool {b : Bool} : asClo (.bool b : D) = none := id rfl
theorem ren0_bool {hp : List (Nat × Ent)} {n : NS} {b : Bool} : ren0 hp n (.bool b : D) = ((.bool b : D), n) := id rfl
theorem ren1_bool {hp : List (Nat × Ent)} {n : NS} {b : Bool} : ren1 hp n (.bool b : D) = ren0 hp n (.bool b : D) := id rfl
theorem ren2_bool {hp : List (Nat × Ent)} {n : NS} {b : Bool} : ren2 hp n (.bool b : D) = ren1 hp n (.bool b : D) := id rfl
theorem cells_nl {sz : Nat} : D.cells (.nl sz : D) = [(.nl sz : D)] := id rfl
theorem cellsO_nl {sz : Nat} : cellsO (.nl sz : D) = some [(.nl sz : D)] := id rfl
theorem flat0_nl {sz : Nat} : D.flat0 (.nl sz : D) = false := id rfl
theorem flatE_nl {sz : Nat} : D.flatE (.nl sz : D) = D.flat0 (.nl sz : D) := id rfl
theorem flat1_nl {sz : Nat} : D.flat1 (.nl sz : D) = D.flat0 (.nl sz : D) := id rfl
theorem flat2_nl {sz : Nat} : D.flat2 (.nl sz : D) = D.flat1 (.nl sz : D) := id rfl
theorem flat_nl {sz : Nat} : D.flat (.nl sz : D) = D.flat2 (.nl sz : D) := id rfl
theorem lend0_nl {hp : List (Nat × Ent)} {sz : Nat} : lend0 hp (.nl sz : D) = if sz = 0 then some (.nl 0) else some (.lst sz []) := id rfl
theorem lend1_nl {hp : List (Nat × Ent)} {sz : Nat} : lend1 hp (.nl sz : D) = lend0 hp (.nl sz : D) := id rfl
theorem lend_nl {hp : List (Nat × Ent)} {sz : Nat} : lend hp (.nl sz : D) = lend1 hp (.nl sz : D) := id rfl
theorem pur_nl {hp : List (Nat × Ent)} {sz : Nat} : pur hp (.nl sz : D) = lend0 hp (.nl sz : D) := id rfl
theorem expel0_nl {hp : List (Nat × Ent)} {sz : Nat} : expel0 hp (.nl sz : D) = some (.arr sz [], hp) := id rfl
theorem expel1_nl {hp : List (Nat × Ent)} {sz : Nat} : expel1 hp (.nl sz : D) = expel0 hp (.nl sz : D) := id rfl
theorem expel_nl {hp : List (Nat × Ent)} {sz : Nat} : expel hp (.nl sz : D) = expel1 hp (.nl sz : D) := id rfl
theorem adopt0_nl {n : Nat} {sz : Nat} : adopt0 n (.nl sz : D) = ((.nl sz : D), [], n) := id rfl
theorem adopt1_nl {n : Nat} {sz : Nat} : adopt1 n (.nl sz : D) = adopt0 n (.nl sz : D) := id rfl
theorem adopt_nl {n : Nat} {sz : Nat} : adopt n (.nl sz : D) = adopt1 n (.nl sz : D) := id rfl
theorem ids_nl {sz : Nat} : D.ids (.nl sz : D) = [] := id rfl
theorem ids0_nl {sz : Nat} : D.ids0 (.nl sz : D) = [] := id rfl
theorem rdS_nl {m : Nat} {hp : List (Nat × Ent)} {sz : Nat} : rdS hp m (.nl sz : D) = some [] := id rfl
theorem okElem_nl {m : Nat} {sz : Nat} : okElem m (.nl sz : D) = false := id rfl
theorem okCell_nl {sz : Nat} : okCell (.nl sz : D) = false := id rfl
theorem asClo_nl {sz : Nat} : asClo (.nl sz : D) = none := id rfl
theorem ren0_nl {hp : List (Nat × Ent)} {n : NS} {sz : Nat} : ren0 hp n (.nl sz : D) = (.sl n.k 0 0, ⟨n.m, n.e ++ [(n.k, .arr sz [])], n.k + 1⟩) := id rfl
theorem ren1_nl {hp : List (Nat × Ent)} {n : NS} {sz : Nat} : ren1 hp n (.nl sz : D) = ren0 hp n (.nl sz : D) := id rfl
theorem ren2_nl {hp : List (Nat × Ent)} {n : NS} {sz : Nat} : ren2 hp n (.nl sz : D) = ren1 hp n (.nl sz : D) := id rfl
theorem cells_lst {sz : Nat} {xs : List D} : D.cells (.lst sz xs : D) = [(.lst sz xs : D)] := id rfl
theorem cellsO_lst {sz : Nat} {xs : List D} : cellsO (.lst sz xs : D) = some [(.lst sz xs : D)] := id rfl
theorem flat0_lst {sz : Nat} {xs : List D} : D.flat0 (.lst sz xs : D) = false := id rfl
theorem flatE_lst {sz : Nat} {xs : List D} : D.flatE (.lst sz xs : D) = D.flat0 (.lst sz xs : D) := id rfl
theorem flat1_lst {sz : Nat} {xs : List D} : D.flat1 (.lst sz xs : D) = D.flat0 (.lst sz xs : D) := id rfl
theorem flat2_lst {sz : Nat} {xs : List D} : D.flat2 (.lst sz xs : D) = D.flat1 (.lst sz xs : D) := id rfl
theorem flat_lst {sz : Nat} {xs : List D} : D.flat (.lst sz xs : D) = D.flat2 (.lst sz xs : D) := id rfl
theorem lend0_lst {hp : List (Nat × Ent)} {sz : Nat} {xs : List D} : lend0 hp (.lst sz xs : D) = some (.lst sz xs : D) := id rfl
theorem lend1_lst {hp : List (Nat × Ent)} {sz : Nat} {xs : List D} : lend1 hp (.lst sz xs : D) = lend0 hp (.lst sz xs : D) := id rfl
theorem lend_lst {hp : List (Nat × Ent)} {sz : Nat} {xs : List D} : lend hp (.lst sz xs : D) = lend1 hp (.lst sz xs : D) := id rfl
theorem pur_lst {hp : List (Nat × Ent)} {sz : Nat} {xs : List D} : pur hp (.lst sz xs : D) = lend0 hp (.lst sz xs : D) := id rfl
theorem expel0_lst {hp : List (Nat × Ent)} {sz : Nat} {xs : List D} : expel0 hp (.lst sz xs : D) = some ((.lst sz xs : D), hp) := id rfl
theorem expel1_lst {hp : List (Nat × Ent)} {sz : Nat} {xs : List D} : expel1 hp (.lst sz xs : D) = expel0 hp (.lst sz xs : D) := id rfl
theorem expel_lst {hp : List (Nat × Ent)} {sz : Nat} {xs : List D} : expel hp (.lst sz xs : D) = expel1 hp (.lst sz xs : D) := id rfl
theorem adopt0_lst {n : Nat} {sz : Nat} {xs : List D} : adopt0 n (.lst sz xs : D) = ((.lst sz xs : D), [], n) := id rfl
theorem adopt1_lst {n : Nat} {sz : Nat} {xs : List D} : adopt1 n (.lst sz xs : D) = adopt0 n (.lst sz xs : D) := id rfl
theorem adopt_lst {n : Nat} {sz : Nat} {xs : List D} : adopt n (.lst sz xs : D) = adopt1 n (.lst sz xs : D) := id rfl
theorem ids_lst {sz : Nat} {xs : List D} : D.ids (.lst sz xs : D) = [] := id rfl
theorem ids0_lst {sz : Nat} {xs : List D} : D.ids0 (.lst sz xs : D) = [] := id rfl
theorem rdS_lst {m : Nat} {hp : List (Nat × Ent)} {sz : Nat} {xs : List D} : rdS hp m (.lst sz xs : D) = if sz = m then some xs else none := id rfl
theorem okElem_lst {m : Nat} {sz : Nat} {xs : List D} : okElem m (.lst sz xs : D) = decide (m = 1) := id rfl
theorem okCell_lst {sz : Nat} {xs : List D} : okCell (.lst sz xs : D) = true := id rfl
theorem asClo_lst {sz : Nat} {xs : List D} : asClo (.lst sz xs : D) = none := id rfl
theorem ren0_lst {hp : List (Nat × Ent)} {n : NS} {sz : Nat} {xs : List D} : ren0 hp n (.lst sz xs : D) = ((.lst sz xs : D), n) := id rfl
theorem ren1_lst {hp : List (Nat × Ent)} {n : NS} {sz : Nat} {xs : List D} : ren1 hp n (.lst sz xs : D) = ren0 hp n (.lst sz xs : D) := id rfl
theorem ren2_lst {hp : List (Nat × Ent)} {n : NS} {sz : Nat} {xs : List D} : ren2 hp n (.lst sz xs : D) = ren1 hp n (.lst sz xs : D) := id rfl
theorem cells_arr {sz : Nat} {xs : List D} : D.cells (.arr sz xs : D) = [(.arr sz xs : D)] := id rfl
theorem cellsO_arr {sz : Nat} {xs : List D} : cellsO (.arr sz xs : D) = none := id rfl
theorem flat0_arr {sz : Nat} {xs : List D} : D.flat0 (.arr sz xs : D) = false := id rfl
theorem flatE_arr {sz : Nat} {xs : List D} : D.flatE (.arr sz xs : D) = D.flat0 (.arr sz xs : D) := id rfl
theorem flat1_arr {sz : Nat} {xs : List D} : D.flat1 (.arr sz xs : D) = xs.all D.flatE := id rfl
theorem flat2_arr {sz : Nat} {xs : List D} : D.flat2 (.arr sz xs : D) = D.flat1 (.arr sz xs : D) := id rfl
theorem flat_arr {sz : Nat} {xs : List D} : D.flat (.arr sz xs : D) = D.flat2 (.arr sz xs : D) := id rfl
theorem lend0_arr {hp : List (Nat × Ent)} {sz : Nat} {xs : List D} : lend0 hp (.arr sz xs : D) = none := id rfl
theorem lend1_arr {hp : List (Nat × Ent)} {sz : Nat} {xs : List D} : lend1 hp (.arr sz xs : D) = lend0 hp (.arr sz xs : D) := id rfl
theorem lend_arr {hp : List (Nat × Ent)} {sz : Nat} {xs : List D} : lend hp (.arr sz xs : D) = lend1 hp (.arr sz xs : D) := id rfl
theorem pur_arr {hp : List (Nat × Ent)} {sz : Nat} {xs : List D} : pur hp (.arr sz xs : D) = lend0 hp (.arr sz xs : D) := id rfl
theorem expel0_arr {hp : List (Nat × Ent)} {sz : Nat} {xs : List D} : expel0 hp (.arr sz xs : D) = none := id rfl
theorem expel1_arr {hp : List (Nat × Ent)} {sz : Nat} {xs : List D} : expel1 hp (.arr sz xs : D) = expel0 hp (.arr sz xs : D) := id rfl
theorem expel_arr {hp : List (Nat × Ent)} {sz : Nat} {xs : List D} : expel hp (.arr sz xs : D) = expel1 hp (.arr sz xs : D) := id rfl
theorem adopt0_arr {n : Nat} {sz : Nat} {xs : List D} : adopt0 n (.arr sz xs : D) = (.sl n 0 xs.length, [(n, .arr sz xs)], n + 1) := id rfl
theorem adopt1_arr {n : Nat} {sz : Nat} {xs : List D} : adopt1 n (.arr sz xs : D) = adopt0 n (.arr sz xs : D) := id rfl
theorem adopt_arr {n : Nat} {sz : Nat} {xs : List D} : adopt n (.arr sz xs : D) = adopt1 n (.arr sz xs : D) := id rfl
theorem ids_arr {sz : Nat} {xs : List D} : D.ids (.arr sz xs : D) = [] := id rfl
theorem ids0_arr {sz : Nat} {xs : List D} : D.ids0 (.arr sz xs : D) = [] := id rfl
theorem rdS_arr {m : Nat} {hp : List (Nat × Ent)} {sz : Nat} {xs : List D} : rdS hp m (.arr sz xs : D) = none := id rfl
theorem okElem_arr {m : Nat} {sz : Nat} {xs : List D} : okElem m (.arr sz xs : D) = false := id rfl
theorem okCell_arr {sz : Nat} {xs : List D} : okCell (.arr sz xs : D) = false := id rfl
theorem asClo_arr {sz : Nat} {xs : List D} : asClo (.arr sz xs : D) = none := id rfl
theorem ren0_arr {hp : List (Nat × Ent)} {n : NS} {sz : Nat} {xs : List D} : ren0 hp n (.arr sz xs : D) = (.undef, n) := id rfl
theorem ren1_arr {hp : List (Nat × Ent)} {n : NS} {sz : Nat} {xs : List D} : ren1 hp n (.arr sz xs : D) = ren0 hp n (.arr sz xs : D) := id rfl
theorem ren2_arr {hp : List (Nat × Ent)} {n : NS} {sz : Nat} {xs : List D} : ren2 hp n (.arr sz xs : D) = ren1 hp n (.arr sz xs : D) := id rfl
theorem cells_agg {cs : List D} : D.cells (.agg cs : D) = cs := id rfl
theorem cellsO_agg {cs : List D} : cellsO (.agg cs : D) = some cs := id rfl
theorem flat0_agg {cs : List D} : D.flat0 (.agg cs : D) = false := id rfl
theorem flatE_agg {cs : List D} : D.flatE (.agg cs : D) = cs.all D.flat0 := id rfl
theorem flat1_agg {cs : List D} : D.flat1 (.agg cs : D) = D.flat0 (.agg cs : D) := id rfl
theorem flat2_agg {cs : List D} : D.flat2 (.agg cs : D) = cs.all D.flat1 := id rfl
theorem flat_agg {cs : List D} : D.flat (.agg cs : D) = D.flat2 (.agg cs : D) := id rfl
theorem lend0_agg {hp : List (Nat × Ent)} {cs : List D} : lend0 hp (.agg cs : D) = none := id rfl
theorem lend1_agg {hp : List (Nat × Ent)} {cs : List D} : lend1 hp (.agg cs : D) = (allO (lend0 hp) cs).map .agg := id rfl
theorem lend_agg {hp : List (Nat × Ent)} {cs : List D} : lend hp (.agg cs : D) = lend1 hp (.agg cs : D) := id rfl
theorem pur_agg {hp : List (Nat × Ent)} {cs : List D} : pur hp (.agg cs : D) = (allO (lend0 hp) cs).map .agg := id rfl
theorem expel0_agg {hp : List (Nat × Ent)} {cs : List D} : expel0 hp (.agg cs : D) = none := id rfl
theorem expel1_agg {hp : List (Nat × Ent)} {cs : List D} : expel1 hp (.agg cs : D) = (expels expel0 hp cs).map fun (l, hp) => (.agg l, hp) := id rfl
theorem expel_agg {hp : List (Nat × Ent)} {cs : List D} : expel hp (.agg cs : D) = expel1 hp (.agg cs : D) := id rfl
theorem adopt0_agg {n : Nat} {cs : List D} : adopt0 n (.agg cs : D) = ((.agg cs : D), [], n) := id rfl
theorem adopt1_agg {n : Nat} {cs : List D} : adopt1 n (.agg cs : D) = (.agg (adopts adopt0 n cs).1, (adopts adopt0 n cs).2) := id rfl
theorem adopt_agg {n : Nat} {cs : List D} : adopt n (.agg cs : D) = adopt1 n (.agg cs : D) := id rfl
theorem ids_agg {cs : List D} : D.ids (.agg cs : D) = cs.flatMap D.ids0 := id rfl
theorem ids0_agg {cs : List D} : D.ids0 (.agg cs : D) = [] := id rfl
theorem rdS_agg {m : Nat} {hp : List (Nat × Ent)} {cs : List D} : rdS hp m (.agg cs : D) = none := id rfl
theorem okElem_agg {m : Nat} {cs : List D} : okElem m (.agg cs : D) = (decide (cs.length = m) && cs.all okCell) := id rfl
theorem okCell_agg {cs : List D} : okCell (.agg cs : D) = false := id rfl
theorem asClo_agg {cs : List D} : asClo (.agg cs : D) = none := id rfl
theorem ren0_agg {hp : List (Nat × Ent)} {n : NS} {cs : List D} : ren0 hp n (.agg cs : D) = (.undef, n) := id rfl
theorem ren1_agg {hp : List (Nat × Ent)} {n : NS} {cs : List D} : ren1 hp n (.agg cs : D) = (.agg (renL (ren0 hp) n cs).1, (renL (ren0 hp) n cs).2) := id rfl
theorem ren2_agg {hp : List (Nat × Ent)} {n : NS} {cs : List D} : ren2 hp n (.agg cs : D) = ren1 hp n (.agg cs : D) := id rfl
theorem cells_tup {cs : List D} : D.cells (.tup cs : D) = [(.tup cs : D)] := id rfl
theorem cellsO_tup {cs : List D} : cellsO (.tup cs : D) = none := id rfl
theorem flat0_tup {cs : List D} : D.flat0 (.tup cs : D) = false := id rfl
theorem flatE_tup {cs : List D} : D.flatE (.tup cs : D) = D.flat0 (.tup cs : D) := id rfl
theorem flat1_tup {cs : List D} : D.flat1 (.tup cs : D) = D.flat0 (.tup cs : D) := id rfl
theorem flat2_tup {cs : List D} : D.flat2 (.tup cs : D) = D.flat1 (.tup cs : D) := id rfl
theorem flat_tup {cs : List D} : D.flat (.tup cs : D) = cs.all D.flat2 := id rfl
theorem lend0_tup {hp : List (Nat × Ent)} {cs : List D} : lend0 hp (.tup cs : D) = none := id rfl
theorem lend1_tup {hp : List (Nat × Ent)} {cs : List D} : lend1 hp (.tup cs : D) = lend0 hp (.tup cs : D) := id rfl
theorem lend_tup {hp : List (Nat × Ent)} {cs : List D} : lend hp (.tup cs : D) = lend1 hp (.tup cs : D) := id rfl
theorem pur_tup {hp : List (Nat × Ent)} {cs : List D} : pur hp (.tup cs : D) = lend0 hp (.tup cs : D) := id rfl
theorem expel0_tup {hp : List (Nat × Ent)} {cs : List D} : expel0 hp (.tup cs : D) = none := id rfl
theorem expel1_tup {hp : List (Nat × Ent)} {cs : List D} : expel1 hp (.tup cs : D) = expel0 hp (.tup cs : D) := id rfl
theorem expel_tup {hp : List (Nat × Ent)} {cs : List D} : expel hp (.tup cs : D) = (expels expel1 hp cs).map fun (l, hp) => (.tup l, hp) := id rfl
theorem adopt0_tup {n : Nat} {cs : List D} : adopt0 n (.tup cs : D) = ((.tup cs : D), [], n) := id rfl
theorem adopt1_tup {n : Nat} {cs : List D} : adopt1 n (.tup cs : D) = adopt0 n (.tup cs : D) := id rfl
theorem adopt_tup {n : Nat} {cs : List D} : adopt n (.tup cs : D) = (.tup (adopts adopt1 n cs).1, (adopts adopt1 n cs).2) := id rfl
theorem ids_tup {cs : List D} : D.ids (.tup cs : D) = [] := id rfl
theorem ids0_tup {cs : List D} : D.ids0 (.tup cs : D) = [] := id rfl
theorem rdS_tup {m : Nat} {hp : List (Nat × Ent)} {cs : List D} : rdS hp m (.tup cs : D) = none := id rfl
theorem okElem_tup {m : Nat} {cs : List D} : okElem m (.tup cs : D) = false := id rfl
theorem okCell_tup {cs : List D} : okCell (.tup cs : D) = false := id rfl
theorem asClo_tup {cs : List D} : asClo (.tup cs : D) = none := id rfl
theorem ren0_tup {hp : List (Nat × Ent)} {n : NS} {cs : List D} : ren0 hp n (.tup cs : D) = (.undef, n) := id rfl
theorem ren1_tup {hp : List (Nat × Ent)} {n : NS} {cs : List D} : ren1 hp n (.tup cs : D) = ren0 hp n (.tup cs : D) := id rfl
theorem ren2_tup {hp : List (Nat × Ent)} {n : NS} {cs : List D} : ren2 hp n (.tup cs : D) = (.tup (renL (ren1 hp) n cs).1, (renL (ren1 hp) n cs).2) := id rfl
theorem cells_ref {cs : List D} : D.cells (.ref cs : D) = [(.ref cs : D)] := id rfl
theorem cellsO_ref {cs : List D} : cellsO (.ref cs : D) = some [(.ref cs : D)] := id rfl
theorem flat0_ref {cs : List D} : D.flat0 (.ref cs : D) = false := id rfl
theorem flatE_ref {cs : List D} : D.flatE (.ref cs : D) = D.flat0 (.ref cs : D) := id rfl
theorem flat1_ref {cs : List D} : D.flat1 (.ref cs : D) = D.flat0 (.ref cs : D) := id rfl
theorem flat2_ref {cs : List D} : D.flat2 (.ref cs : D) = D.flat1 (.ref cs : D) := id rfl
theorem flat_ref {cs : List D} : D.flat (.ref cs : D) = D.flat2 (.ref cs : D) := id rfl
theorem lend0_ref {hp : List (Nat × Ent)} {cs : List D} : lend0 hp (.ref cs : D) = none := id rfl
theorem lend1_ref {hp : List (Nat × Ent)} {cs : List D} : lend1 hp (.ref cs : D) = some (.ref cs : D) := id rfl
theorem lend_ref {hp : List (Nat × Ent)} {cs : List D} : lend hp (.ref cs : D) = lend1 hp (.ref cs : D) := id rfl
theorem pur_ref {hp : List (Nat × Ent)} {cs : List D} : pur hp (.ref cs : D) = lend0 hp (.ref cs : D) := id rfl
theorem expel0_ref {hp : List (Nat × Ent)} {cs : List D} : expel0 hp (.ref cs : D) = none := id rfl
theorem expel1_ref {hp : List (Nat × Ent)} {cs : List D} : expel1 hp (.ref cs : D) = expel0 hp (.ref cs : D) := id rfl
theorem expel_ref {hp : List (Nat × Ent)} {cs : List D} : expel hp (.ref cs : D) = expel1 hp (.ref cs : D) := id rfl
theorem adopt0_ref {n : Nat} {cs : List D} : adopt0 n (.ref cs : D) = ((.ref cs : D), [], n) := id rfl
theorem adopt1_ref {n : Nat} {cs : List D} : adopt1 n (.ref cs : D) = adopt0 n (.ref cs : D) := id rfl
theorem adopt_ref {n : Nat} {cs : List D} : adopt n (.ref cs : D) = adopt1 n (.ref cs : D) := id rfl
theorem ids_ref {cs : List D} : D.ids (.ref cs : D) = [] := id rfl
theorem ids0_ref {cs : List D} : D.ids0 (.ref cs : D) = [] := id rfl
theorem rdS_ref {m : Nat} {hp : List (Nat × Ent)} {cs : List D} : rdS hp m (.ref cs : D) = none := id rfl
theorem okElem_ref {m : Nat} {cs : List D} : okElem m (.ref cs : D) = false := id rfl
theorem okCell_ref {cs : List D} : okCell (.ref cs : D) = false := id rfl
theorem asClo_ref {cs : List D} : asClo (.ref cs : D) = none := id rfl
theorem ren0_ref {hp : List (Nat × Ent)} {n : NS} {cs : List D} : ren0 hp n (.ref cs : D) = ((.ref cs : D), n) := id rfl
theorem ren1_ref {hp : List (Nat × Ent)} {n : NS} {cs : List D} : ren1 hp n (.ref cs : D) = ren0 hp n (.ref cs : D) := id rfl
theorem ren2_ref {hp : List (Nat × Ent)} {n : NS} {cs : List D} : ren2 hp n (.ref cs : D) = ren1 hp n (.ref cs : D) := id rfl
theorem cells_box {cs : List D} : D.cells (.box cs : D) = [(.box cs : D)] := id rfl
theorem cellsO_box {cs : List D} : cellsO (.box cs : D) = none := id rfl
theorem flat0_box {cs : List D} : D.flat0 (.box cs : D) = false := id rfl
theorem flatE_box {cs : List D} : D.flatE (.box cs : D) = D.flat0 (.box cs : D) := id rfl
theorem flat1_box {cs : List D} : D.flat1 (.box cs : D) = D.flat0 (.box cs : D) := id rfl
theorem flat2_box {cs : List D} : D.flat2 (.box cs : D) = cs.all D.flat1 := id rfl
theorem flat_box {cs : List D} : D.flat (.box cs : D) = D.flat2 (.box cs : D) := id rfl
theorem lend0_box {hp : List (Nat × Ent)} {cs : List D} : lend0 hp (.box cs : D) = none := id rfl
theorem lend1_box {hp : List (Nat × Ent)} {cs : List D} : lend1 hp (.box cs : D) = lend0 hp (.box cs : D) := id rfl
theorem lend_box {hp : List (Nat × Ent)} {cs : List D} : lend hp (.box cs : D) = lend1 hp (.box cs : D) := id rfl
theorem pur_box {hp : List (Nat × Ent)} {cs : List D} : pur hp (.box cs : D) = lend0 hp (.box cs : D) := id rfl
theorem expel0_box {hp : List (Nat × Ent)} {cs : List D} : expel0 hp (.box cs : D) = none := id rfl
theorem expel1_box {hp : List (Nat × Ent)} {cs : List D} : expel1 hp (.box cs : D) = expel0 hp (.box cs : D) := id rfl
theorem expel_box {hp : List (Nat × Ent)} {cs : List D} : expel hp (.box cs : D) = expel1 hp (.box cs : D) := id rfl
theorem adopt0_box {n : Nat} {cs : List D} : adopt0 n (.box cs : D) = ((.box cs : D), [], n) := id rfl
theorem adopt1_box {n : Nat} {cs : List D} : adopt1 n (.box cs : D) = (.pt n 0, (n, .box (adopts adopt0 (n + 1) cs).1) :: (adopts adopt0 (n + 1) cs).2.1, (adopts adopt0 (n + 1) cs).2.2) := id rfl
theorem adopt_box {n : Nat} {cs : List D} : adopt n (.box cs : D) = adopt1 n (.box cs : D) := id rfl
theorem ids_box {cs : List D} : D.ids (.box cs : D) = [] := id rfl
theorem ids0_box {cs : List D} : D.ids0 (.box cs : D) = [] := id rfl
theorem rdS_box {m : Nat} {hp : List (Nat × Ent)} {cs : List D} : rdS hp m (.box cs : D) = none := id rfl
theorem okElem_box {m : Nat} {cs : List D} : okElem m (.box cs : D) = false := id rfl
theorem okCell_box {cs : List D} : okCell (.box cs : D) = false := id rfl
theorem asClo_box {cs : List D} : asClo (.box cs : D) = none := id rfl
theorem ren0_box {hp : List (Nat × Ent)} {n : NS} {cs : List D} : ren0 hp n (.box cs : D) = (.undef, n) := id rfl
theorem ren1_box {hp : List (Nat × Ent)} {n : NS} {cs : List D} : ren1 hp n (.box cs : D) = ren0 hp n (.box cs : D) := id rfl
theorem ren2_box {hp : List (Nat × Ent)} {n : NS} {cs : List D} : ren2 hp n (.box cs : D) = ren1 hp n (.box cs : D) := id rfl
theorem cells_clo {f : Nat} {cs : List D} : D.cells (.clo f cs : D) = [(.clo f cs : D)] := id rfl
theorem cellsO_clo {f : Nat} {cs : List D} : cellsO (.clo f cs : D) = some [(.clo f cs : D)] := id rfl
theorem flat0_clo {f : Nat} {cs : List D} : D.flat0 (.clo f cs : D) = false := id rfl
theorem flatE_clo {f : Nat} {cs : List D} : D.flatE (.clo f cs : D) = D.flat0 (.clo f cs : D) := id rfl
theorem flat1_clo {f : Nat} {cs : List D} : D.flat1 (.clo f cs : D) = D.flat0 (.clo f cs : D) := id rfl
theorem flat2_clo {f : Nat} {cs : List D} : D.flat2 (.clo f cs : D) = D.flat1 (.clo f cs : D) := id rfl
theorem flat_clo {f : Nat} {cs : List D} : D.flat (.clo f cs : D) = D.flat2 (.clo f cs : D) := id rfl
theorem lend0_clo {hp : List (Nat × Ent)} {f : Nat} {cs : List D} : lend0 hp (.clo f cs : D) = none := id rfl
theorem lend1_clo {hp : List (Nat × Ent)} {f : Nat} {cs : List D} : lend1 hp (.clo f cs : D) = lend0 hp (.clo f cs : D) := id rfl
theorem lend_clo {hp : List (Nat × Ent)} {f : Nat} {cs : List D} : lend hp (.clo f cs : D) = (allO (lend1 hp) cs).map (.clo f) := id rfl
theorem pur_clo {hp : List (Nat × Ent)} {f : Nat} {cs : List D} : pur hp (.clo f cs : D) = lend0 hp (.clo f cs : D) := id rfl
theorem expel0_clo {hp : List (Nat × Ent)} {f : Nat} {cs : List D} : expel0 hp (.clo f cs : D) = none := id rfl
theorem expel1_clo {hp : List (Nat × Ent)} {f : Nat} {cs : List D} : expel1 hp (.clo f cs : D) = (expels expelB hp cs).map fun (l, hp) => (.clb f l, hp) := id rfl
theorem expelB_pt {hp : List (Nat × Ent)} {i : Nat} {off : Nat} : expelB hp (.pt i off : D) = (match lk hp i with | some (.box cs) => if off = 0 then (expels expelP (rm hp i) cs).map fun (l, hp) => (.box l, hp) else none | _ => none) := id rfl
theorem expelP_nl {hp : List (Nat × Ent)} {sz : Nat} : expelP hp (.nl sz : D) = some (.lst sz [], hp) := id rfl
theorem expelP_int {hp : List (Nat × Ent)} {k : IntKind} {x : Int} : expelP hp (.int k x : D) = expel0 hp (.int k x : D) := id rfl
theorem expelP_bool {hp : List (Nat × Ent)} {b : Bool} : expelP hp (.bool b : D) = expel0 hp (.bool b : D) := id rfl
theorem expelP_lst {hp : List (Nat × Ent)} {sz : Nat} {xs : List D} : expelP hp (.lst sz xs : D) = expel0 hp (.lst sz xs : D) := id rfl
theorem expelP_sl {hp : List (Nat × Ent)} {i : Nat} {lo : Nat} {len : Nat} : expelP hp (.sl i lo len : D) = expel0 hp (.sl i lo len : D) := id rfl
theorem adopt1_clb {n : Nat} {f : Nat} {cs : List D} : adopt1 n (.clb f cs : D) = (.clo f (adopts adoptB n cs).1, (adopts adoptB n cs).2) := id rfl
theorem adoptB_box {n : Nat} {cs : List D} : adoptB n (.box cs : D) = (.pt n 0, (n, .box (adopts adopt0 (n + 1) cs).1) :: (adopts adopt0 (n + 1) cs).2.1, (adopts adopt0 (n + 1) cs).2.2) := id rfl
theorem okA1_clb {f : Nat} {cs : List D} : okA1 (.clb f cs : D) = cs.all okB := id rfl
theorem okB_box {cs : List D} : okB (.box cs : D) = cs.all okA0 := id rfl
theorem flat0_clb {f : Nat} {cs : List D} : D.flat0 (.clb f cs : D) = false := id rfl
theorem flat1_clb {f : Nat} {cs : List D} : D.flat1 (.clb f cs : D) = D.flat0 (.clb f cs : D) := id rfl
theorem flat2_clb {f : Nat} {cs : List D} : D.flat2 (.clb f cs : D) = D.flat1 (.clb f cs : D) := id rfl
theorem flat_clb {f : Nat} {cs : List D} : D.flat (.clb f cs : D) = D.flat2 (.clb f cs : D) := id rfl
theorem expel_clo {hp : List (Nat × Ent)} {f : Nat} {cs : List D} : expel hp (.clo f cs : D) = expel1 hp (.clo f cs : D) := id rfl
theorem adopt0_clo {n : Nat} {f : Nat} {cs : List D} : adopt0 n (.clo f cs : D) = ((.clo f cs : D), [], n) := id rfl
theorem adopt1_clo {n : Nat} {f : Nat} {cs : List D} : adopt1 n (.clo f cs : D) = adopt0 n (.clo f cs : D) := id rfl
theorem adopt_clo {n : Nat} {f : Nat} {cs : List D} : adopt n (.clo f cs : D) = adopt1 n (.clo f cs : D) := id rfl
theorem ids_clo {f : Nat} {cs : List D} : D.ids (.clo f cs : D) = [] := id rfl
theorem ids0_clo {f : Nat} {cs : List D} : D.ids0 (.clo f cs : D) = [] := id rfl
theorem rdS_clo {m : Nat} {hp : List (Nat × Ent)} {f : Nat} {cs : List D} : rdS hp m (.clo f cs : D) = none := id rfl
theorem okElem_clo {m : Nat} {f : Nat} {cs : List D} : okElem m (.clo f cs : D) = false := id rfl
theorem okCell_clo {f : Nat} {cs : List D} : okCell (.clo f cs : D) = false := id rfl
theorem asClo_clo {f : Nat} {cs : List D} : asClo (.clo f cs : D) = some (f, cs) := id rfl
theorem ren0_clo {hp : List (Nat × Ent)} {n : NS} {f : Nat} {cs : List D} : ren0 hp n (.clo f cs : D) = (.undef, n) := id rfl
theorem ren1_clo {hp : List (Nat × Ent)} {n : NS} {f : Nat} {cs : List D} : ren1 hp n (.clo f cs : D) = ren0 hp n (.clo f cs : D) := id rfl
theorem ren2_clo {hp : List (Nat × Ent)} {n : NS} {f : Nat} {cs : List D} : ren2 hp n (.clo f cs : D) = (.clo f (renL (ren1 hp) n cs).1, (renL (ren1 hp) n cs).2) := id rfl
theorem cells_sl {i : Nat} {lo : Nat} {len : Nat} : D.cells (.sl i lo len : D) = [(.sl i lo len : D)] := id rfl
theorem cellsO_sl {i : Nat} {lo : Nat} {len : Nat} : cellsO (.sl i lo len : D) = some [(.sl i lo len : D)] := id rfl
theorem flat0_sl {i : Nat} {lo : Nat} {len : Nat} : D.flat0 (.sl i lo len : D) = false := id rfl
theorem flatE_sl {i : Nat} {lo : Nat} {len : Nat} : D.flatE (.sl i lo len : D) = D.flat0 (.sl i lo len : D) := id rfl
theorem flat1_sl {i : Nat} {lo : Nat} {len : Nat} : D.flat1 (.sl i lo len : D) = D.flat0 (.sl i lo len : D) := id rfl
theorem flat2_sl {i : Nat} {lo : Nat} {len : Nat} : D.flat2 (.sl i lo len : D) = D.flat1 (.sl i lo len : D) := id rfl
theorem flat_sl {i : Nat} {lo : Nat} {len : Nat} : D.flat (.sl i lo len : D) = D.flat2 (.sl i lo len : D) := id rfl
theorem lend0_sl {hp : List (Nat × Ent)} {i : Nat} {lo : Nat} {len : Nat} : lend0 hp (.sl i lo len : D) = (match lk hp i with | some (.arr sz xs) => if lo = 0 ∧ len = xs.length then some (.lst sz xs) else if lo + len ≤ xs.length then some (.lst sz ((xs.drop lo).take len)) else none | some (.imm sz xs) => if lo = 0 ∧ len = xs.length then some (.lst sz xs) else if lo + len ≤ xs.length then some (.lst sz ((xs.drop lo).take len)) else none | _ => none) := id rfl
theorem lend1_sl {hp : List (Nat × Ent)} {i : Nat} {lo : Nat} {len : Nat} : lend1 hp (.sl i lo len : D) = lend0 hp (.sl i lo len : D) := id rfl
theorem lend_sl {hp : List (Nat × Ent)} {i : Nat} {lo : Nat} {len : Nat} : lend hp (.sl i lo len : D) = lend1 hp (.sl i lo len : D) := id rfl
theorem pur_sl {hp : List (Nat × Ent)} {i : Nat} {lo : Nat} {len : Nat} : pur hp (.sl i lo len : D) = lend0 hp (.sl i lo len : D) := id rfl
theorem expel0_sl {hp : List (Nat × Ent)} {i : Nat} {lo : Nat} {len : Nat} : expel0 hp (.sl i lo len : D) = (match lk hp i with | some (.arr sz xs) => if lo = 0 then (if len = xs.length then some (.arr sz xs, rm hp i) else if len ≤ xs.length then some (.arr sz (xs.take len), rm hp i) else none) else none | some (.imm sz xs) => if lo = 0 ∧ len = xs.length then some (.lst sz xs, hp) else if lo + len ≤ xs.length then some (.lst sz ((xs.drop lo).take len), hp) else none | _ => none) := id rfl
theorem expel1_sl {hp : List (Nat × Ent)} {i : Nat} {lo : Nat} {len : Nat} : expel1 hp (.sl i lo len : D) = expel0 hp (.sl i lo len : D) := id rfl
theorem expel_sl {hp : List (Nat × Ent)} {i : Nat} {lo : Nat} {len : Nat} : expel hp (.sl i lo len : D) = expel1 hp (.sl i lo len : D) := id rfl
theorem adopt0_sl {n : Nat} {i : Nat} {lo : Nat} {len : Nat} : adopt0 n (.sl i lo len : D) = ((.sl i lo len : D), [], n) := id rfl
theorem adopt1_sl {n : Nat} {i : Nat} {lo : Nat} {len : Nat} : adopt1 n (.sl i lo len : D) = adopt0 n (.sl i lo len : D) := id rfl
theorem adopt_sl {n : Nat} {i : Nat} {lo : Nat} {len : Nat} : adopt n (.sl i lo len : D) = adopt1 n (.sl i lo len : D) := id rfl
theorem ids_sl {i : Nat} {lo : Nat} {len : Nat} : D.ids (.sl i lo len : D) = [i] := id rfl
theorem ids0_sl {i : Nat} {lo : Nat} {len : Nat} : D.ids0 (.sl i lo len : D) = [i] := id rfl
theorem rdS_sl {m : Nat} {hp : List (Nat × Ent)} {i : Nat} {lo : Nat} {len : Nat} : rdS hp m (.sl i lo len : D) = (match lk hp i with | some (.arr sz' xs) => if sz' = m then (if lo = 0 ∧ len = xs.length then some xs else if lo + len ≤ xs.length then some ((xs.drop lo).take len) else none) else none | some (.imm sz' xs) => if sz' = m then (if lo = 0 ∧ len = xs.length then some xs else if lo + len ≤ xs.length then some ((xs.drop lo).take len) else none) else none | _ => none) := id rfl
theorem okElem_sl {m : Nat} {i : Nat} {lo : Nat} {len : Nat} : okElem m (.sl i lo len : D) = false := id rfl
theorem okCell_sl {i : Nat} {lo : Nat} {len : Nat} : okCell (.sl i lo len : D) = false := id rfl
theorem asClo_sl {i : Nat} {lo : Nat} {len : Nat} : asClo (.sl i lo len : D) = none := id rfl
theorem ren0_sl {hp : List (Nat × Ent)} {n : NS} {i : Nat} {lo : Nat} {len : Nat} : ren0 hp n (.sl i lo len : D) = (match lk n.m i with | some j => (.sl j lo len, n) | none => match lk hp i with | some (.box _) => (.undef, n) | some e => (.sl n.k lo len, ⟨(i, n.k) :: n.m, n.e ++ [(n.k, e)], n.k + 1⟩) | none => (.undef, n)) := id rfl
theorem ren1_sl {hp : List (Nat × Ent)} {n : NS} {i : Nat} {lo : Nat} {len : Nat} : ren1 hp n (.sl i lo len : D) = ren0 hp n (.sl i lo len : D) := id rfl
theorem ren2_sl {hp : List (Nat × Ent)} {n : NS} {i : Nat} {lo : Nat} {len : Nat} : ren2 hp n (.sl i lo len : D) = ren1 hp n (.sl i lo len : D) := id rfl
theorem cells_pt {i : Nat} {off : Nat} : D.cells (.pt i off : D) = [(.pt i off : D)] := id rfl
theorem cellsO_pt {i : Nat} {off : Nat} : cellsO (.pt i off : D) = some [(.pt i off : D)] := id rfl
theorem flat0_pt {i : Nat} {off : Nat} : D.flat0 (.pt i off : D) = false := id rfl
theorem flatE_pt {i : Nat} {off : Nat} : D.flatE (.pt i off : D) = D.flat0 (.pt i off : D) := id rfl
theorem flat1_pt {i : Nat} {off : Nat} : D.flat1 (.pt i off : D) = D.flat0 (.pt i off : D) := id rfl
theorem flat2_pt {i : Nat} {off : Nat} : D.flat2 (.pt i off : D) = D.flat1 (.pt i off : D) := id rfl
theorem flat_pt {i : Nat} {off : Nat} : D.flat (.pt i off : D) = D.flat2 (.pt i off : D) := id rfl
theorem lend0_pt {hp : List (Nat × Ent)} {i : Nat} {off : Nat} : lend0 hp (.pt i off : D) = none := id rfl
theorem lend1_pt {hp : List (Nat × Ent)} {i : Nat} {off : Nat} : lend1 hp (.pt i off : D) = (match lk hp i with | some (.box cs) => (allO (lend0 hp) cs).map fun l => .ref (l.drop off) | _ => none) := id rfl
theorem lend_pt {hp : List (Nat × Ent)} {i : Nat} {off : Nat} : lend hp (.pt i off : D) = lend1 hp (.pt i off : D) := id rfl
theorem pur_pt {hp : List (Nat × Ent)} {i : Nat} {off : Nat} : pur hp (.pt i off : D) = lend0 hp (.pt i off : D) := id rfl
theorem expel0_pt {hp : List (Nat × Ent)} {i : Nat} {off : Nat} : expel0 hp (.pt i off : D) = none := id rfl
theorem expel1_pt {hp : List (Nat × Ent)} {i : Nat} {off : Nat} : expel1 hp (.pt i off : D) = (match lk hp i with | some (.box cs) => if off = 0 then (expels expel0 (rm hp i) cs).map fun (l, hp) => (.box l, hp) else none | _ => none) := id rfl
theorem expel_pt {hp : List (Nat × Ent)} {i : Nat} {off : Nat} : expel hp (.pt i off : D) = expel1 hp (.pt i off : D) := id rfl
theorem adopt0_pt {n : Nat} {i : Nat} {off : Nat} : adopt0 n (.pt i off : D) = ((.pt i off : D), [], n) := id rfl
theorem adopt1_pt {n : Nat} {i : Nat} {off : Nat} : adopt1 n (.pt i off : D) = adopt0 n (.pt i off : D) := id rfl
theorem adopt_pt {n : Nat} {i : Nat} {off : Nat} : adopt n (.pt i off : D) = adopt1 n (.pt i off : D) := id rfl
theorem ids_pt {i : Nat} {off : Nat} : D.ids (.pt i off : D) = [] := id rfl
theorem ids0_pt {i : Nat} {off : Nat} : D.ids0 (.pt i off : D) = [] := id rfl
theorem rdS_pt {m : Nat} {hp : List (Nat × Ent)} {i : Nat} {off : Nat} : rdS hp m (.pt i off : D) = none := id rfl
theorem okElem_pt {m : Nat} {i : Nat} {off : Nat} : okElem m (.pt i off : D) = false := id rfl
theorem okCell_pt {i : Nat} {off : Nat} : okCell (.pt i off : D) = false := id rfl
theorem asClo_pt {i : Nat} {off : Nat} : asClo (.pt i off : D) = none := id rfl
theorem ren0_pt {hp : List (Nat × Ent)} {n : NS} {i : Nat} {off : Nat} : ren0 hp n (.pt i off : D) = (.undef, n) := id rfl
theorem ren1_pt {hp : List (Nat × Ent)} {n : NS} {i : Nat} {off : Nat} : ren1 hp n (.pt i off : D) = (match lk n.m i with | some j => (.pt j off, n) | none => match lk hp i with | some (.box cs) => renBox i off (renL (ren0 hp) n cs) | _ => (.undef, n)) := id rfl
theorem ren2_pt {hp : List (Nat × Ent)} {n : NS} {i : Nat} {off : Nat} : ren2 hp n (.pt i off : D) = ren1 hp n (.pt i off : D) := id rfl
theorem cells_pe {i : Nat} {j : Nat} {off : Nat} : D.cells (.pe i j off : D) = [(.pe i j off : D)] := id rfl
theorem cellsO_pe {i : Nat} {j : Nat} {off : Nat} : cellsO (.pe i j off : D) = some [(.pe i j off : D)] := id rfl
theorem flat0_pe {i : Nat} {j : Nat} {off : Nat} : D.flat0 (.pe i j off : D) = false := id rfl
theorem flatE_pe {i : Nat} {j : Nat} {off : Nat} : D.flatE (.pe i j off : D) = D.flat0 (.pe i j off : D) := id rfl
theorem flat1_pe {i : Nat} {j : Nat} {off : Nat} : D.flat1 (.pe i j off : D) = D.flat0 (.pe i j off : D) := id rfl
theorem flat2_pe {i : Nat} {j : Nat} {off : Nat} : D.flat2 (.pe i j off : D) = D.flat1 (.pe i j off : D) := id rfl
theorem flat_pe {i : Nat} {j : Nat} {off : Nat} : D.flat (.pe i j off : D) = D.flat2 (.pe i j off : D) := id rfl
theorem lend0_pe {hp : List (Nat × Ent)} {i : Nat} {j : Nat} {off : Nat} : lend0 hp (.pe i j off : D) = none := id rfl
theorem lend1_pe {hp : List (Nat × Ent)} {i : Nat} {j : Nat} {off : Nat} : lend1 hp (.pe i j off : D) = lend0 hp (.pe i j off : D) := id rfl
theorem lend_pe {hp : List (Nat × Ent)} {i : Nat} {j : Nat} {off : Nat} : lend hp (.pe i j off : D) = lend1 hp (.pe i j off : D) := id rfl
theorem pur_pe {hp : List (Nat × Ent)} {i : Nat} {j : Nat} {off : Nat} : pur hp (.pe i j off : D) = lend0 hp (.pe i j off : D) := id rfl
theorem expel0_pe {hp : List (Nat × Ent)} {i : Nat} {j : Nat} {off : Nat} : expel0 hp (.pe i j off : D) = none := id rfl
theorem expel1_pe {hp : List (Nat × Ent)} {i : Nat} {j : Nat} {off : Nat} : expel1 hp (.pe i j off : D) = expel0 hp (.pe i j off : D) := id rfl
theorem expel_pe {hp : List (Nat × Ent)} {i : Nat} {j : Nat} {off : Nat} : expel hp (.pe i j off : D) = expel1 hp (.pe i j off : D) := id rfl
theorem adopt0_pe {n : Nat} {i : Nat} {j : Nat} {off : Nat} : adopt0 n (.pe i j off : D) = ((.pe i j off : D), [], n) := id rfl
theorem adopt1_pe {n : Nat} {i : Nat} {j : Nat} {off : Nat} : adopt1 n (.pe i j off : D) = adopt0 n (.pe i j off : D) := id rfl
theorem adopt_pe {n : Nat} {i : Nat} {j : Nat} {off : Nat} : adopt n (.pe i j off : D) = adopt1 n (.pe i j off : D) := id rfl
theorem ids_pe {i : Nat} {j : Nat} {off : Nat} : D.ids (.pe i j off : D) = [] := id rfl
theorem ids0_pe {i : Nat} {j : Nat} {off : Nat} : D.ids0 (.pe i j off : D) = [] := id rfl
theorem rdS_pe {m : Nat} {hp : List (Nat × Ent)} {i : Nat} {j : Nat} {off : Nat} : rdS hp m (.pe i j off : D) = none := id rfl
theorem okElem_pe {m : Nat} {i : Nat} {j : Nat} {off : Nat} : okElem m (.pe i j off : D) = false := id rfl
theorem okCell_pe {i : Nat} {j : Nat} {off : Nat} : okCell (.pe i j off : D) = false := id rfl
theorem asClo_pe {i : Nat} {j : Nat} {off : Nat} : asClo (.pe i j off : D) = none := id rfl
theorem ren0_pe {hp : List (Nat × Ent)} {n : NS} {i : Nat} {j : Nat} {off : Nat} : ren0 hp n (.pe i j off : D) = (.undef, n) := id rfl
theorem ren1_pe {hp : List (Nat × Ent)} {n : NS} {i : Nat} {j : Nat} {off : Nat} : ren1 hp n (.pe i j off : D) = ren0 hp n (.pe i j off : D) := id rfl
theorem ren2_pe {hp : List (Nat × Ent)} {n : NS} {i : Nat} {j : Nat} {off : Nat} : ren2 hp n (.pe i j off : D) = ren1 hp n (.pe i j off : D) := id rfl
theorem cells_undef : D.cells (.undef : D) = [(.undef : D)] := id rfl
theorem cellsO_undef : cellsO (.undef : D) = none := id rfl
theorem flat0_undef : D.flat0 (.undef : D) = false := id rfl
theorem flatE_undef : D.flatE (.undef : D) = D.flat0 (.undef : D) := id rfl
theorem flat1_undef : D.flat1 (.undef : D) = D.flat0 (.undef : D) := id rfl
theorem flat2_undef : D.flat2 (.undef : D) = D.flat1 (.undef : D) := id rfl
theorem flat_undef : D.flat (.undef : D) = D.flat2 (.undef : D) := id rfl
theorem lend0_undef {hp : List (Nat × Ent)} : lend0 hp (.undef : D) = none := id rfl
theorem lend1_undef {hp : List (Nat × Ent)} : lend1 hp (.undef : D) = lend0 hp (.undef : D) := id rfl
theorem lend_undef {hp : List (Nat × Ent)} : lend hp (.undef : D) = lend1 hp (.undef : D) := id rfl
theorem pur_undef {hp : List (Nat × Ent)} : pur hp (.undef : D) = lend0 hp (.undef : D) := id rfl
theorem expel0_undef {hp : List (Nat × Ent)} : expel0 hp (.undef : D) = none := id rfl
theorem expel1_undef {hp : List (Nat × Ent)} : expel1 hp (.undef : D) = expel0 hp (.undef : D) := id rfl
theorem expel_undef {hp : List (Nat × Ent)} : expel hp (.undef : D) = expel1 hp (.undef : D) := id rfl
theorem adopt0_undef {n : Nat} : adopt0 n (.undef : D) = ((.undef : D), [], n) := id rfl
theorem adopt1_undef {n : Nat} : adopt1 n (.undef : D) = adopt0 n (.undef : D) := id rfl
theorem adopt_undef {n : Nat} : adopt n (.undef : D) = adopt1 n (.undef : D) := id rfl
theorem ids_undef : D.ids (.undef : D) = [] := id rfl
theorem ids0_undef : D.ids0 (.undef : D) = [] := id rfl
theorem rdS_undef {m : Nat} {hp : List (Nat × Ent)} : rdS hp m (.undef : D) = none := id rfl
theorem okElem_undef {m : Nat} : okElem m (.undef : D) = false := id rfl
theorem okCell_undef : okCell (.undef : D) = false := id rfl
theorem asClo_undef : asClo (.undef : D) = none := id rfl
theorem ren0_undef {hp : List (Nat × Ent)} {n : NS} : ren0 hp n (.undef : D) = (.undef, n) := id rfl
theorem ren1_undef {hp : List (Nat × Ent)} {n : NS} : ren1 hp n (.undef : D) = ren0 hp n (.undef : D) := id rfl
theorem ren2_undef {hp : List (Nat × Ent)} {n : NS} : ren2 hp n (.undef : D) = ren1 hp n (.undef : D) := id rfl
theorem asI_int {x : Int} : asI (.int .i64 x) = some x := id rfl
theorem binD_add {k : IntKind} {a b : Int} : binD .add (.int k a) (.int k b) = if k = k then binI .add k a b else none := id rfl
theorem binD_sub {k : IntKind} {a b : Int} : binD .sub (.int k a) (.int k b) = if k = k then binI .sub k a b else none := id rfl
theorem binD_mul {k : IntKind} {a b : Int} : binD .mul (.int k a) (.int k b) = if k = k then binI .mul k a b else none := id rfl
theorem binD_quo {k : IntKind} {a b : Int} : binD .quo (.int k a) (.int k b) = if k = k then binI .quo k a b else none := id rfl
theorem binD_rem {k : IntKind} {a b : Int} : binD .rem (.int k a) (.int k b) = if k = k then binI .rem k a b else none := id rfl
theorem binD_and {k : IntKind} {a b : Int} : binD .and (.int k a) (.int k b) = if k = k then binI .and k a b else none := id rfl
theorem binD_or {k : IntKind} {a b : Int} : binD .or (.int k a) (.int k b) = if k = k then binI .or k a b else none := id rfl
theorem binD_xor {k : IntKind} {a b : Int} : binD .xor (.int k a) (.int k b) = if k = k then binI .xor k a b else none := id rfl
theorem binD_eql {k : IntKind} {a b : Int} : binD .eql (.int k a) (.int k b) = if k = k then binI .eql k a b else none := id rfl
theorem binD_neq {k : IntKind} {a b : Int} : binD .neq (.int k a) (.int k b) = if k = k then binI .neq k a b else none := id rfl
theorem binD_lss {k : IntKind} {a b : Int} : binD .lss (.int k a) (.int k b) = if k = k then binI .lss k a b else none := id rfl
theorem binD_leq {k : IntKind} {a b : Int} : binD .leq (.int k a) (.int k b) = if k = k then binI .leq k a b else none := id rfl
theorem binD_gtr {k : IntKind} {a b : Int} : binD .gtr (.int k a) (.int k b) = if k = k then binI .gtr k a b else none := id rfl
theorem binD_geq {k : IntKind} {a b : Int} : binD .geq (.int k a) (.int k b) = if k = k then binI .geq k a b else none := id rfl
theorem binD_shl {k k' : IntKind} {a b : Int} : binD .shl (.int k a) (.int k' b) = if b < 0 then none else some (.int k (k.wrap (a * 2 ^ (min b.toNat k.bits)))) := id rfl
theorem binD_shr {k k' : IntKind} {a b : Int} : binD .shr (.int k a) (.int k' b) = if b < 0 then none else some (.int k (a.fdiv (2 ^ (min b.toNat k.bits)))) := id rfl
theorem eqBD_f {a b : Bool} : eqBD false (.bool a) (.bool b) = some (.bool (decide (a = b))) := id rfl
theorem eqBD_t {a b : Bool} : eqBD true (.bool a) (.bool b) = some (.bool (!decide (a = b))) := id rfl
theorem eqCells_nil : eqCells [] [] = some true := id rfl
theorem eqCells_cons {k k' : IntKind} {a b : Int} {l m : List D} : eqCells (.int k a :: l) (.int k' b :: m) = if k = k' then (eqCells l m).map fun c => decide (a = b) && c else none := id rfl
theorem minI_int {k k' : IntKind} {x y : Int} : minI (.int k x) (.int k' y) = if k = k' then some (.int k (if y < x then y else x)) else none := id rfl
theorem maxI_int {k k' : IntKind} {x y : Int} : maxI (.int k x) (.int k' y) = if k = k' then some (.int k (if x < y then y else x)) else none := id rfl
theorem frozen_arr {sz : Nat} {xs : List D} : Ent.frozen (.arr sz xs) = (.imm sz xs) := id rfl
theorem frozen_imm {sz : Nat} {xs : List D} : Ent.frozen (.imm sz xs) = (.imm sz xs) := id rfl
theorem frozen_nst {sz : Nat} {l : List (Option (List D))} : Ent.frozen (.nst sz l) = (.nst sz l) := id rfl
theorem frozen_box {cs : List D} : Ent.frozen (.box cs) = (.box cs) := id rfl
def allO2 {β : Type} : Option β → Option (List β) → Option (List β)
 | some b, some m => some (b :: m)
 | _, _ => none
def gives2 (hp : List (Nat × Ent)) (o : Option (List D)) : Option (List D × List (Nat × Ent)) := o.map fun l => (l, hp)
def expels3 {β : Type} (e : β) : Option (List β × List (Nat × Ent)) → Option (List β × List (Nat × Ent))
 | some (l, hp) => some (e :: l, hp)
 | none => none
def expels2 {β : Type} (f : List (Nat × Ent) → D → Option (β × List (Nat × Ent))) (o : Option (β × List (Nat × Ent))) (ds : List D) : Option (List β × List (Nat × Ent)) := match o with
 | some (e, hp) => expels3 e (expels f hp ds)
 | none => none
def adopts3 {β : Type} (b : β) (e : List (Nat × Ent)) (r : List β × List (Nat × Ent) × Nat) : List β × List (Nat × Ent) × Nat := (b :: r.1, e ++ r.2.1, r.2.2)
def adopts2 {β : Type} (f : Nat → D → β × List (Nat × Ent) × Nat) (r : β × List (Nat × Ent) × Nat) (ds : List D) : List β × List (Nat × Ent) × Nat := adopts3 r.1 r.2.1 (adopts f r.2.2 ds)
def renL3 (d : D) (r : List D × NS) : List D × NS := (d :: r.1, r.2)
def renL2 (f : NS → D → D × NS) (r : D × NS) (ds : List D) : List D × NS := renL3 r.1 (renL f r.2 ds)
def norm2 (r : List (Nat × D) × NS) : St := ⟨r.1, r.2.e, r.2.k⟩
def normGo4 (t : Nat) (d : D) (r : List (Nat × D) × NS) : List (Nat × D) × NS := ((t, d) :: r.1, r.2)
def normGo3 (s : St) (t : Nat) (l : List Nat) (r : D × NS) : List (Nat × D) × NS := normGo4 t r.1 (normGo s l r.2)
def normGo2 (s : St) (t : Nat) (l : List Nat) (n : NS) : Option D → List (Nat × D) × NS
 | some d => normGo3 s t l (ren2 s.hp n d)
 | none => normGo s l n
def init2 (r : List (Nat × D) × List (Nat × Ent) × Nat) : St := ⟨r.1, r.2.1, r.2.2⟩
def initGo3 (t : Nat) (d : D) (e : List (Nat × Ent)) (r : List (Nat × D) × List (Nat × Ent) × Nat) : List (Nat × D) × List (Nat × Ent) × Nat := ((t, d) :: r.1, e ++ r.2.1, r.2.2)
def initGo2 (t : Nat) (r : D × List (Nat × Ent) × Nat) (ds : List D) : List (Nat × D) × List (Nat × Ent) × Nat := initGo3 t r.1 r.2.1 (initGo (t + 1) r.2.2 ds)
theorem lk_nil {α : Type} {n : Nat} : lk ([] : List (Nat × α)) n = none := id rfl
theorem lk_cons {α : Type} {k n : Nat} {a : α} {l : List (Nat × α)} : lk ((k, a) :: l) n = if n = k then some a else lk l n := id rfl
theorem up_nil {α : Type} {n : Nat} {x : α} : up ([] : List (Nat × α)) n x = [(n, x)] := id rfl
theorem up_cons {α : Type} {k n : Nat} {a x : α} {l : List (Nat × α)} : up ((k, a) :: l) n x = if n = k then (k, x) :: l else (k, a) :: up l n x := id rfl
theorem rm_nil {α : Type} {n : Nat} : rm ([] : List (Nat × α)) n = [] := id rfl
theorem rm_cons {α : Type} {k n : Nat} {a : α} {l : List (Nat × α)} : rm ((k, a) :: l) n = if n = k then rm l n else (k, a) :: rm l n := id rfl
theorem fil_nil {keep : List Nat} : fil keep [] = [] := id rfl
theorem fil_cons {keep : List Nat} {t : Nat} {d : D} {l : List (Nat × D)} : fil keep ((t, d) :: l) = if keep.contains t then (t, d) :: fil keep l else fil keep l := id rfl
theorem putd_some {t : Nat} {d : D} {l : List (Nat × D)} : putd (some t) d l = up l t d := id rfl
theorem putd_none {d : D} {l : List (Nat × D)} : putd none d l = l := id rfl
theorem ev_t {n : Nat} {l : List (Nat × D)} : ev l (.t n) = lk l n := id rfl
theorem ev_k {d : D} {l : List (Nat × D)} : ev l (.k d) = some d := id rfl
theorem allO_nil {α β : Type} {f : α → Option β} : allO f [] = some [] := id rfl
theorem allO_cons {α β : Type} {f : α → Option β} {a : α} {l : List α} : allO f (a :: l) = allO2 (f a) (allO f l) := by simp only [allO]; cases f a <;> cases allO f l <;> rfl
theorem allO2_some {β : Type} {b : β} {l : List β} : allO2 (some b) (some l) = some (b :: l) := id rfl
theorem gives_rd {hp : List (Nat × Ent)} {ds : List D} : gives hp [] ds = gives2 hp (allO (lend hp) ds) := id rfl
theorem gives2_some {hp : List (Nat × Ent)} {ds : List D} : gives2 hp (some ds) = some (ds, hp) := id rfl
theorem headD_nil {α : Type} {a : α} : ([] : List α).headD a = a := id rfl
theorem headD_cons {α : Type} {a b : α} {l : List α} : (b :: l).headD a = b := id rfl
theorem tail_nil {α : Type} : ([] : List α).tail = [] := id rfl
theorem tail_cons {α : Type} {b : α} {l : List α} : (b :: l).tail = l := id rfl
theorem expels_nil {β : Type} {f : List (Nat × Ent) → D → Option (β × List (Nat × Ent))} {hp : List (Nat × Ent)} : expels f hp [] = some ([], hp) := id rfl
theorem expels_cons {β : Type} {f : List (Nat × Ent) → D → Option (β × List (Nat × Ent))} {hp : List (Nat × Ent)} {d : D} {ds : List D} : expels f hp (d :: ds) = expels2 f (f hp d) ds := id rfl
theorem expels2_some {β : Type} {f : List (Nat × Ent) → D → Option (β × List (Nat × Ent))} {hp : List (Nat × Ent)} {e : β} {ds : List D} : expels2 f (some (e, hp)) ds = expels3 e (expels f hp ds) := id rfl
theorem expels3_some {β : Type} {hp : List (Nat × Ent)} {e : β} {ds : List β} : expels3 e (some (ds, hp)) = some (e :: ds, hp) := id rfl
theorem adopts_nil {β : Type} {f : Nat → D → β × List (Nat × Ent) × Nat} {n : Nat} : adopts f n [] = ([], [], n) := id rfl
theorem adopts_cons {β : Type} {f : Nat → D → β × List (Nat × Ent) × Nat} {n : Nat} {d : D} {ds : List D} : adopts f n (d :: ds) = adopts2 f (f n d) ds := id rfl
theorem adopts2_eq {β : Type} {f : Nat → D → β × List (Nat × Ent) × Nat} {b : β} {e : List (Nat × Ent)} {n : Nat} {ds : List D} : adopts2 f (b, e, n) ds = adopts3 b e (adopts f n ds) := id rfl
theorem adopts3_eq {β : Type} {b : β} {e e' : List (Nat × Ent)} {n : Nat} {l : List β} : adopts3 b e (l, e', n) = (b :: l, e ++ e', n) := id rfl
theorem norm_eq {keep : List Nat} {s : St} : norm keep s = norm2 (normGo s keep ⟨[], [], 0⟩) := id rfl
theorem norm2_eq {l : List (Nat × D)} {m : List (Nat × Nat)} {e : List (Nat × Ent)} {k : Nat} : norm2 (l, ⟨m, e, k⟩) = ⟨l, e, k⟩ := id rfl
theorem normGo_nil {s : St} {n : NS} : normGo s [] n = ([], n) := id rfl
theorem normGo_cons {sl : List (Nat × D)} {hp : List (Nat × Ent)} {x : Nat} {t : Nat} {l : List Nat} {n : NS} : normGo ⟨sl, hp, x⟩ (t :: l) n = normGo2 ⟨sl, hp, x⟩ t l n (lk sl t) := id rfl
theorem normGo2_some {sl : List (Nat × D)} {hp : List (Nat × Ent)} {x : Nat} {t : Nat} {l : List Nat} {n : NS} {d : D} : normGo2 ⟨sl, hp, x⟩ t l n (some d) = normGo3 ⟨sl, hp, x⟩ t l (ren2 hp n d) := id rfl
theorem normGo2_none {s : St} {t : Nat} {l : List Nat} {n : NS} : normGo2 s t l n none = normGo s l n := id rfl
theorem normGo3_eq {s : St} {t : Nat} {l : List Nat} {n : NS} {d : D} : normGo3 s t l (d, n) = normGo4 t d (normGo s l n) := id rfl
theorem normGo4_eq {t : Nat} {d : D} {l : List (Nat × D)} {n : NS} : normGo4 t d (l, n) = ((t, d) :: l, n) := id rfl
theorem renL_nil {f : NS → D → D × NS} {n : NS} : renL f n [] = ([], n) := id rfl
theorem renL_cons {f : NS → D → D × NS} {n : NS} {d : D} {ds : List D} : renL f n (d :: ds) = renL2 f (f n d) ds := id rfl
theorem renL2_eq {f : NS → D → D × NS} {n : NS} {d : D} {ds : List D} : renL2 f (d, n) ds = renL3 d (renL f n ds) := id rfl
theorem renL3_eq {n : NS} {d : D} {ds : List D} : renL3 d (ds, n) = (d :: ds, n) := id rfl
theorem renBox_eq {i off k : Nat} {l : List D} {m : List (Nat × Nat)} {e : List (Nat × Ent)} : renBox i off (l, ⟨m, e, k⟩) = (.pt k off, ⟨(i, k) :: m, e ++ [(k, .box l)], k + 1⟩) := id rfl
theorem init_eq {ds : List D} : init ds = init2 (initGo 0 0 ds) := id rfl
theorem init2_eq {sl : List (Nat × D)} {hp : List (Nat × Ent)} {n : Nat} : init2 (sl, hp, n) = ⟨sl, hp, n⟩ := id rfl
theorem initGo_nil {t n : Nat} : initGo t n [] = ([], [], n) := id rfl
theorem initGo_cons {t n : Nat} {d : D} {ds : List D} : initGo t n (d :: ds) = initGo2 t (adopt1 n d) ds := id rfl
theorem initGo2_eq {t n : Nat} {d : D} {e : List (Nat × Ent)} {ds : List D} : initGo2 t (d, e, n) ds = initGo3 t d e (initGo (t + 1) n ds) := id rfl
theorem initGo3_eq {t n : Nat} {d : D} {sl : List (Nat × D)} {e e' : List (Nat × Ent)} : initGo3 t d e (sl, e', n) = ((t, d) :: sl, e ++ e', n) := id rfl
def takeBack3 (hp0 : List (Nat × Ent)) (ds : List D) (l : List (Nat × D)) (hp : List (Nat × Ent)) (id : Nat) (a : List D × List (Nat × Ent) × Nat) : Option (Nat × List (Nat × Ent)) := takeBack hp0 ds a.2.2 l ((id, .box a.1) :: (a.2.1 ++ hp))
def takeBack4 (hp0 : List (Nat × Ent)) (ds : List D) (l : List (Nat × D)) (o : Option (Nat × List (Nat × Ent))) : Option (Nat × List (Nat × Ent)) := match o with
 | some (n', hp') => takeBack hp0 ds n' l hp'
 | none => none
def takeBack2 (hp0 : List (Nat × Ent)) (ds : List D) (n : Nat) (l : List (Nat × D)) (hp : List (Nat × Ent)) (m : Option D) (d : D) : Option (Nat × List (Nat × Ent)) := match m, d with
 | some (.sl id 0 len), .arr sz xs => if xs.length = len ∧ arrSz hp0 id = some sz then takeBack hp0 ds n l ((id, .arr sz xs) :: hp) else none
 | some (.pt id 0), .box cs => if cs.all okA0 = true then takeBack3 hp0 ds l hp id (adopts adopt0 n cs) else none
 | some (.clo f cs), .clb f' bs => if f = f' then takeBack4 hp0 ds l (takeCaps n cs bs hp) else none
 | _, _ => none
def takeCaps2 (cs bs : List D) (hp : List (Nat × Ent)) (id : Nat) (a : List D × List (Nat × Ent) × Nat) : Option (Nat × List (Nat × Ent)) := takeCaps a.2.2 cs bs ((id, .box a.1) :: (a.2.1 ++ hp))
def giveO2 (f : List (Nat × Ent) → Option (List D × List (Nat × Ent))) (o : Option (D × List (Nat × Ent))) : Option (List D × List (Nat × Ent)) := match o with
 | some (e, hp1) => match f hp1 with
  | some (l, hp2) => some (e :: l, hp2)
  | none => none
 | none => none
def giveO3 (e : D) (o : Option (List D × List (Nat × Ent))) : Option (List D × List (Nat × Ent)) := match o with
 | some (l, hp2) => some (e :: l, hp2)
 | none => none
def giveR2 (o : Option D) (p : Option (List D)) : Option (List D) := match o, p with
 | some e, some l => some (e :: l)
 | _, _ => none
def giveR3 (md : List Md) (o : Option (List D × List (Nat × Ent))) : Option (List D × List (Nat × Ent)) := match o with
 | some (es, hp1) => (giveR hp1 md es).map fun l => (l, hp1)
 | none => none
def freeze2 (l : List Nat) (i : Nat) (hp : List (Nat × Ent)) (o : Option Ent) : List (Nat × Ent) := match o with
 | some e => freezeIds l (up hp i e.frozen)
 | none => freezeIds l hp
def after3 (n : Nat) (d : D) (o : Option (Nat × List (Nat × Ent))) : Option (D × List (Nat × Ent)) := match o with
 | some (n', hp') => if n' ≤ n + 64 then some (d, hp') else none
 | none => none
def after2 (n : Nat) (hp0 : List (Nat × Ent)) (ds : List D) (outs : List (Nat × D)) (a : D × List (Nat × Ent) × Nat) (hp : List (Nat × Ent)) : Option (D × List (Nat × Ent)) := after3 n a.1 (takeBack hp0 ds a.2.2 outs (a.2.1 ++ hp))
def buildGo2 (sl : List (Nat × D)) (off n : Nat) (ps : List (Nat × Nat × X)) (cs : List D) (o : Option (List D)) : Option (List D) := match o with
 | some l => if l.length = n ∧ off + n ≤ cs.length then buildGo sl ps (splice cs off l) else none
 | none => none
def bs4 (ids : List Nat) (o : Option (List D × List Nat)) : Option (List D × List Nat) := o.map fun (l, f) => (l, ids ++ f)
def bs3 (sl : List (Nat × D)) (hp : List (Nat × Ent)) (sz i : Nat) (ps : List (Nat × X)) (es : List D) (ids : List Nat) (o : Option D) : Option (List D × List Nat) := match o with
 | some e => if okElem sz e ∧ i < es.length then bs4 ids (buildSlGo sl hp sz ps (es.set i e)) else none
 | none => none
def bs2 (sl : List (Nat × D)) (hp : List (Nat × Ent)) (sz i : Nat) (ps : List (Nat × X)) (es : List D) (o : Option D) : Option (List D × List Nat) := match o with
 | some d => bs3 sl hp sz i ps es d.ids (pur hp d)
 | none => none
def foldO2 (f : D → D → Option D) (l : List D) (o : Option D) : Option D := match o with
 | some c => foldO f c l
 | none => none
def rv3 (ag : Bool) (m : Nat) (o : Option Ent) : Option D := match o with
 | some (.box cs) => subCells ag 0 m cs
 | _ => none
def rv2 (s : St) (ag : Bool) (m : Nat) (o : Option D) : Option D := match o with
 | some (.pt id 0) => rv3 ag m (lk s.hp id)
 | _ => none
def tup1 : List D → D
 | [d] => d
 | l => .tup l
def fin3 (outs : List Nat) (n : Nat) (o : Option (List D × List (Nat × Ent))) : Option (D × List (Nat × D)) := match o with
 | some (l, _) => if l.length = n + outs.length then some (tup1 (l.take n), outs.zip (l.drop n)) else none
 | none => none
def fin2 (s : St) (outs : List Nat) (o : Option (List D)) : Option (D × List (Nat × D)) := match o with
 | some ds => fin3 outs ds.length (expels expel1 s.hp (ds ++ (outs.filterMap fun i => lk s.sl i)))
 | none => none
theorem eff_mov {n : Nat} {sl : List (Nat × D)} {hp : List (Nat × Ent)} {x} : eff n sl hp (.mov x) = ( (ev sl x).map fun d => (d, hp)) := id rfl
theorem eff_pick {n : Nat} {sl : List (Nat × D)} {hp : List (Nat × Ent)} {c a b} : eff n sl hp (.pick c a b) = ( match ev sl c with
  | some (.bool true) => (ev sl a).map fun d => (d, hp)
  | some (.bool false) => (ev sl b).map fun d => (d, hp)
  | _ => none) := id rfl
theorem eff_alloc {n : Nat} {sl : List (Nat × D)} {hp : List (Nat × Ent)} {z} : eff n sl hp (.alloc z) = ( some (.pt n 0, up hp n (.box z))) := id rfl
theorem eff_bx {n : Nat} {sl : List (Nat × D)} {hp : List (Nat × Ent)} {x} : eff n sl hp (.bx x) = ( ((ev sl x).bind cellsO).map fun cs => (.pt n 0, up hp n (.box cs))) := id rfl
theorem eff_build {n : Nat} {sl : List (Nat × D)} {hp : List (Nat × Ent)} {z ps} : eff n sl hp (.build z ps) = ( (buildGo sl ps z).map fun cs => (.agg cs, hp)) := id rfl
theorem eff_buildSl {n : Nat} {sl : List (Nat × D)} {hp : List (Nat × Ent)} {sz by_ z m ps} : eff n sl hp (.buildSl sz by_ z m ps) = ( if fits m by_ then (buildSlGo sl hp sz ps (List.replicate m z)).map fun (es, f) => (.sl n 0 m, up (freezeIds f hp) n (.arr sz es)) else none) := id rfl
theorem eff_load {n : Nat} {sl : List (Nat × D)} {hp : List (Nat × Ent)} {ag m x} : eff n sl hp (.load ag m x) = ( match ev sl x with
  | some (.pt id off) => match lk hp id with
   | some (.box cs) => (subCells ag off m cs).map fun d => (d, hp)
   | _ => none
  | some (.ref cs) => (subCells ag 0 m cs).map fun d => (d, hp)
  | some (.pe id i off) => match lk hp id with
   | some (.arr _ xs) => match xs[i]? with
    | some e => (subCells ag off m e.cells).map fun d => (d, hp)
    | none => none
   | some (.imm _ xs) => match xs[i]? with
    | some e => (subCells ag off m e.cells).map fun d => (d, hp)
    | none => none
   | _ => none
  | _ => none) := id rfl
theorem eff_store {n : Nat} {sl : List (Nat × D)} {hp : List (Nat × Ent)} {m a x} : eff n sl hp (.store m a x) = ( match ev sl a, ev sl x with
  | some (.pt id off), some d => match lk hp id, cellsO d with
   | some (.box cs), some l => if l.length = m ∧ off + m ≤ cs.length then some (.undef, up hp id (.box (splice cs off l))) else none
   | _, _ => none
  | some (.pe id i off), some d => match lk hp id with
   | some (.arr sz xs) => match xs[i]?, pur hp d with
    | some e, some d' => if d'.cells.length = m ∧ off + m ≤ e.cells.length ∧ d.ids.contains id = false then
      (if m = sz then (if okElem sz d' then some (.undef, up (freezeIds d.ids hp) id (.arr sz (xs.set i d'))) else none)
       else if okElem sz (.agg (splice e.cells off d'.cells)) then some (.undef, up (freezeIds d.ids hp) id (.arr sz (xs.set i (.agg (splice e.cells off d'.cells))))) else none) else none
    | _, _ => none
   | _ => none
  | _, _ => none) := id rfl
theorem eff_bin {n : Nat} {sl : List (Nat × D)} {hp : List (Nat × Ent)} {op x y} : eff n sl hp (.bin op x y) = ( match ev sl x, ev sl y with
  | some a, some b => (binD op a b).map fun d => (d, hp)
  | _, _ => none) := id rfl
theorem eff_eqA {n : Nat} {sl : List (Nat × D)} {hp : List (Nat × Ent)} {m neg x y} : eff n sl hp (.eqA m neg x y) = (match ev sl x, ev sl y with
  | some (.agg a), some (.agg b) => if a.length = m then (eqCells a b).map fun c => (.bool (if neg then !c else c), hp) else none
  | _, _ => none) := id rfl
theorem eff_eqB {n : Nat} {sl : List (Nat × D)} {hp : List (Nat × Ent)} {neg x y} : eff n sl hp (.eqB neg x y) = (match ev sl x, ev sl y with
  | some a, some b => (eqBD neg a b).map fun d => (d, hp)
  | _, _ => none) := id rfl
theorem eff_not {n : Nat} {sl : List (Nat × D)} {hp : List (Nat × Ent)} {x} : eff n sl hp (.not x) = ( match ev sl x with
  | some (.bool b) => some (.bool (!b), hp)
  | _ => none) := id rfl
theorem eff_conv {n : Nat} {sl : List (Nat × D)} {hp : List (Nat × Ent)} {k x} : eff n sl hp (.conv k x) = ( match ev sl x with
  | some (.int _ m) => some (.int k (k.wrap m), hp)
  | _ => none) := id rfl
theorem eff_mkf {n : Nat} {sl : List (Nat × D)} {hp : List (Nat × Ent)} {f caps} : eff n sl hp (.mkf f caps) = ( (allO (ev sl) caps).map fun l => (.clo f l, hp)) := id rfl
theorem eff_makeSl {n : Nat} {sl : List (Nat × D)} {hp : List (Nat × Ent)} {sz by_ z l} : eff n sl hp (.makeSl sz by_ z l) = ( match (ev sl l).bind asI with
  | some m => if 0 ≤ m ∧ fits m.toNat by_ then some (.sl n 0 m.toNat, up hp n (.arr sz (List.replicate m.toNat z))) else none
  | none => none) := id rfl
theorem eff_slc {n : Nat} {sl : List (Nat × D)} {hp : List (Nat × Ent)} {sz x lo hi} : eff n sl hp (.slc sz x lo hi) = ( match ev sl x, optI sl 0 lo with
  | some (.sl id lo0 len), some l => match optI sl len hi with
   | some h => if 0 ≤ l ∧ l ≤ h ∧ h ≤ len ∧ entSz hp id = some sz then some (.sl id (lo0 + l.toNat) (h.toNat - l.toNat), hp) else none
   | none => none
  | some (.lst sz' xs), some l => match optI sl xs.length hi with
   | some h => if 0 ≤ l ∧ l ≤ h ∧ h ≤ xs.length ∧ sz' = sz then some (.lst sz ((xs.take h.toNat).drop l.toNat), hp) else none
   | none => none
  | some (.nl sz'), some l => match optI sl 0 hi with
   | some h => if l = 0 ∧ h = 0 then some (.nl sz', hp) else none
   | none => none
  | _, _ => none) := id rfl
theorem eff_fad {n : Nat} {sl : List (Nat × D)} {hp : List (Nat × Ent)} {off x} : eff n sl hp (.fad off x) = ( match ev sl x with
  | some (.pt id o) => some (.pt id (o + off), hp)
  | some (.ref cs) => if off ≤ cs.length then some (.ref (cs.drop off), hp) else none
  | some (.pe id i o) => some (.pe id i (o + off), hp)
  | _ => none) := id rfl
theorem eff_fld {n : Nat} {sl : List (Nat × D)} {hp : List (Nat × Ent)} {ag off m x} : eff n sl hp (.fld ag off m x) = ( match ev sl x with
  | some (.agg cs) => (subCells ag off m cs).map fun d => (d, hp)
  | _ => none) := id rfl
theorem eff_iad {n : Nat} {sl : List (Nat × D)} {hp : List (Nat × Ent)} {sz x i} : eff n sl hp (.iad sz x i) = ( match ev sl x, (ev sl i).bind asI with
  | some (.sl id lo len), some j => if 0 ≤ j ∧ j < len ∧ entSz hp id = some sz then some (.pe id (lo + j.toNat) 0, hp) else none
  | some (.lst sz' xs), some j => if 0 ≤ j ∧ sz' = sz then (match xs[j.toNat]? with | some e => some (.ref e.cells, hp) | none => none) else none
  | _, _ => none) := id rfl
theorem eff_iaa {n : Nat} {sl : List (Nat × D)} {hp : List (Nat × Ent)} {m sz x i} : eff n sl hp (.iaa m sz x i) = ( match ev sl x, (ev sl i).bind asI with
  | some (.pt id o), some j => if 0 ≤ j ∧ j < m then some (.pt id (o + j.toNat * sz), hp) else none
  | some (.ref cs), some j => if 0 ≤ j ∧ j < m ∧ j.toNat * sz ≤ cs.length then some (.ref (cs.drop (j.toNat * sz)), hp) else none
  | _, _ => none) := id rfl
theorem eff_idx {n : Nat} {sl : List (Nat × D)} {hp : List (Nat × Ent)} {ag m sz x i} : eff n sl hp (.idx ag m sz x i) = ( match ev sl x, (ev sl i).bind asI with
  | some (.agg cs), some j => if 0 ≤ j ∧ j < m then (subCells ag (j.toNat * sz) sz cs).map fun d => (d, hp) else none
  | _, _ => none) := id rfl
theorem eff_app {n : Nat} {sl : List (Nat × D)} {hp : List (Nat × Ent)} {sz by_ x y} : eff n sl hp (.app sz by_ x y) = ( match ev sl x, (ev sl y).bind (rdS hp sz) with
  | some (.nl _), some ys => if fits ys.length by_ then some (.sl n 0 ys.length, up hp n (.arr sz ys)) else none
  | some (.sl id lo len), some ys => match lk hp id with
   | some (.arr sz' xs) => if lo = 0 ∧ sz' = sz ∧ fits (len + ys.length) by_ then
     (if len = xs.length then some (.sl n 0 (len + ys.length), up (rm hp id) n (.arr sz (xs ++ ys)))
      else if len ≤ xs.length then some (.sl n 0 (len + ys.length), up (rm hp id) n (.arr sz (xs.take len ++ ys))) else none) else none
   | _ => none
  | _, _ => none) := id rfl
theorem eff_cap {n : Nat} {sl : List (Nat × D)} {hp : List (Nat × Ent)} {x} : eff n sl hp (.cap x) = ( match ev sl x with
  | some (.nl _) => some (.int .i64 0, hp)
  | _ => none) := id rfl
theorem eff_clr {n : Nat} {sl : List (Nat × D)} {hp : List (Nat × Ent)} {sz x} : eff n sl hp (.clr sz x) = ( match ev sl x with
  | some (.nl _) => some (.undef, hp)
  | some (.sl id lo len) => match lk hp id with
   | some (.arr sz' xs) => if sz' = sz ∧ lo ≤ xs.length ∧ xs.length ≤ lo + len then some (.undef, up hp id (.arr sz (xs.take lo))) else none
   | _ => none
  | _ => none) := id rfl
theorem eff_appz {n : Nat} {sl : List (Nat × D)} {hp : List (Nat × Ent)} {sz by_ z x l} : eff n sl hp (.appz sz by_ z x l) = ( match ev sl x, (ev sl l).bind asI with
  | some (.nl _), some m => if 0 < m ∧ fits m.toNat by_ then some (.sl n 0 m.toNat, up hp n (.arr sz (List.replicate m.toNat z))) else none
  | _, _ => none) := id rfl
theorem eff_mkn {n : Nat} {sl : List (Nat × D)} {hp : List (Nat × Ent)} {sz by_ l} : eff n sl hp (.mkn sz by_ l) = ( match (ev sl l).bind asI with
  | some m => if 0 ≤ m ∧ fits m.toNat by_ then some (.sl n 0 m.toNat, up hp n (.nst sz (List.replicate m.toNat (some [])))) else none
  | none => none) := id rfl
theorem eff_tk {n : Nat} {sl : List (Nat × D)} {hp : List (Nat × Ent)} {x} : eff n sl hp (.tk x) = ( match ev sl x with
  | some (.pe id i off) => match lk hp id with
   | some (.nst sz l) => match l[i]? with
    | some (some xs) => if off = 0 then some (.sl n 0 xs.length, up (up hp id (.nst sz (l.set i none))) n (.arr sz xs)) else none
    | _ => none
   | _ => none
  | _ => none) := id rfl
theorem eff_pu {n : Nat} {sl : List (Nat × D)} {hp : List (Nat × Ent)} {a x} : eff n sl hp (.pu a x) = ( match ev sl a, ev sl x with
  | some (.pe id i off), some (.sl m lo len) => match lk hp id, lk hp m with
   | some (.nst sz l), some (.arr sz' xs) => if off = 0 ∧ lo = 0 ∧ len = xs.length ∧ sz' = sz ∧ i < l.length then some (.undef, up (rm hp m) id (.nst sz (l.set i (some xs)))) else none
   | _, _ => none
  | _, _ => none) := id rfl
theorem eff_bad {n : Nat} {sl : List (Nat × D)} {hp : List (Nat × Ent)} : eff n sl hp .bad = none := id rfl
theorem eff_len {n : Nat} {sl : List (Nat × D)} {hp : List (Nat × Ent)} {x} : eff n sl hp (.len x) = ( match ev sl x with
  | some (.sl _ _ len) => some (.int .i64 len, hp)
  | some (.lst _ xs) => some (.int .i64 xs.length, hp)
  | some (.nl _) => some (.int .i64 0, hp)
  | _ => none) := id rfl
theorem eff_mn {n : Nat} {sl : List (Nat × D)} {hp : List (Nat × Ent)} {xs} : eff n sl hp (.mn xs) = ( match allO (ev sl) xs with
  | some (a :: l) => (foldO minI a l).map fun d => (d, hp)
  | _ => none) := id rfl
theorem eff_mx {n : Nat} {sl : List (Nat × D)} {hp : List (Nat × Ent)} {xs} : eff n sl hp (.mx xs) = ( match allO (ev sl) xs with
  | some (a :: l) => (foldO maxI a l).map fun d => (d, hp)
  | _ => none) := id rfl
theorem eff_ext {n : Nat} {sl : List (Nat × D)} {hp : List (Nat × Ent)} {x i} : eff n sl hp (.ext x i) = ( match ev sl x with
  | some (.tup ds) => match ds[i]? with | some d => some (d, hp) | none => none
  | _ => none) := id rfl
theorem muIdx_nil {n : Nat} : muIdx n [] = [] := id rfl
theorem muIdx_mu {n : Nat} {l : List Md} : muIdx n (.mu :: l) = n :: muIdx (n + 1) l := id rfl
theorem muIdx_rd {n : Nat} {l : List Md} : muIdx n (.rd :: l) = muIdx (n + 1) l := id rfl
theorem muIdx_ow {n : Nat} {l : List Md} : muIdx n (.ow :: l) = muIdx (n + 1) l := id rfl
theorem muIdx_mp {n : Nat} {l : List Md} : muIdx n (.mp :: l) = n :: muIdx (n + 1) l := id rfl
theorem rdOf_nil {ds : List D} : rdOf [] ds = ds := by cases ds <;> rfl
theorem rdOf_e {m : Md} {l : List Md} : rdOf (m :: l) [] = [] := by cases m <;> rfl
theorem rdOf_rd {l : List Md} {d : D} {ds : List D} : rdOf (.rd :: l) (d :: ds) = d :: rdOf l ds := id rfl
theorem rdOf_mu {l : List Md} {d : D} {ds : List D} : rdOf (.mu :: l) (d :: ds) = rdOf l ds := id rfl
theorem rdOf_ow {l : List Md} {d : D} {ds : List D} : rdOf (.ow :: l) (d :: ds) = rdOf l ds := id rfl
theorem rdOf_mp {l : List Md} {d : D} {ds : List D} : rdOf (.mp :: l) (d :: ds) = rdOf l ds := id rfl
section
variable {hp : List (Nat × Ent)} {l : List Md} {d : D} {ds : List D}
theorem gives_md {m : Md} : gives hp (m :: l) ds = giveR3 (m :: l) (giveOs hp (m :: l) ds) := id rfl
theorem giveR3_some : giveR3 l (some (ds, hp)) = gives2 hp (giveR hp l ds) := id rfl
theorem giveOs_nil : giveOs hp [] ds = some (ds, hp) := by cases ds <;> rfl
theorem giveOs_e {m : Md} : giveOs hp (m :: l) [] = some ([], hp) := id rfl
theorem giveOs_cons {m : Md} : giveOs hp (m :: l) (d :: ds) = giveO2 (fun hp1 => giveOs hp1 l ds) (giveO hp m d) := id rfl
theorem giveO_rd : giveO hp .rd d = some (d, hp) := id rfl
theorem giveO_mu : giveO hp .mu d = expelN hp d := id rfl
theorem giveO_ow : giveO hp .ow d = expelN hp d := id rfl
theorem expelN_nl {s : Nat} : expelN hp (.nl s) = some (.nl s, hp) := id rfl
theorem expelN_sl {i a b : Nat} : expelN hp (.sl i a b) = expel0 hp (.sl i a b) := id rfl
theorem expelN_lst {i : Nat} {l : List D} : expelN hp (.lst i l) = expel0 hp (.lst i l) := id rfl
theorem expelN_int {k : IntKind} {x : Int} : expelN hp (.int k x) = expel0 hp (.int k x) := id rfl
theorem expelN_bool {b : Bool} : expelN hp (.bool b) = expel0 hp (.bool b) := id rfl
theorem giveO_mp : giveO hp .mp d = expel1 hp d := id rfl
theorem giveO2_some {f : List (Nat × Ent) → Option (List D × List (Nat × Ent))} : giveO2 f (some (d, hp)) = giveO3 d (f hp) := id rfl
theorem giveO3_some : giveO3 d (some (ds, hp)) = some (d :: ds, hp) := id rfl
theorem giveR_nil : giveR hp [] ds = allO (lend hp) ds := by cases ds <;> rfl
theorem giveR_e {m : Md} : giveR hp (m :: l) [] = some [] := by cases m <;> rfl
theorem giveR_rd : giveR hp (.rd :: l) (d :: ds) = giveR2 (lend hp d) (giveR hp l ds) := id rfl
theorem giveR_mu : giveR hp (.mu :: l) (d :: ds) = giveR2 (some d) (giveR hp l ds) := by simp only [giveR]; cases giveR hp l ds <;> rfl
theorem giveR_ow : giveR hp (.ow :: l) (d :: ds) = giveR2 (some d) (giveR hp l ds) := by simp only [giveR]; cases giveR hp l ds <;> rfl
theorem giveR_mp : giveR hp (.mp :: l) (d :: ds) = giveR2 (some d) (giveR hp l ds) := by simp only [giveR]; cases giveR hp l ds <;> rfl
theorem giveR2_some : giveR2 (some d) (some ds) = some (d :: ds) := id rfl
end
theorem takeBack_nil {hp0 : List (Nat × Ent)} {ds : List D} {n : Nat} {hp : List (Nat × Ent)} : takeBack hp0 ds n [] hp = some (n, hp) := id rfl
theorem takeBack_cons {hp0 : List (Nat × Ent)} {ds : List D} {n i : Nat} {d : D} {l : List (Nat × D)} {hp : List (Nat × Ent)} : takeBack hp0 ds n ((i, d) :: l) hp = takeBack2 hp0 ds n l hp (ds[i]?) d := by
 simp only [takeBack, takeBack2, takeBack3, takeBack4]; split <;> first | rfl | (simp_all; done) | (simp_all; rfl)
theorem takeBack2_clo {hp0 : List (Nat × Ent)} {ds : List D} {n f f' : Nat} {cs bs : List D} {l : List (Nat × D)} {hp : List (Nat × Ent)} : takeBack2 hp0 ds n l hp (some (.clo f cs)) (.clb f' bs) = if f = f' then takeBack4 hp0 ds l (takeCaps n cs bs hp) else none := id rfl
theorem takeBack4_some {hp0 : List (Nat × Ent)} {ds : List D} {n : Nat} {l : List (Nat × D)} {hp : List (Nat × Ent)} : takeBack4 hp0 ds l (some (n, hp)) = takeBack hp0 ds n l hp := id rfl
theorem takeCaps_nil {n : Nat} {hp : List (Nat × Ent)} : takeCaps n [] [] hp = some (n, hp) := id rfl
theorem takeCaps_cons {n i : Nat} {cs bs l : List D} {hp : List (Nat × Ent)} : takeCaps n (.pt i 0 :: cs) (.box l :: bs) hp = if l.all okA0 = true then takeCaps2 cs bs hp i (adopts adopt0 n l) else none := id rfl
theorem takeCaps2_eq {n i : Nat} {cs bs l : List D} {e hp : List (Nat × Ent)} : takeCaps2 cs bs hp i (l, e, n) = takeCaps n cs bs ((i, .box l) :: (e ++ hp)) := id rfl
theorem takeBack2_sl {hp0 : List (Nat × Ent)} {ds : List D} {n i len sz : Nat} {xs : List D} {l : List (Nat × D)} {hp : List (Nat × Ent)} : takeBack2 hp0 ds n l hp (some (.sl i 0 len)) (.arr sz xs) = if xs.length = len ∧ arrSz hp0 i = some sz then takeBack hp0 ds n l ((i, .arr sz xs) :: hp) else none := id rfl
theorem takeBack2_pt {hp0 : List (Nat × Ent)} {ds : List D} {n i : Nat} {cs : List D} {l : List (Nat × D)} {hp : List (Nat × Ent)} : takeBack2 hp0 ds n l hp (some (.pt i 0)) (.box cs) = if cs.all okA0 = true then takeBack3 hp0 ds l hp i (adopts adopt0 n cs) else none := id rfl
theorem takeBack3_eq {hp0 : List (Nat × Ent)} {ds : List D} {n i : Nat} {cs : List D} {l : List (Nat × D)} {hp e : List (Nat × Ent)} : takeBack3 hp0 ds l hp i (cs, e, n) = takeBack hp0 ds n l ((i, .box cs) :: (e ++ hp)) := id rfl
theorem getq_zero {α : Type} {a : α} {l : List α} : (a :: l)[0]? = some a := id rfl
theorem getq_succ {α : Type} {a : α} {l : List α} {n : Nat} : (a :: l)[n + 1]? = l[n]? := id rfl
theorem getq_1 {α : Type} {a b : α} {l : List α} : (a :: b :: l)[1]? = some b := id rfl
theorem getq_2 {α : Type} {a b c : α} {l : List α} : (a :: b :: c :: l)[2]? = some c := id rfl
def arrSz2 : Option Ent → Option Nat
 | some (.arr sz _) => some sz
 | _ => none
theorem arrSz_eq {hp : List (Nat × Ent)} {i : Nat} : arrSz hp i = arrSz2 (lk hp i) := id rfl
theorem arrSz2_arr {sz : Nat} {xs : List D} : arrSz2 (some (.arr sz xs)) = some sz := id rfl
theorem freeze_nil {hp : List (Nat × Ent)} : freezeIds [] hp = hp := id rfl
theorem freeze_cons {i : Nat} {l : List Nat} {hp : List (Nat × Ent)} : freezeIds (i :: l) hp = freeze2 l i hp (lk hp i) := by simp only [freezeIds, freeze2]; cases lk hp i <;> rfl
theorem freeze2_some {i : Nat} {l : List Nat} {hp : List (Nat × Ent)} {e : Ent} : freeze2 l i hp (some e) = freezeIds l (up hp i e.frozen) := id rfl
theorem afterCall_eq {fz : Bool} {n : Nat} {hp0 hp : List (Nat × Ent)} {ds : List D} {md : List Md} {r : D} {outs : List (Nat × D)} : afterCall fz n hp0 hp ds md r outs =
 if outs.map (·.1) = muIdx 0 md ∧ okA r = true then
  if !fz && (r.flat && outs.all (fun o => o.2.flat)) then after2 n hp0 ds outs (adopt n r) hp
  else if (rdOf md ds).all noPt then after2 n hp0 ds outs (adopt n r) (freezeIds ((rdOf md ds).flatMap D.ids) hp) else none
 else none := id rfl
theorem and_false' {b : Bool} : (false && b) = false := id (by simp)
theorem after2_eq {n m : Nat} {hp0 : List (Nat × Ent)} {ds : List D} {outs : List (Nat × D)} {d : D} {e hp : List (Nat × Ent)} : after2 n hp0 ds outs (d, e, m) hp = after3 n d (takeBack hp0 ds m outs (e ++ hp)) := id rfl
theorem after3_some {n m : Nat} {d : D} {hp : List (Nat × Ent)} : after3 n d (some (m, hp)) = if m ≤ n + 64 then some (d, hp) else none := id rfl
theorem subCells_eq {ag : Bool} {off n : Nat} {cs : List D} : subCells ag off n cs = if off + n ≤ cs.length then ofCells ag ((cs.drop off).take n) else none := id rfl
theorem ofCells_true {cs : List D} : ofCells true cs = some (.agg cs) := id rfl
theorem ofCells_false {c : D} : ofCells false [c] = some c := id rfl
theorem splice_eq {l : List D} {off : Nat} {new : List D} : splice l off new = l.take off ++ new ++ l.drop (off + new.length) := id rfl
theorem buildGo_nil {sl : List (Nat × D)} {cs : List D} : buildGo sl [] cs = some cs := id rfl
theorem buildGo_cons {sl : List (Nat × D)} {off n : Nat} {x : X} {ps : List (Nat × Nat × X)} {cs : List D} : buildGo sl ((off, n, x) :: ps) cs = buildGo2 sl off n ps cs ((ev sl x).bind cellsO) := by simp only [buildGo, buildGo2]; cases (ev sl x).bind cellsO <;> rfl
theorem buildGo2_some {sl : List (Nat × D)} {off n : Nat} {ps : List (Nat × Nat × X)} {cs l : List D} : buildGo2 sl off n ps cs (some l) = if l.length = n ∧ off + n ≤ cs.length then buildGo sl ps (splice cs off l) else none := id rfl
theorem buildSl_nil {sl : List (Nat × D)} {hp : List (Nat × Ent)} {sz : Nat} {es : List D} : buildSlGo sl hp sz [] es = some (es, []) := id rfl
theorem buildSl_cons {sl : List (Nat × D)} {hp : List (Nat × Ent)} {sz i : Nat} {x : X} {ps : List (Nat × X)} {es : List D} : buildSlGo sl hp sz ((i, x) :: ps) es = bs2 sl hp sz i ps es (ev sl x) := by
 simp only [buildSlGo, bs2]; cases ev sl x with
 | none => rfl
 | some d => simp only [bs3]; cases pur hp d <;> rfl
theorem bs2_some {sl : List (Nat × D)} {hp : List (Nat × Ent)} {sz i : Nat} {ps : List (Nat × X)} {es : List D} {d : D} : bs2 sl hp sz i ps es (some d) = bs3 sl hp sz i ps es d.ids (pur hp d) := id rfl
theorem bs3_some {sl : List (Nat × D)} {hp : List (Nat × Ent)} {sz i : Nat} {ps : List (Nat × X)} {es : List D} {ids : List Nat} {e : D} : bs3 sl hp sz i ps es ids (some e) = if okElem sz e ∧ i < es.length then bs4 ids (buildSlGo sl hp sz ps (es.set i e)) else none := id rfl
theorem bs4_some {ids f : List Nat} {l : List D} : bs4 ids (some (l, f)) = some (l, ids ++ f) := id rfl
theorem binI_add {k : IntKind} {a b : Int} : binI .add k a b = some (.int k (k.wrap (a + b))) := id rfl
theorem binI_sub {k : IntKind} {a b : Int} : binI .sub k a b = some (.int k (k.wrap (a - b))) := id rfl
theorem binI_mul {k : IntKind} {a b : Int} : binI .mul k a b = some (.int k (k.wrap (a * b))) := id rfl
theorem binI_quo {k : IntKind} {a b : Int} : binI .quo k a b = if b = 0 then none else some (.int k (k.wrap (a.tdiv b))) := id rfl
theorem binI_rem {k : IntKind} {a b : Int} : binI .rem k a b = if b = 0 then none else some (.int k (a.tmod b)) := id rfl
theorem binI_and {k : IntKind} {a b : Int} : binI .and k a b = some (.int k (k.wrap (BitVec.ofInt k.bits a &&& BitVec.ofInt k.bits b).toNat)) := id rfl
theorem binI_eql {k : IntKind} {a b : Int} : binI .eql k a b = some (.bool (decide (a = b))) := id rfl
theorem binI_neq {k : IntKind} {a b : Int} : binI .neq k a b = some (.bool (!decide (a = b))) := id rfl
theorem binI_lss {k : IntKind} {a b : Int} : binI .lss k a b = some (.bool (decide (a < b))) := id rfl
theorem binI_leq {k : IntKind} {a b : Int} : binI .leq k a b = some (.bool (decide (a ≤ b))) := id rfl
theorem binI_gtr {k : IntKind} {a b : Int} : binI .gtr k a b = some (.bool (decide (b < a))) := id rfl
theorem binI_geq {k : IntKind} {a b : Int} : binI .geq k a b = some (.bool (decide (b ≤ a))) := id rfl
theorem foldO_nil {f : D → D → Option D} {a : D} : foldO f a [] = some a := id rfl
theorem foldO_cons {f : D → D → Option D} {a b : D} {l : List D} : foldO f a (b :: l) = foldO2 f l (f a b) := by simp only [foldO, foldO2]; cases f a b <;> rfl
theorem foldO2_some {f : D → D → Option D} {c : D} {l : List D} : foldO2 f l (some c) = foldO f c l := id rfl
theorem rvGet_t {s : St} {n : Nat} : rvGet s (.t n) = lk s.sl n := id rfl
theorem rvGet_c {s : St} {n m : Nat} {ag : Bool} : rvGet s (.c n ag m) = rv2 s ag m (lk s.sl n) := by
 simp only [rvGet, rv2]; split
 ·rename_i h; simp only [h]; rfl
 ·rename_i h; split
  ·rename_i h2; exact (h _ h2).elim
  ·rfl
theorem rv2_some {s : St} {ag : Bool} {m i : Nat} : rv2 s ag m (some (.pt i 0)) = rv3 ag m (lk s.hp i) := id rfl
theorem rv3_some {ag : Bool} {m : Nat} {cs : List D} : rv3 ag m (some (.box cs)) = subCells ag 0 m cs := id rfl
theorem fin_eq {s : St} {rs : List RV} {outs : List Nat} : fin s rs outs = fin2 s outs (allO (rvGet s) rs) := by simp only [fin, fin2]; cases allO (rvGet s) rs with
 | none => rfl
 | some ds => simp only []; cases expels expel1 s.hp (ds ++ (outs.filterMap fun i => lk s.sl i)) <;> rfl
theorem fin2_some {s : St} {outs : List Nat} {ds : List D} : fin2 s outs (some ds) = fin3 outs ds.length (expels expel1 s.hp (ds ++ (outs.filterMap fun i => lk s.sl i))) := id rfl
theorem fin3_some {outs : List Nat} {n : Nat} {l : List D} {hp : List (Nat × Ent)} : fin3 outs n (some (l, hp)) = if l.length = n + outs.length then some (tup1 (l.take n), outs.zip (l.drop n)) else none := id rfl
theorem tup1_one {d : D} : tup1 [d] = d := id rfl
theorem tup1_two {a b : D} : tup1 [a, b] = .tup [a, b] := id rfl
theorem tup1_three {a b c : D} : tup1 [a, b, c] = .tup [a, b, c] := id rfl
theorem tup1_four {a b c d : D} : tup1 [a, b, c, d] = .tup [a, b, c, d] := id rfl
theorem tup1_none : tup1 [] = .tup [] := id rfl
theorem W_loop {α : Type} (st : α → St) (Inv : α → Prop) (μ : α → Nat) (a0 : α) {keep : List Nat} {body : LC} (h0 : norm keep s = st a0) (hi : Inv a0)
  (step : ∀ a, Inv a → @RUN P body ⟨LX.seq (fun s' => ∃ a', norm keep s' = st a' ∧ Inv a' ∧ μ a' < μ a) q⟩ (st a)) : @RUN P (.loop keep body) ⟨q⟩ s := by
 simp only [RUN, W]
 refine ⟨fun m s => ∃ a, Inv a ∧ st a = s ∧ μ a = m, ⟨_, a0, hi, h0.symm, rfl⟩, ?_⟩
 rintro m s ⟨a, ha, rfl, rfl⟩
 refine W_mono _ ?_ (step a ha)
 refine LX.seq_mono ?_ (fun _ _ h => h)
 rintro s' ⟨a', hn, hi', hm⟩
 exact ⟨_, hm, a', hi', hn.symm, rfl⟩
end
def rchB : Option Ent → List Nat
 | some (.box cs) => cs.flatMap D.ids0
 | _ => []
def stI (sl : List (Nat × D)) (a : D) (x : X) : List Nat := match a with
 | .pt id _ => [id]
 | .pe id _ _ => id :: (evL sl x).ids
 | _ => []
theorem rchB_box {cs : List D} : rchB (some (.box cs)) = cs.flatMap D.ids0 := id rfl
theorem stI_pt {sl : List (Nat × D)} {i off : Nat} {x : X} : stI sl (.pt i off) x = [i] := id rfl
theorem stI_pe {sl : List (Nat × D)} {i j off : Nat} {x : X} : stI sl (.pe i j off) x = i :: (evL sl x).ids := id rfl
theorem evL_t {sl : List (Nat × D)} {n : Nat} : evL sl (.t n) = (lk sl n).getD .undef := id rfl
theorem evL_k {sl : List (Nat × D)} {d : D} : evL sl (.k d) = d := id rfl
def DOPS (P : Program) (cs : List (Nat × Option Nat × List Nat × Bool)) (n0 : Nat) (l : List LI) (i n : Nat) (log : List (Nat × List Nat × List Nat)) (s : St) [K : Kt St] : Prop := WD P cs n0 l i n log s K.go
def CHK (n0 : Nat) (o : Option (Option Nat × List Nat × Bool)) (log : List (Nat × List Nat × List Nat)) (rd mu : List Nat) : Prop := chkE n0 o log rd mu = true
def LOGD (b : Bool) (i : Nat) (rd mu : List Nat) (log : List (Nat × List Nat × List Nat)) : List (Nat × List Nat × List Nat) := if b then (i, rd, mu) :: log else log
theorem DOPS_nil {P : Program} {cs : List (Nat × Option Nat × List Nat × Bool)} {n0 : Nat} {log : List (Nat × List Nat × List Nat)} {i n m : Nat} {sl : List (Nat × D)} {hp : List (Nat × Ent)} {K : Kt St} :
  @DOPS P cs n0 [] i n log ⟨sl, hp, m⟩ K = K.go ⟨sl, hp, n⟩ := id rfl
theorem DOPS_cons {P : Program} {cs : List (Nat × Option Nat × List Nat × Bool)} {n0 : Nat} {log : List (Nat × List Nat × List Nat)} {d : Option Nat} {op : LOp} {g : Option (Nat × Bool)} {l : List LI} {i n m : Nat} {sl : List (Nat × D)} {hp : List (Nat × Ent)} {K : Kt St} :
  @DOPS P cs n0 (⟨d, op, g⟩ :: l) i n log ⟨sl, hp, m⟩ K = (CHK n0 (lk cs i) log (rdI sl hp op) (muI sl op) ∧ @STEP P n ⟨d, op, g⟩ ⟨sl, hp, m⟩ ⟨fun s' => @DOPS P cs n0 l (i + 1) (n + 64) (LOGD (lgE (lk cs i)) i (rdI sl hp op) (muI sl op) log) s' K⟩) := id rfl
theorem CHK_none {n0 : Nat} {log : List (Nat × List Nat × List Nat)} {rd mu : List Nat} : CHK n0 none log rd mu = True := by simp [CHK, chkE]
theorem CHK_some {n0 : Nat} {l : List Nat} {b : Bool} {log : List (Nat × List Nat × List Nat)} {rd mu : List Nat} : CHK n0 (some (none, l, b)) log rd mu = (l.all (chkOne log rd mu) = true) := id rfl
theorem CHK_some2 {n0 m : Nat} {l : List Nat} {b : Bool} {log : List (Nat × List Nat × List Nat)} {rd mu : List Nat} : CHK n0 (some (some m, l, b)) log rd mu = ((rd.all (okId n0 m) && l.all (chkOne log rd mu)) = true) := id rfl
theorem lgE_none : lgE none = false := id rfl
theorem lgE_some {o : Option Nat} {l : List Nat} {b : Bool} : lgE (some (o, l, b)) = b := id rfl
theorem okId_eq {n0 m i : Nat} : okId n0 m i = if i < n0 then true else m / 2 ^ ((i - n0) / 64) % 2 == 1 := id rfl
def chk2 (rd mu : List Nat) : Option (List Nat × List Nat) → Bool
 | some p => disj mu p.1 && disj p.2 rd
 | none => false
theorem chkOne_eq {log : List (Nat × List Nat × List Nat)} {rd mu : List Nat} {j : Nat} : chkOne log rd mu j = chk2 rd mu (lk log j) := id (by unfold chkOne chk2; split <;> simp [*])
theorem chk2_some {rd mu a b : List Nat} : chk2 rd mu (some (a, b)) = (disj mu a && disj b rd) := id rfl
theorem disj_nil {b : List Nat} : disj [] b = true := id rfl
theorem disj_cons {x : Nat} {a b : List Nat} : disj (x :: a) b = (!(b.contains x) && disj a b) := id rfl
theorem LOGD_t {i : Nat} {rd mu : List Nat} {log : List (Nat × List Nat × List Nat)} : LOGD true i rd mu log = (i, rd, mu) :: log := id rfl
theorem LOGD_f {i : Nat} {rd mu : List Nat} {log : List (Nat × List Nat × List Nat)} : LOGD false i rd mu log = log := id rfl
theorem WD_none {P : Program} {n0 : Nat} : ∀ {l : List LI} {i n : Nat} {s : St} {K : St → Prop}, WD P [] n0 l i n [] s K = WOps P l n s K
 | [], _, _, _, _ => rfl
 | x :: l, i, n, s, K => by
  simp only [WD, WOps, lk, chkE, lgE, true_and, Bool.false_eq_true, if_false]
  congr 1; funext s'; exact WD_none
theorem W_dreg0 {P : Program} {q : LX → St → Prop} {ops : List LI} {keep : List Nat} {sl : List (Nat × D)} {hp : List (Nat × Ent)} {n : Nat} :
  @RUN P (.dreg [] ops keep) ⟨q⟩ ⟨sl, hp, n⟩ = @OPS P ops n ⟨sl, hp, n⟩ ⟨fun s' => @END .normal ⟨fil keep s'.sl, s'.hp, s'.nx⟩ ⟨q⟩⟩ := by simp only [RUN, W, WD_none]; rfl
theorem W_dreg {P : Program} {q : LX → St → Prop} {c : Nat × Option Nat × List Nat × Bool} {cs : List (Nat × Option Nat × List Nat × Bool)} {ops : List LI} {keep : List Nat} {sl : List (Nat × D)} {hp : List (Nat × Ent)} {n : Nat} :
  @RUN P (.dreg (c :: cs) ops keep) ⟨q⟩ ⟨sl, hp, n⟩ = @DOPS P (c :: cs) n ops 0 n [] ⟨sl, hp, n⟩ ⟨fun s' => @END .normal ⟨fil keep s'.sl, s'.hp, s'.nx⟩ ⟨q⟩⟩ := by simp only [RUN, W]; rfl
theorem hd_int {k : IntKind} {m : Int} : D.hd (.int k m : D) = [] := id rfl
theorem rch1_int {hp : List (Nat × Ent)} {k : IntKind} {m : Int} : D.rch1 hp (.int k m : D) = [] := id rfl
theorem rch_int {hp : List (Nat × Ent)} {k : IntKind} {m : Int} : D.rch hp (.int k m : D) = [] := id rfl
theorem caps_int {k : IntKind} {m : Int} : capsOf (.int k m : D) = [] := id rfl
theorem hd_bool {b : Bool} : D.hd (.bool b : D) = [] := id rfl
theorem rch1_bool {hp : List (Nat × Ent)} {b : Bool} : D.rch1 hp (.bool b : D) = [] := id rfl
theorem rch_bool {hp : List (Nat × Ent)} {b : Bool} : D.rch hp (.bool b : D) = [] := id rfl
theorem caps_bool {b : Bool} : capsOf (.bool b : D) = [] := id rfl
theorem hd_nl {z : Nat} : D.hd (.nl z : D) = [] := id rfl
theorem rch1_nl {hp : List (Nat × Ent)} {z : Nat} : D.rch1 hp (.nl z : D) = [] := id rfl
theorem rch_nl {hp : List (Nat × Ent)} {z : Nat} : D.rch hp (.nl z : D) = [] := id rfl
theorem caps_nl {z : Nat} : capsOf (.nl z : D) = [] := id rfl
theorem hd_lst {z : Nat} {xs : List D} : D.hd (.lst z xs : D) = [] := id rfl
theorem rch1_lst {hp : List (Nat × Ent)} {z : Nat} {xs : List D} : D.rch1 hp (.lst z xs : D) = [] := id rfl
theorem rch_lst {hp : List (Nat × Ent)} {z : Nat} {xs : List D} : D.rch hp (.lst z xs : D) = [] := id rfl
theorem caps_lst {z : Nat} {xs : List D} : capsOf (.lst z xs : D) = [] := id rfl
theorem hd_arr {z : Nat} {xs : List D} : D.hd (.arr z xs : D) = [] := id rfl
theorem rch1_arr {hp : List (Nat × Ent)} {z : Nat} {xs : List D} : D.rch1 hp (.arr z xs : D) = [] := id rfl
theorem rch_arr {hp : List (Nat × Ent)} {z : Nat} {xs : List D} : D.rch hp (.arr z xs : D) = [] := id rfl
theorem caps_arr {z : Nat} {xs : List D} : capsOf (.arr z xs : D) = [] := id rfl
theorem hd_agg {cs : List D} : D.hd (.agg cs : D) = [] := id rfl
theorem rch1_agg {hp : List (Nat × Ent)} {cs : List D} : D.rch1 hp (.agg cs : D) = cs.flatMap D.ids0 := id rfl
theorem rch_agg {hp : List (Nat × Ent)} {cs : List D} : D.rch hp (.agg cs : D) = cs.flatMap D.ids0 := id rfl
theorem caps_agg {cs : List D} : capsOf (.agg cs : D) = [] := id rfl
theorem hd_tup {cs : List D} : D.hd (.tup cs : D) = [] := id rfl
theorem rch1_tup {hp : List (Nat × Ent)} {cs : List D} : D.rch1 hp (.tup cs : D) = [] := id rfl
theorem rch_tup {hp : List (Nat × Ent)} {cs : List D} : D.rch hp (.tup cs : D) = [] := id rfl
theorem caps_tup {cs : List D} : capsOf (.tup cs : D) = [] := id rfl
theorem hd_ref {cs : List D} : D.hd (.ref cs : D) = [] := id rfl
theorem rch1_ref {hp : List (Nat × Ent)} {cs : List D} : D.rch1 hp (.ref cs : D) = [] := id rfl
theorem rch_ref {hp : List (Nat × Ent)} {cs : List D} : D.rch hp (.ref cs : D) = [] := id rfl
theorem caps_ref {cs : List D} : capsOf (.ref cs : D) = [] := id rfl
theorem hd_box {cs : List D} : D.hd (.box cs : D) = [] := id rfl
theorem rch1_box {hp : List (Nat × Ent)} {cs : List D} : D.rch1 hp (.box cs : D) = [] := id rfl
theorem rch_box {hp : List (Nat × Ent)} {cs : List D} : D.rch hp (.box cs : D) = [] := id rfl
theorem caps_box {cs : List D} : capsOf (.box cs : D) = [] := id rfl
theorem hd_clo {f : Nat} {cs : List D} : D.hd (.clo f cs : D) = [] := id rfl
theorem rch1_clo {hp : List (Nat × Ent)} {f : Nat} {cs : List D} : D.rch1 hp (.clo f cs : D) = [] := id rfl
theorem rch_clo {hp : List (Nat × Ent)} {f : Nat} {cs : List D} : D.rch hp (.clo f cs : D) = cs.flatMap (D.rch1 hp) := id rfl
theorem caps_clo {f : Nat} {cs : List D} : capsOf (.clo f cs : D) = cs := id rfl
theorem hd_sl {i lo len : Nat} : D.hd (.sl i lo len : D) = [i] := id rfl
theorem rch1_sl {hp : List (Nat × Ent)} {i lo len : Nat} : D.rch1 hp (.sl i lo len : D) = [i] := id rfl
theorem rch_sl {hp : List (Nat × Ent)} {i lo len : Nat} : D.rch hp (.sl i lo len : D) = [i] := id rfl
theorem caps_sl {i lo len : Nat} : capsOf (.sl i lo len : D) = [] := id rfl
theorem hd_pt {i off : Nat} : D.hd (.pt i off : D) = [i] := id rfl
theorem rch1_pt {hp : List (Nat × Ent)} {i off : Nat} : D.rch1 hp (.pt i off : D) = i :: rchB (lk hp i) := id rfl
theorem rch_pt {hp : List (Nat × Ent)} {i off : Nat} : D.rch hp (.pt i off : D) = i :: rchB (lk hp i) := id rfl
theorem caps_pt {i off : Nat} : capsOf (.pt i off : D) = [] := id rfl
theorem hd_pe {i j off : Nat} : D.hd (.pe i j off : D) = [i] := id rfl
theorem rch1_pe {hp : List (Nat × Ent)} {i j off : Nat} : D.rch1 hp (.pe i j off : D) = [] := id rfl
theorem rch_pe {hp : List (Nat × Ent)} {i j off : Nat} : D.rch hp (.pe i j off : D) = [] := id rfl
theorem caps_pe {i j off : Nat} : capsOf (.pe i j off : D) = [] := id rfl
theorem hd_undef  : D.hd (.undef : D) = [] := id rfl
theorem rch1_undef {hp : List (Nat × Ent)}  : D.rch1 hp (.undef : D) = [] := id rfl
theorem rch_undef {hp : List (Nat × Ent)}  : D.rch hp (.undef : D) = [] := id rfl
theorem caps_undef  : capsOf (.undef : D) = [] := id rfl
theorem rdI_mov {sl : List (Nat × D)} {hp : List (Nat × Ent)} {x} : rdI sl hp (.mov x) = [] := id rfl
theorem muI_mov {sl : List (Nat × D)} {x} : muI sl (.mov x) = [] := id rfl
theorem rdI_pick {sl : List (Nat × D)} {hp : List (Nat × Ent)} {a b c} : rdI sl hp (.pick a b c) = [] := id rfl
theorem muI_pick {sl : List (Nat × D)} {a b c} : muI sl (.pick a b c) = [] := id rfl
theorem rdI_alloc {sl : List (Nat × D)} {hp : List (Nat × Ent)} {z} : rdI sl hp (.alloc z) = [] := id rfl
theorem muI_alloc {sl : List (Nat × D)} {z} : muI sl (.alloc z) = [] := id rfl
theorem rdI_bx {sl : List (Nat × D)} {hp : List (Nat × Ent)} {x} : rdI sl hp (.bx x) = [] := id rfl
theorem muI_bx {sl : List (Nat × D)} {x} : muI sl (.bx x) = [] := id rfl
theorem rdI_build {sl : List (Nat × D)} {hp : List (Nat × Ent)} {z ps} : rdI sl hp (.build z ps) = [] := id rfl
theorem muI_build {sl : List (Nat × D)} {z ps} : muI sl (.build z ps) = [] := id rfl
theorem rdI_bin {sl : List (Nat × D)} {hp : List (Nat × Ent)} {o x y} : rdI sl hp (.bin o x y) = [] := id rfl
theorem muI_bin {sl : List (Nat × D)} {o x y} : muI sl (.bin o x y) = [] := id rfl
theorem rdI_eqA {sl : List (Nat × D)} {hp : List (Nat × Ent)} {m g x y} : rdI sl hp (.eqA m g x y) = [] := id rfl
theorem muI_eqA {sl : List (Nat × D)} {m g x y} : muI sl (.eqA m g x y) = [] := id rfl
theorem rdI_eqB {sl : List (Nat × D)} {hp : List (Nat × Ent)} {g x y} : rdI sl hp (.eqB g x y) = [] := id rfl
theorem muI_eqB {sl : List (Nat × D)} {g x y} : muI sl (.eqB g x y) = [] := id rfl
theorem rdI_not {sl : List (Nat × D)} {hp : List (Nat × Ent)} {x} : rdI sl hp (.not x) = [] := id rfl
theorem muI_not {sl : List (Nat × D)} {x} : muI sl (.not x) = [] := id rfl
theorem rdI_conv {sl : List (Nat × D)} {hp : List (Nat × Ent)} {k x} : rdI sl hp (.conv k x) = [] := id rfl
theorem muI_conv {sl : List (Nat × D)} {k x} : muI sl (.conv k x) = [] := id rfl
theorem rdI_mkf {sl : List (Nat × D)} {hp : List (Nat × Ent)} {f l} : rdI sl hp (.mkf f l) = [] := id rfl
theorem muI_mkf {sl : List (Nat × D)} {f l} : muI sl (.mkf f l) = [] := id rfl
theorem rdI_mkn {sl : List (Nat × D)} {hp : List (Nat × Ent)} {a b x} : rdI sl hp (.mkn a b x) = [] := id rfl
theorem muI_mkn {sl : List (Nat × D)} {a b x} : muI sl (.mkn a b x) = [] := id rfl
theorem rdI_tk {sl : List (Nat × D)} {hp : List (Nat × Ent)} {x} : rdI sl hp (.tk x) = (evL sl x).hd := id rfl
theorem muI_tk {sl : List (Nat × D)} {x} : muI sl (.tk x) = (evL sl x).hd := id rfl
theorem rdI_pu {sl : List (Nat × D)} {hp : List (Nat × Ent)} {a x} : rdI sl hp (.pu a x) = (evL sl a).hd ++ (evL sl x).hd := id rfl
theorem muI_pu {sl : List (Nat × D)} {a x} : muI sl (.pu a x) = (evL sl a).hd ++ (evL sl x).hd := id rfl
theorem rdI_makeSl {sl : List (Nat × D)} {hp : List (Nat × Ent)} {a b z x} : rdI sl hp (.makeSl a b z x) = [] := id rfl
theorem muI_makeSl {sl : List (Nat × D)} {a b z x} : muI sl (.makeSl a b z x) = [] := id rfl
theorem rdI_fad {sl : List (Nat × D)} {hp : List (Nat × Ent)} {a x} : rdI sl hp (.fad a x) = [] := id rfl
theorem muI_fad {sl : List (Nat × D)} {a x} : muI sl (.fad a x) = [] := id rfl
theorem rdI_fld {sl : List (Nat × D)} {hp : List (Nat × Ent)} {a b c x} : rdI sl hp (.fld a b c x) = [] := id rfl
theorem muI_fld {sl : List (Nat × D)} {a b c x} : muI sl (.fld a b c x) = [] := id rfl
theorem rdI_iaa {sl : List (Nat × D)} {hp : List (Nat × Ent)} {a b x y} : rdI sl hp (.iaa a b x y) = [] := id rfl
theorem muI_iaa {sl : List (Nat × D)} {a b x y} : muI sl (.iaa a b x y) = [] := id rfl
theorem rdI_idx {sl : List (Nat × D)} {hp : List (Nat × Ent)} {a b c x y} : rdI sl hp (.idx a b c x y) = [] := id rfl
theorem muI_idx {sl : List (Nat × D)} {a b c x y} : muI sl (.idx a b c x y) = [] := id rfl
theorem rdI_len {sl : List (Nat × D)} {hp : List (Nat × Ent)} {x} : rdI sl hp (.len x) = [] := id rfl
theorem muI_len {sl : List (Nat × D)} {x} : muI sl (.len x) = [] := id rfl
theorem rdI_cap {sl : List (Nat × D)} {hp : List (Nat × Ent)} {x} : rdI sl hp (.cap x) = [] := id rfl
theorem muI_cap {sl : List (Nat × D)} {x} : muI sl (.cap x) = [] := id rfl
theorem rdI_clr {sl : List (Nat × D)} {hp : List (Nat × Ent)} {a x} : rdI sl hp (.clr a x) = (evL sl x).hd := id rfl
theorem muI_clr {sl : List (Nat × D)} {a x} : muI sl (.clr a x) = (evL sl x).hd := id rfl
theorem rdI_appz {sl : List (Nat × D)} {hp : List (Nat × Ent)} {a b z x y} : rdI sl hp (.appz a b z x y) = [] := id rfl
theorem muI_appz {sl : List (Nat × D)} {a b z x y} : muI sl (.appz a b z x y) = [] := id rfl
theorem rdI_bad {sl : List (Nat × D)} {hp : List (Nat × Ent)}  : rdI sl hp .bad = [] := id rfl
theorem muI_bad {sl : List (Nat × D)}  : muI sl .bad = [] := id rfl
theorem rdI_mn {sl : List (Nat × D)} {hp : List (Nat × Ent)} {l} : rdI sl hp (.mn l) = [] := id rfl
theorem muI_mn {sl : List (Nat × D)} {l} : muI sl (.mn l) = [] := id rfl
theorem rdI_mx {sl : List (Nat × D)} {hp : List (Nat × Ent)} {l} : rdI sl hp (.mx l) = [] := id rfl
theorem muI_mx {sl : List (Nat × D)} {l} : muI sl (.mx l) = [] := id rfl
theorem rdI_isnil {sl : List (Nat × D)} {hp : List (Nat × Ent)} {g x} : rdI sl hp (.isnil g x) = [] := id rfl
theorem muI_isnil {sl : List (Nat × D)} {g x} : muI sl (.isnil g x) = [] := id rfl
theorem rdI_ext {sl : List (Nat × D)} {hp : List (Nat × Ent)} {x i} : rdI sl hp (.ext x i) = [] := id rfl
theorem muI_ext {sl : List (Nat × D)} {x i} : muI sl (.ext x i) = [] := id rfl
theorem rdI_load {sl : List (Nat × D)} {hp : List (Nat × Ent)} {a b x} : rdI sl hp (.load a b x) = (evL sl x).hd := id rfl
theorem muI_load {sl : List (Nat × D)} {a b x} : muI sl (.load a b x) = [] := id rfl
theorem rdI_slc {sl : List (Nat × D)} {hp : List (Nat × Ent)} {a x y z} : rdI sl hp (.slc a x y z) = (evL sl x).hd := id rfl
theorem muI_slc {sl : List (Nat × D)} {a x y z} : muI sl (.slc a x y z) = [] := id rfl
theorem rdI_iad {sl : List (Nat × D)} {hp : List (Nat × Ent)} {a x y} : rdI sl hp (.iad a x y) = (evL sl x).hd := id rfl
theorem muI_iad {sl : List (Nat × D)} {a x y} : muI sl (.iad a x y) = [] := id rfl
theorem rdI_store {sl : List (Nat × D)} {hp : List (Nat × Ent)} {a x y} : rdI sl hp (.store a x y) = stI sl (evL sl x) y := id rfl
theorem muI_store {sl : List (Nat × D)} {a x y} : muI sl (.store a x y) = stI sl (evL sl x) y := id rfl
theorem rdI_app {sl : List (Nat × D)} {hp : List (Nat × Ent)} {a b x y} : rdI sl hp (.app a b x y) = (evL sl x).hd ++ (evL sl y).hd := id rfl
theorem muI_app {sl : List (Nat × D)} {a b x y} : muI sl (.app a b x y) = (evL sl x).hd := id rfl
theorem rdI_buildSl {sl : List (Nat × D)} {hp : List (Nat × Ent)} {a b z c ps} : rdI sl hp (.buildSl a b z c ps) = ps.flatMap fun p => (evL sl p.2).ids := id rfl
theorem muI_buildSl {sl : List (Nat × D)} {a b z c ps} : muI sl (.buildSl a b z c ps) = ps.flatMap fun p => (evL sl p.2).ids := id rfl
theorem rdI_call {sl : List (Nat × D)} {hp : List (Nat × Ent)} {f l md} : rdI sl hp (.call f l md) = l.flatMap fun x => (evL sl x).rch hp := id rfl
theorem muI_call {sl : List (Nat × D)} {f l md} : muI sl (.call f l md) = l.flatMap fun x => (evL sl x).ids := id rfl
theorem rdI_callv {sl : List (Nat × D)} {hp : List (Nat × Ent)} {g l} : rdI sl hp (.callv g l) = l.flatMap (fun x => (evL sl x).rch hp) ++ (capsOf (evL sl g)).flatMap (D.rch hp) := id rfl
theorem muI_callv {sl : List (Nat × D)} {g l} : muI sl (.callv g l) = l.flatMap (fun x => (evL sl x).ids) ++ (capsOf (evL sl g)).flatMap D.ids := id rfl
abbrev Fn := String → Nat
abbrev LL := List LI
def qm (d a : Nat) : LI := ⟨some d, .mov (.t a), none⟩
theorem qm_eq {d a} : qm d a = ⟨some d, .mov (.t a), none⟩ := id rfl
def qi (d : Nat) (n : Int) : LI := ⟨some d, .mov (.k (.int .i64 n)), none⟩
theorem qi_eq {d n} : qi d n = ⟨some d, .mov (.k (.int .i64 n)), none⟩ := id rfl
def qb (d : Nat) (b : Bool) : LI := ⟨some d, .mov (.k (.bool b)), none⟩
theorem qb_eq {d b} : qb d b = ⟨some d, .mov (.k (.bool b)), none⟩ := id rfl
def qn (d n : Nat) : LI := ⟨some d, .mov (.k (.nl n)), none⟩
theorem qn_eq {d n} : qn d n = ⟨some d, .mov (.k (.nl n)), none⟩ := id rfl
def ql (d n a : Nat) : LI := ⟨some d, .load false n (.t a), none⟩
theorem ql_eq {d n a} : ql d n a = ⟨some d, .load false n (.t a), none⟩ := id rfl
def qL (d n a : Nat) : LI := ⟨some d, .load true n (.t a), none⟩
theorem qL_eq {d n a} : qL d n a = ⟨some d, .load true n (.t a), none⟩ := id rfl
def qf (d o a : Nat) : LI := ⟨some d, .fad o (.t a), none⟩
theorem qf_eq {d o a} : qf d o a = ⟨some d, .fad o (.t a), none⟩ := id rfl
def qs (n a b : Nat) : LI := ⟨none, .store n (.t a) (.t b), none⟩
theorem qs_eq {n a b} : qs n a b = ⟨none, .store n (.t a) (.t b), none⟩ := id rfl
def qd (d s a i : Nat) : LI := ⟨some d, .iad s (.t a) (.t i), none⟩
theorem qd_eq {d s a i} : qd d s a i = ⟨some d, .iad s (.t a) (.t i), none⟩ := id rfl
def qo (o : BinOp) (d a b : Nat) : LI := ⟨some d, .bin o (.t a) (.t b), none⟩
theorem qo_eq {o d a b} : qo o d a b = ⟨some d, .bin o (.t a) (.t b), none⟩ := id rfl
def qk (o : BinOp) (d a : Nat) (n : Int) : LI := ⟨some d, .bin o (.t a) (.k (.int .i64 n)), none⟩
theorem qk_eq {o d a n} : qk o d a n = ⟨some d, .bin o (.t a) (.k (.int .i64 n)), none⟩ := id rfl
def qx (d a i : Nat) : LI := ⟨some d, .ext (.t a) i, none⟩
theorem qx_eq {d a i} : qx d a i = ⟨some d, .ext (.t a) i, none⟩ := id rfl
def qz (d a : Nat) : LI := ⟨some d, .len (.t a), none⟩
theorem qz_eq {d a} : qz d a = ⟨some d, .len (.t a), none⟩ := id rfl
def qB (d a : Nat) : LI := ⟨some d, .bx (.t a), none⟩
theorem qB_eq {d a} : qB d a = ⟨some d, .bx (.t a), none⟩ := id rfl
def qv (d a : Nat) : LI := ⟨some d, .not (.t a), none⟩
theorem qv_eq {d a} : qv d a = ⟨some d, .not (.t a), none⟩ := id rfl
def qp (d s b a c : Nat) : LI := ⟨some d, .app s b (.t a) (.t c), none⟩
theorem qp_eq {d s b a c} : qp d s b a c = ⟨some d, .app s b (.t a) (.t c), none⟩ := id rfl
def qP (d c a : Nat) : LI := ⟨some d, .pick (.t c) (.t a) (.k (.bool false)), none⟩
theorem qP_eq {d c a} : qP d c a = ⟨some d, .pick (.t c) (.t a) (.k (.bool false)), none⟩ := id rfl
def qQ (d c a : Nat) : LI := ⟨some d, .pick (.t c) (.k (.bool true)) (.t a), none⟩
theorem qQ_eq {d c a} : qQ d c a = ⟨some d, .pick (.t c) (.k (.bool true)) (.t a), none⟩ := id rfl
def qc (d f : Nat) (l : List X) : LI := ⟨some d, .call f l [], none⟩
theorem qc_eq {d f l} : qc d f l = ⟨some d, .call f l [], none⟩ := id rfl
def qu (d : Nat) (z : List D) (l : List (Nat × Nat × X)) : LI := ⟨some d, .build z l, none⟩
theorem qu_eq {d z l} : qu d z l = ⟨some d, .build z l, none⟩ := id rfl
def qa (d : Nat) (z : List D) : LI := ⟨some d, .alloc z, none⟩
theorem qa_eq {d z} : qa d z = ⟨some d, .alloc z, none⟩ := id rfl
def qg (t : Nat) (w : Bool) (i : LI) : LI := ⟨i.dst, i.op, some (t, w)⟩
theorem qg_eq {t w d op g} : qg t w ⟨d, op, g⟩ = ⟨d, op, some (t, w)⟩ := id rfl
end Go.Am
