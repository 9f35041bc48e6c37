/- Functions under names, and their contracts over a loaded program. -/
import Derived.Test.YtpdjpdfkacpnnaaAmEv
import Derived.Test.YtpdjpdfkacpnnaaAmRw
namespace Go.Am
open Go
def tab (l : List (Nat × List Nat)) (n : Nat) : List Nat := (lk l n).getD []
def LC.regs : LC → List (List Nat)
 | .seq a b => a.regs ++ b.regs
 | .reg _ k => [k]
 | .dreg _ _ k => [k]
 | .cond _ a b => a.regs ++ b.regs
 | .block _ a => a.regs
 | .loop _ a => a.regs
 | _ => []
def LC.lps : Nat → LC → List (Nat × List Nat)
 | n, .seq a b => a.lps n ++ b.lps (n + a.regs.length)
 | n, .cond _ a b => a.lps n ++ b.lps (n + a.regs.length)
 | n, .block _ a => a.lps n
 | n, .loop k a => (n, k) :: a.lps n
 | _, _ => []
def hOf (o : List Nat) (c : LC) : Hints := ⟨o, fun _ => [], fun n => (c.regs[n]?).getD [], tab (c.lps 0)⟩
def hn (o : List Nat) (r l : List (Nat × List Nat)) : Hints := ⟨o, fun _ => [], tab r, tab l⟩
def lkS : List (String × Nat) → String → Nat
 | [], _ => 0
 | (s, n) :: l, t => if s == t then n else lkS l t
def lkM (l : List (Nat × List Md)) (n : Nat) : List Md := (lk l n).getD []
def wMd (h : Hints) (md : Nat → List Md) : Hints := ⟨h.fx, md, h.reg, h.keep⟩
theorem FC.ofO {P : Program} {f : Nat} {fn : Func} {lc : LC} {rs : List RV} {args : List D} {r : D} {H : Hints} {n : Nat} {outs : List Nat} {os' : List (Nat × D)} (hf : P.funcs[f]? = some fn) (hmx : P.follows .mixedOrders = true)
  (hc : fn.body.bind (cC P H fn.ntmps) = some lc) (hrs : rsOf P fn.results.toList = some rs) (hsm : ((fn.name != "runtime.NumGoroutine") && decide (n ≤ fn.ntmps) && decide (H.fx = outs) && outs.all (fun i => decide (i < n))) = true)
  (hn : args.length = n) (hok : args.all okA1 = true) (hW : W P lc (Done rs outs r os') (init args)) : FC P f args r os' := by
 obtain ⟨body, hb, hc⟩ := Option.bind_eq_some_iff.1 hc
 simp only [Bool.and_eq_true, bne_iff_ne, ne_eq, decide_eq_true_eq, List.all_eq_true] at hsm
 exact FC.of hf (by simpa using hsm.1.1.1) hb hmx hsm.1.2 hc hrs (by omega) (fun i hi => by have := hsm.2 i hi; omega) hok (W_mono _ (fun _ _ h => h.any) hW)
theorem FC.of' {P : Program} {f : Nat} {fn : Func} {lc : LC} {rs : List RV} {args : List D} {r : D} {H : Hints} {n : Nat} (hf : P.funcs[f]? = some fn) (hmx : P.follows .mixedOrders = true)
  (hc : fn.body.bind (cC P H fn.ntmps) = some lc) (hrs : rsOf P fn.results.toList = some rs) (hsm : ((fn.name != "runtime.NumGoroutine") && decide (n ≤ fn.ntmps) && H.fx.isEmpty) = true)
  (hn : args.length = n) (hok : args.all okA1 = true) (hW : W P lc (Done rs [] r []) (init args)) : FC P f args r [] := by
 obtain ⟨body, hb, hc⟩ := Option.bind_eq_some_iff.1 hc
 simp only [Bool.and_eq_true, bne_iff_ne, ne_eq, decide_eq_true_eq, List.isEmpty_iff] at hsm
 exact FC.of hf (by simpa using hsm.1.1) hb hmx hsm.2 hc hrs (by omega) (by simp) hok (W_mono _ (fun _ _ h => h.any) hW)
theorem FC.ofFO {P : Program} {f : Nat} {fn : Func} {lc : LC} {rs : List RV} {args : List D} {r : D} {H : Hints} {n : Nat} {outs : List Nat} {os' : List (Nat × D)} (hf : P.funcs[f]? = some fn) (hmx : P.follows .mixedOrders = true)
  (hc : fn.body.bind (cC P H fn.ntmps) = some lc) (hrs : rsOf P fn.results.toList = some rs) (hsm : ((fn.name != "runtime.NumGoroutine") && decide (n ≤ fn.ntmps) && decide (H.fx = outs) && outs.all (fun i => decide (i < n))) = true)
  (hn : args.length = n) (hok : args.all okA1 = true) (hW : W P lc (DoneF rs outs r os') (init args)) : FC P f args r os' := by
 obtain ⟨body, hb, hc⟩ := Option.bind_eq_some_iff.1 hc
 simp only [Bool.and_eq_true, bne_iff_ne, ne_eq, decide_eq_true_eq, List.all_eq_true] at hsm
 exact FC.of hf (by simpa using hsm.1.1.1) hb hmx hsm.1.2 hc hrs (by omega) (fun i hi => by have := hsm.2 i hi; omega) hok (W_mono _ (fun _ _ h => h.any) hW)
theorem FC.ofF {P : Program} {f : Nat} {fn : Func} {lc : LC} {rs : List RV} {args : List D} {r : D} {H : Hints} {n : Nat} (hf : P.funcs[f]? = some fn) (hmx : P.follows .mixedOrders = true)
  (hc : fn.body.bind (cC P H fn.ntmps) = some lc) (hrs : rsOf P fn.results.toList = some rs) (hsm : ((fn.name != "runtime.NumGoroutine") && decide (n ≤ fn.ntmps) && H.fx.isEmpty) = true)
  (hn : args.length = n) (hok : args.all okA1 = true) (hW : W P lc (DoneF rs [] r []) (init args)) : FC P f args r [] := by
 obtain ⟨body, hb, hc⟩ := Option.bind_eq_some_iff.1 hc
 simp only [Bool.and_eq_true, bne_iff_ne, ne_eq, decide_eq_true_eq, List.isEmpty_iff] at hsm
 exact FC.of hf (by simpa using hsm.1.1) hb hmx hsm.2 hc hrs (by omega) (by simp) hok (W_mono _ (fun _ _ h => h.any) hW)
def gt {α : Type} [Inhabited α] (l : List α) (j : Int) : α := l.getD j.toNat default
theorem gt_nat {α : Type} [Inhabited α] {l : List α} {i : Nat} (h : i < l.length) : gt l (i : Int) = l[i] := by simp [gt, h]
theorem get_gt {α : Type} [Inhabited α] {l : List α} {j : Int} (h0 : 0 ≤ j) (h : j < l.length) : l[j.toNat]? = some (gt l j) := by
 have : j.toNat < l.length := by omega
 simp [gt, this]
theorem ints_at {l : List Int} {j : Int} (h0 : 0 ≤ j) (h : j < l.length) : (ints l)[j.toNat]? = some (.int .i64 (gt l j)) := by
 rw [ints_get, get_gt h0 h]; rfl
theorem ints_atn {l : List Int} {i : Nat} (h : i < l.length) : (ints l)[i]? = some (.int .i64 (gt l i)) := by
 have := ints_at (l := l) (j := i) (by omega) (by omega)
 simpa using this
structure E where
 t : Int
 f : Int
 o : Int
 deriving DecidableEq, Inhabited
def edD (x : E) : D := .agg [.int .i64 x.t, .int .i64 x.f, .int .i64 x.o]
def eds (l : List E) : List D := l.map edD
theorem eds_length (l : List E) : (eds l).length = l.length := by simp [eds]
theorem eds_snoc (l : List E) (a b c : Int) : eds l ++ [.agg [.int .i64 a, .int .i64 b, .int .i64 c]] = eds (l ++ [⟨a, b, c⟩]) := by simp [eds, edD]
theorem eds_app (l m : List E) : eds l ++ eds m = eds (l ++ m) := by simp [eds]
theorem ints_app (l m : List Int) : ints l ++ ints m = ints (l ++ m) := by simp [ints]
theorem flat_eds (l : List E) : (eds l).all D.flatE = true := by simp [eds, edD, D.flatE, D.flat0]
theorem eds_at {l : List E} {j : Int} (h0 : 0 ≤ j) (h : j < l.length) : (eds l)[j.toNat]? = some (.agg [.int .i64 (gt l j).t, .int .i64 (gt l j).f, .int .i64 (gt l j).o]) := by
 unfold eds
 rw [List.getElem?_map, get_gt h0 h]; rfl
theorem eds_atn {l : List E} {i : Nat} (h : i < l.length) : (eds l)[i]? = some (.agg [.int .i64 (gt l i).t, .int .i64 (gt l i).f, .int .i64 (gt l i).o]) := by
 have := eds_at (l := l) (j := i) (by omega) (by omega)
 simpa using this
theorem ints_set {l : List Int} {i : Nat} {x : Int} : (ints l).set i (.int .i64 x) = ints (l.set i x) := by simp [ints, List.map_set]
theorem eds_set {l : List E} {i : Nat} {a b c : Int} : (eds l).set i (.agg [.int .i64 a, .int .i64 b, .int .i64 c]) = eds (l.set i ⟨a, b, c⟩) := by simp [eds, List.map_set, edD]
theorem ints_rep {n : Nat} {x : Int} : List.replicate n (.int .i64 x) = ints (List.replicate n x) := by simp [ints]
theorem eds_rep {n : Nat} {a b c : Int} : List.replicate n (.agg [.int .i64 a, .int .i64 b, .int .i64 c]) = eds (List.replicate n ⟨a, b, c⟩) := by simp [eds, edD]
theorem nilI : ([] : List D) = ints [] := id rfl
theorem ints_take {l : List Int} {n : Nat} : (ints l).take n = ints (l.take n) := by simp [ints, List.map_take]
theorem ints_drop {l : List Int} {n : Nat} : (ints l).drop n = ints (l.drop n) := by simp [ints, List.map_drop]
theorem eds_take {l : List E} {n : Nat} : (eds l).take n = eds (l.take n) := by simp [eds, List.map_take]
theorem eds_drop {l : List E} {n : Nat} : (eds l).drop n = eds (l.drop n) := by simp [eds, List.map_drop]
def okC2 : D → Bool
 | .int .. | .bool _ | .lst .. | .ref _ => true
 | _ => false
def NilW : List D → List D → Prop
 | [], [] => True
 | a :: l, b :: l' => (a = b ∨ ∃ n m, a = .nl n ∧ (b = .lst m [] ∨ b = .arr m [])) ∧ NilW l l'
 | _, _ => False
theorem DRs_nils {w : World} {I : Nat → Prop} : ∀ {a b : List D} {vs : List Value} {os : List Nat}, NilW a b → DRs w I a vs os → DRs w I b vs os
 | [], [], _, _, _, h => h
 | [], _ :: _, _, _, h, _ => h.elim
 | _ :: _, [], _, _, h, _ => h.elim
 | x :: a, y :: b, vs, os, h, k => by
  obtain ⟨h1, h2⟩ := h
  simp only [DRs] at k ⊢
  obtain ⟨v, vs', o, o', rfl, rfl, k1, k2⟩ := k
  refine ⟨v, vs', o, o', rfl, rfl, ?_, DRs_nils h2 k2⟩
  rcases h1 with rfl | ⟨n, m, rfl, rfl | rfl⟩
  ·exact k1
  ·simp only [DR] at k1 ⊢
   exact ⟨k1.2, by simp [maxL], .inl ⟨⟨_, k1.1⟩, trivial⟩⟩
  ·simp only [DR] at k1 ⊢
   exact ⟨by simp [maxL], .inl ⟨k1.1, trivial, k1.2⟩⟩
theorem FC.nils {P : Program} {f : Nat} {a b : List D} {r : D} {outs : List (Nat × D)} (h : FC P f b r outs) (k : NilW a b) : FC P f a r outs :=
 ⟨h.1, fun w I vs os h1 h2 h3 h4 => h.2 w I vs os h1 h2 h3 (DRs_nils k h4)⟩
theorem caps_lend {cs : List D} (h : cs.all okC2 = true) (hp : List (Nat × Ent)) : allO (lend1 hp) cs = some cs := by
 induction cs with
 | nil => rfl
 | cons c cs ih =>
  simp only [List.all_cons, Bool.and_eq_true] at h
  have : lend1 hp c = some c := by cases c <;> simp [okC2] at h <;> rfl
  simp only [allO, this, ih h.2]
theorem caps_lend2 {cs : List D} (h : cs.all okC2 = true) (hp : List (Nat × Ent)) : allO (lend hp) cs = some cs := by
 induction cs with
 | nil => rfl
 | cons c cs ih =>
  simp only [List.all_cons, Bool.and_eq_true] at h
  have : lend hp c = some c := by cases c <;> simp [okC2] at h <;> rfl
  simp only [allO, this, ih h.2]
theorem caps_ren {cs : List D} (h : cs.all okC2 = true) (hp : List (Nat × Ent)) (n : NS) : renL (ren1 hp) n cs = (cs, n) := by
 induction cs generalizing n with
 | nil => rfl
 | cons c cs ih =>
  simp only [List.all_cons, Bool.and_eq_true] at h
  have : ∀ n, ren1 hp n c = (c, n) := by intro n; cases c <;> simp [okC2] at h <;> rfl
  simp only [renL, this, ih h.2]
theorem caps_ok {cs : List D} (h : cs.all okC2 = true) : cs.all okCap = true := by
 rw [List.all_eq_true] at *
 intro c hc
 have := h c hc
 cases c <;> simp [okC2] at this <;> rfl
theorem bran_nby {t : Bool} {a b : Kp} (h : t = false → a.p) (k : t = true → b.p) : @BRAN (some (.bool (!t))) a b := by
 cases t
 ·exact ⟨fun _ => h rfl, fun e => absurd e (by simp)⟩
 ·exact ⟨fun e => absurd e (by simp), fun _ => k rfl⟩
theorem dec_true {p : Prop} [Decidable p] (h : p) : decide p = true := decide_eq_true h
theorem ite_ok {α : Type} {c : Prop} [Decidable c] {a b : α} (h : c) : (if c then a else b) = a := if_pos h
theorem okC2_int {k : IntKind} {x : Int} : okC2 (.int k x) = true := id rfl
theorem okC2_bool {b : Bool} : okC2 (.bool b) = true := id rfl
theorem okC2_lst {n : Nat} {l : List D} : okC2 (.lst n l) = true := id rfl
theorem okC2_ref {l : List D} : okC2 (.ref l) = true := id rfl
attribute [go_sem] okC2_int okC2_bool okC2_lst okC2_ref Int.natCast_nonneg decide_true decide_false not_true_eq_false not_false_eq_true ints_at eds_length eds_snoc eds_app ints_app flat_eds eds_at ints_set eds_set ints_rep eds_rep ints_take ints_drop eds_take eds_drop Int.toNat_natCast List.length_append List.length_set List.length_replicate cells_agg
attribute [go_sem] List.getElem?_cons_zero List.getElem?_cons_succ List.getElem?_nil
attribute [go_sem low] ite_ok ints_atn eds_atn
end Go.Am
