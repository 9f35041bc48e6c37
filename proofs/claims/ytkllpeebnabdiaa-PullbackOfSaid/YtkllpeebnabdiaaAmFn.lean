/- Functions under names, and their contracts over a loaded program. -/
import Derived.Test.YtkllpeebnabdiaaAmEv
import Derived.Test.YtkllpeebnabdiaaAmRw
namespace Go.Am
open Go

def tab (l : List (Nat × List Nat)) (n : Nat) : List Nat := (lk l n).getD []
def lkS : List (String × Nat) → String → Nat
  | [], _ => 0
  | (s, n) :: l, t => if s == t then n else lkS l t

def lkM (l : List (Nat × List Md)) (n : Nat) : List Md := (lk l n).getD []
def wMd (h : Hints) (md : Nat → List Md) : Hints := ⟨h.fx, md, h.reg, h.keep⟩
theorem FC.ofO {P : Program} {f : Nat} {fn : Func} {lc : LC} {rs : List RV} {args : List D} {r : D} {H : Hints} {n : Nat} {outs : List Nat} {os' : List (Nat × D)} (hf : P.funcs[f]? = some fn) (hmx : P.follows .mixedOrders = true)
    (hc : fn.body.bind (cC P H fn.ntmps) = some lc) (hrs : rsOf P fn.results.toList = some rs) (hsm : ((fn.name != "runtime.NumGoroutine") && decide (n ≤ fn.ntmps) && decide (H.fx = outs) && outs.all (fun i => decide (i < n))) = true)
    (hn : args.length = n) (hok : args.all okA1 = true) (hW : W P lc (Done rs outs r os') (init args)) : FC P f args r os' := by
  obtain ⟨body, hb, hc⟩ := Option.bind_eq_some_iff.1 hc
  simp only [Bool.and_eq_true, bne_iff_ne, ne_eq, decide_eq_true_eq, List.all_eq_true] at hsm
  exact FC.of hf (by simpa using hsm.1.1.1) hb hmx hsm.1.2 hc hrs (by omega) (fun i hi => by have := hsm.2 i hi; omega) hok (W_mono _ (fun _ _ h => h.any) hW)

theorem FC.of' {P : Program} {f : Nat} {fn : Func} {lc : LC} {rs : List RV} {args : List D} {r : D} {H : Hints} {n : Nat} (hf : P.funcs[f]? = some fn) (hmx : P.follows .mixedOrders = true)
    (hc : fn.body.bind (cC P H fn.ntmps) = some lc) (hrs : rsOf P fn.results.toList = some rs) (hsm : ((fn.name != "runtime.NumGoroutine") && decide (n ≤ fn.ntmps) && H.fx.isEmpty) = true)
    (hn : args.length = n) (hok : args.all okA1 = true) (hW : W P lc (Done rs [] r []) (init args)) : FC P f args r [] := by
  obtain ⟨body, hb, hc⟩ := Option.bind_eq_some_iff.1 hc
  simp only [Bool.and_eq_true, bne_iff_ne, ne_eq, decide_eq_true_eq, List.isEmpty_iff] at hsm
  exact FC.of hf (by simpa using hsm.1.1) hb hmx hsm.2 hc hrs (by omega) (by simp) hok (W_mono _ (fun _ _ h => h.any) hW)
theorem FC.ofF {P : Program} {f : Nat} {fn : Func} {lc : LC} {rs : List RV} {args : List D} {r : D} {H : Hints} {n : Nat} (hf : P.funcs[f]? = some fn) (hmx : P.follows .mixedOrders = true)
    (hc : fn.body.bind (cC P H fn.ntmps) = some lc) (hrs : rsOf P fn.results.toList = some rs) (hsm : ((fn.name != "runtime.NumGoroutine") && decide (n ≤ fn.ntmps) && H.fx.isEmpty) = true)
    (hn : args.length = n) (hok : args.all okA1 = true) (hW : W P lc (DoneF rs [] r []) (init args)) : FC P f args r [] := by
  obtain ⟨body, hb, hc⟩ := Option.bind_eq_some_iff.1 hc
  simp only [Bool.and_eq_true, bne_iff_ne, ne_eq, decide_eq_true_eq, List.isEmpty_iff] at hsm
  exact FC.of hf (by simpa using hsm.1.1) hb hmx hsm.2 hc hrs (by omega) (by simp) hok (W_mono _ (fun _ _ h => h.any) hW)
end Go.Am
