/- Functions under names, and their contracts over a loaded program. -/
import Derived.Test.YtfkkngepnnkloaaAmEv
import Derived.Test.YtfkkngepnnkloaaAmRw
namespace Go.Am
open Go

def tab (l : List (Nat × List Nat)) (n : Nat) : List Nat := (lk l n).getD []
def lkS : List (String × Nat) → String → Nat
  | [], _ => 0
  | (s, n) :: l, t => if s == t then n else lkS l t

theorem FC.of' {P : Program} {f : Nat} {fn : Func} {lc : LC} {rs : List RV} {args : List D} {r : D} {H : Hints} {n : Nat} (hf : P.funcs[f]? = some fn) (hmx : P.follows .mixedOrders = true)
    (hc : fn.body.bind (cC P H fn.ntmps) = some lc) (hrs : rsOf P fn.results.toList = some rs) (hsm : ((fn.name != "runtime.NumGoroutine") && decide (n ≤ fn.ntmps) && H.fx.isEmpty) = true)
    (hn : args.length = n) (hok : args.all okA1 = true) (hW : W P lc (Done rs [] r []) (init args)) : FC P f args r [] := by
  obtain ⟨body, hb, hc⟩ := Option.bind_eq_some_iff.1 hc
  simp only [Bool.and_eq_true, bne_iff_ne, ne_eq, decide_eq_true_eq, List.isEmpty_iff] at hsm
  exact FC.of hf (by simpa using hsm.1.1) hb hmx hsm.2 hc hrs (by omega) (by simp) hok hW
end Go.Am
