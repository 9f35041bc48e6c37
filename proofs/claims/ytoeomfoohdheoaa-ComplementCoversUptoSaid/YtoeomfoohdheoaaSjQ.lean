/- slices.Concat; disjoint unions. -/
import Derived.Test.YtoeomfoohdheoaaSkV
namespace Go.Am
open Go
set_option linter.unusedVariables false
set_option linter.unusedSimpArgs false
def shE1 (n : Int) (x : E) : E := ⟨x.t, x.f + n, x.o + n⟩
section
variable (P : Program) (F : String → Nat)
end
section
variable {P : Program} {F : String → Nat} {α : Type}
theorem FC.nl {P : Program} {f a b : Nat} {args : List D} {r : D} {outs : List (Nat × D)} (h : FC P f (.nl a :: args) r outs) : FC P f (.nl b :: args) r outs := by
  unfold FC at *
  simp only [DRs, DR] at *
  exact h
end
end Go.Am
