/- slices.Compact at []int; injective and surjective morphisms. -/
/- Injective and surjective morphisms. -/
import Derived.Test.YtfkkngepnnkloaaSkS
import Derived.Test.YtfkkngepnnkloaaSkV
import Derived.Test.YtfkkngepnnkloaaSkC
namespace Go.Am
open Go
set_option linter.unusedVariables false
set_option linter.unusedSimpArgs false
section
variable (P : Program) (F : String → Nat)
end
section
variable {P : Program} {F : String → Nat} {α : Type}
/-! What is kept of a sorted list. -/
end
end Go.Am
namespace Go.Am
open Go
set_option linter.unusedVariables false
set_option linter.unusedSimpArgs false
section
variable {P : Program} {F : String → Nat} {α : Type}
end
end Go.Am
