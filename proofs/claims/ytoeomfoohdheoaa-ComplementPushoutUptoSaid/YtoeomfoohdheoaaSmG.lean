/- Morphisms: inverses. -/
import Derived.Test.YtoeomfoohdheoaaSmF
namespace Go.Am
open Go
set_option linter.unusedVariables false
set_option linter.unusedSimpArgs false
attribute [local irreducible] W
section
variable {P : Program} {F : String → Nat} {α : Type}
end
end Go.Am
