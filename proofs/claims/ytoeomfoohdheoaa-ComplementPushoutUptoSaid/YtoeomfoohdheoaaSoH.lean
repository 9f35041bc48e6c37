/- The laws PushoutOf, PushoutMediate, PushoutCoequalizer. -/
import Derived.Test.YtoeomfoohdheoaaSoG
import Derived.Test.YtoeomfoohdheoaaSmH
namespace Go.Am
open Go
set_option linter.unusedVariables false
set_option linter.unusedSimpArgs false
attribute [local irreducible] W
section
variable (P : Program) (F : String → Nat)
end
section
variable {P : Program} {F : String → Nat} {α : Type}
end
end Go.Am
