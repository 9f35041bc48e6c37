/- The reference of the graph package: Remove. -/
import Derived.Test.YtfkkngepnnkloaaSjD
namespace Go.Am
open Go
set_option linter.unusedVariables false
set_option linter.unusedSimpArgs false
section
variable {P : Program} {F : String → Nat} {α : Type}
end
end Go.Am
