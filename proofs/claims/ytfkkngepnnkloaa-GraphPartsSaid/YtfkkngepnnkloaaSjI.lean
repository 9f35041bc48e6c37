/- The graph package and its reference: AddNode, AddEdge, Same; their laws. -/
import Derived.Test.YtfkkngepnnkloaaSjH
namespace Go.Am
open Go
set_option linter.unusedVariables false
set_option linter.unusedSimpArgs false
section
variable (P : Program) (F : String → Nat)
end
section
variable {P : Program} {F : String → Nat} {α : Type}
end
end Go.Am
