/- All morphisms: the reference's search for edges and nodes. -/
import Derived.Test.YtpdjpdfkacpnnaaSmD
namespace Go.Am
open Go
set_option linter.unusedVariables false
set_option linter.unusedSimpArgs false
attribute [local irreducible] W
section
variable {P : Program} {F : String → Nat} {α : Type}
end
end Go.Am
