/- What the laws of chapter 5 take. -/
import Derived.Test.YtfkkngepnnkloaaSjG
import Derived.Test.YtfkkngepnnkloaaSkA
namespace Go.Am
open Go
section
variable {P : Program} {F : String → Nat}
end
end Go.Am
