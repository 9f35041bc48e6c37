/- slices.Sort at []int, out of the library's contract; slices.Compact; the number of images. -/
import Derived.Test.YtpdjpdfkacpnnaaSkB
import Derived.Sort.Grow
namespace Go.Am
open Go Go.Sort
set_option linter.unusedVariables false
set_option linter.unusedSimpArgs false
set_option linter.unnecessarySimpa false
section
variable (P : Program) (F : String → Nat)
end
end Go.Am
