/- What inverses are; what the search finds. -/
import Derived.Test.YtpdjpdfkacpnnaaSmG
namespace Go.Am
open Go
set_option linter.unusedVariables false
set_option linter.unusedSimpArgs false
section
theorem comM_ok {a b c : G} {m n : Mo} (hm : MOk a b m) (hn : MOk b c n) : comM a b c m n = (thenM m n, 0) := by
  unfold comM
  rw [if_neg (by rw [mok.2 hm]; simp), if_neg (by rw [mok.2 hn]; simp)]
end
end Go.Am
