/- What inverses are; what the search finds. -/
import Derived.Test.YtoeomfoohdheoaaSmG
namespace Go.Am
open Go
set_option linter.unusedVariables false
set_option linter.unusedSimpArgs false
section
end
end Go.Am
