/- From a function's contract to the statement about a law whose arguments are small. -/
import Derived.Test.YtgllpjliaepbdaaGreatAmRw
namespace Go.Am
open Go Go.ChangeShapes Go.RowKit
end Go.Am
