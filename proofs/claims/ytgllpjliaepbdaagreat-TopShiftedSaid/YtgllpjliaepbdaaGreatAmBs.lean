/- Constant strings. -/
import Derived.Test.YtgllpjliaepbdaaGreatAmPh
namespace Go.Am
open Go
def bs(l:List UInt8):ByteArray:=⟨l.toArray⟩
end Go.Am
