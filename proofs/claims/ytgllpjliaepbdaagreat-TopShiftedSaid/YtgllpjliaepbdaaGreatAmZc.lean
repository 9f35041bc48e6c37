/- Functions whose only result may only be read: function values that hold what they captured. -/
import Derived.Test.YtgllpjliaepbdaaGreatAmPh
namespace Go.Am
open Go
set_option linter.unusedVariables false
set_option linter.unusedSimpArgs false
def Qcs(hp:qHp):Option (List D)→Option D
 |some [d]=>Xz hp d
 |_=>none
def QoT(rs:List RV)(r:D):LX→St→Prop
 | .exit _,_=>False
 | .normal,s=>Qcs s.hp (Q1 (Jm s) rs)=some r
 | .ret,s=>Qcs s.hp (Q1 (Jm s) rs)=some r
section
variable {s:St}
theorem QTl{rs:List RV}{r:D}:@END .normal s ⟨QoT rs r⟩=(Qcs s.hp (Q1 (Jm s) rs)=some r):=id rfl
theorem QTm{rs:List RV}{r:D}:@END .ret s ⟨QoT rs r⟩=(Qcs s.hp (Q1 (Jm s) rs)=some r):=id rfl
theorem QTn{hp:qHp}{d:D}:Qcs hp (some [d])=Xz hp d:=id rfl
end
attribute [go_sem] QTl QTm QTn
end Go.Am
