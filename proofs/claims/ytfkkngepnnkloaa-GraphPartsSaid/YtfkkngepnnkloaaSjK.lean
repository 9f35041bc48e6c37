/- Incident, the reference's Components, and their law. -/
import Derived.Test.YtfkkngepnnkloaaSjJ
namespace Go.Am
open Go
set_option linter.unusedVariables false
set_option linter.unusedSimpArgs false
section
variable (P : Program) (F : String → Nat)
end
section
variable {P : Program} {F : String → Nat} {α : Type}
theorem pts_get {a : List Mo} {i : Nat} (h : i < a.length) : (pts a)[i]? = some (.agg [.lst 1 (ints (gt a (i : Int)).n), .lst 1 (ints (gt a (i : Int)).e)]) := by
  rw [gt_nat h]
  simp [pts, mD, h]
attribute [go_sem] pts_get
end
end Go.Am
