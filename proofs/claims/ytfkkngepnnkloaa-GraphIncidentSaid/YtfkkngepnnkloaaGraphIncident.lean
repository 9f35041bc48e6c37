/- The law GraphIncident, for every input. -/
import Derived.Test.YtfkkngepnnkloaaKGraphIncident
import Derived.Test.YtfkkngepnnkloaaSjK
import Derived.ProofKit
namespace Go.Proofs.Ytfkkngepnnkloaa
open Go Go.Am Go.ChangeShapes Go.WideShapes Go.ChangeAt Go.RowKit
theorem Try.ownGraphIncident : ownKnob Try.prog.godebug = none := by kernel_rfl
theorem Try.laidOutGraphIncident : laidOutB Try.prog = true := by kernel_rfl
set_option maxRecDepth 100000 in
theorem graphIncident_lifted (os : Os) (started : os.Started) (H : Type) (enc : TypeId × Value → H) :
    ReturnsInHanded {} Try.checked os 4 .any (Rows.graphIncidentSpec.pre6 enc Try.prog Try.f4 Rows.graphIncidentRow.domain false) (Rows.graphIncidentSpec.post enc Try.prog Try.f4 false true false false) := by
  refine returnsInHanded_of_change_sized (C := Try.checked) Try.ownGraphIncident started (by kernel_rfl) Try.func4
    (ChangeSpec.witness6 (enc := enc) (C := Try.checked) false ⟨#[], #[.agg #[.slice none 0 0, .slice none 0 0], .int .i64 0], []⟩ 8 (by kernel_rfl) (by kernel_rfl) (by kernel_rfl) (by kernel_rfl)) ?_
  intro W base args ds gs before hval0 hW _ hsz0 _
  have hsz : (DataW.weightsEach Try.prog (Try.f4.params.toList ++ Rows.graphIncidentSpec.plain.varTypes Try.prog) (ds ++ gs)).all (· ≤ reachBytes) = true := hsz0
  have hval : ∀ (j : Nat) t v, Try.f4.params[j]? = some t → args[j]? = some v → Value.okWide Try.prog W .any base t v := hval0
  have hx : ∀ args, HasEls [shG, shI] args → FC Try.prog 4 args (.bool true) [] := fun args ha => by
    have h := x_l05_GraphIncident k_l05_GraphIncident args ha
    rw [show sF "l05.GraphIncident" = 4 by kernel_rfl] at h
    exact h
  refine law_contract (shs := [shG, shI]) (tb := _) (by kernel_rfl) hx rfl (by kernel_rfl) Try.laidOutGraphIncident (by kernel_rfl) rfl ?_ hval hW hsz
  intro ds hl
  match ds, hl with
  | [d1, d2], _ => exact rfl
theorem graphIncident_holds : Rows.GraphIncidentSaid :=
  OpenClaim.holds_of_wide 4 Try.f4 rfl rfl rfl rfl rfl rfl rfl ⟨rfl, rfl, rfl, rfl, rfl⟩ rfl rfl rfl rfl rfl (by kernel_rfl) Try.func4 (by kernel_rfl)
    (of_decide_eq_true (by kernel_rfl)) (by unfold Func.isWrapper; first | (rw [if_pos (by decide +kernel)]; kernel_rfl) | (rw [if_neg (by decide +kernel)]; exact ⟨rfl, rfl⟩))
    (fun os started H enc _ => graphIncident_lifted os started H enc)
end Go.Proofs.Ytfkkngepnnkloaa
