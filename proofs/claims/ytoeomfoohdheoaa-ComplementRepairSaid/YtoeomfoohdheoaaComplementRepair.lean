/- The law ComplementRepair, for every input. -/
import Derived.Test.YtoeomfoohdheoaaKComplementRepair
import Derived.Test.YtoeomfoohdheoaaSpG
import Derived.ProofKit
namespace Go.Proofs.Ytoeomfoohdheoaa
open Go Go.Am Go.ChangeShapes Go.WideShapes Go.ChangeAt Go.RowKit
theorem Try.ownComplementRepair : ownKnob Try.prog.godebug = none := by kernel_rfl
theorem Try.laidOutComplementRepair : laidOutB Try.prog = true := by kernel_rfl
set_option maxRecDepth 100000 in
theorem complementRepair_lifted (os : Os) (started : os.Started) (H : Type) (enc : TypeId × Value → H) :
    ReturnsInHanded {} Try.checked os 4 .any (Rows.complementRepairSpec.pre6 enc Try.prog Try.f4 Rows.complementRepairRow.domain false) (Rows.complementRepairSpec.post enc Try.prog Try.f4 false true false false) := by
  refine returnsInHanded_of_change_sized (C := Try.checked) Try.ownComplementRepair started (by kernel_rfl) Try.func4
    (ChangeSpec.witness6 (enc := enc) (C := Try.checked) false ⟨#[], #[.agg #[.slice none 0 0, .slice none 0 0, .slice none 0 0, .slice none 0 0, .slice none 0 0, .slice none 0 0, .slice none 0 0, .slice none 0 0]], []⟩ 8 (by kernel_rfl) (by kernel_rfl) (by kernel_rfl) (by kernel_rfl)) ?_
  intro W base args ds gs before hval0 hW _ hsz0 _
  have hsz : (DataW.weightsEach Try.prog (Try.f4.params.toList ++ Rows.complementRepairSpec.plain.varTypes Try.prog) (ds ++ gs)).all (· ≤ reachBytes) = true := hsz0
  have hval : ∀ (j : Nat) t v, Try.f4.params[j]? = some t → args[j]? = some v → Value.okWide Try.prog W .any base t v := hval0
  have hx : ∀ args, HasEls [shCx] args → FC Try.prog 4 args (.bool true) [] := fun args ha => by
    have h := x_l12_ComplementRepair k_l12_ComplementRepair args ha
    rw [show sF "l12.ComplementRepair" = 4 by kernel_rfl] at h
    exact h
  refine law_contract (shs := [shCx]) (tb := _) (by kernel_rfl) hx rfl (by kernel_rfl) Try.laidOutComplementRepair (by kernel_rfl) rfl ?_ hval hW hsz
  intro ds hl
  match ds, hl with
  | [d1], _ => exact rfl
theorem complementRepair_holds : Rows.ComplementRepairSaid :=
  OpenClaim.holds_of_wide 4 Try.f4 rfl rfl rfl rfl rfl rfl rfl ⟨rfl, rfl, rfl, rfl, rfl⟩ rfl rfl rfl rfl rfl (by kernel_rfl) Try.func4 (by kernel_rfl)
    (of_decide_eq_true (by kernel_rfl)) (by unfold Func.isWrapper; first | (rw [if_pos (by decide +kernel)]; kernel_rfl) | (rw [if_neg (by decide +kernel)]; exact ⟨rfl, rfl⟩))
    (fun os started H enc _ => complementRepair_lifted os started H enc)
end Go.Proofs.Ytoeomfoohdheoaa
