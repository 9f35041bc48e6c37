/- The law PushoutKinds, for every input. -/
import Derived.Test.YtpdjpdfkacpnnaaKPushoutKinds
import Derived.Test.YtpdjpdfkacpnnaaSoM
import Derived.ProofKit
namespace Go.Proofs.Ytpdjpdfkacpnnaa
open Go Go.Am Go.ChangeShapes Go.WideShapes Go.ChangeAt Go.RowKit
theorem Try.ownPushoutKinds : ownKnob Try.prog.godebug = none := by kernel_rfl
theorem Try.laidOutPushoutKinds : laidOutB Try.prog = true := by kernel_rfl
set_option maxRecDepth 100000 in
theorem pushoutKinds_lifted (os : Os) (started : os.Started) (H : Type) (enc : TypeId × Value → H) :
    ReturnsInHanded {} Try.checked os 8 .any (Rows.pushoutKindsSpec.pre6 enc Try.prog Try.f8 Rows.pushoutKindsRow.domain false) (Rows.pushoutKindsSpec.post enc Try.prog Try.f8 false true false false) := by
  refine returnsInHanded_of_change_sized (C := Try.checked) Try.ownPushoutKinds started (by kernel_rfl) Try.func8
    (ChangeSpec.witness6 (enc := enc) (C := Try.checked) false ⟨#[], #[.agg #[.slice none 0 0, .slice none 0 0], .agg #[.slice none 0 0, .slice none 0 0], .slice none 0 0], []⟩ 8 (by kernel_rfl) (by kernel_rfl) (by kernel_rfl) (by kernel_rfl)) ?_
  intro W base args ds gs before hval0 hW _ hsz0 _
  have hsz : (DataW.weightsEach Try.prog (Try.f8.params.toList ++ Rows.pushoutKindsSpec.plain.varTypes Try.prog) (ds ++ gs)).all (· ≤ reachBytes) = true := hsz0
  have hval : ∀ (j : Nat) t v, Try.f8.params[j]? = some t → args[j]? = some v → Value.okWide Try.prog W .any base t v := hval0
  have hx : ∀ args, HasEls [shDr, shU82, shU8s] args → FC Try.prog 8 args (.bool true) [] := fun args ha => by
    have h := x_l10_PushoutKinds k_l10_PushoutKinds args ha
    rw [show sF "l10.PushoutKinds" = 8 by kernel_rfl] at h
    exact h
  refine law_contract (shs := [shDr, shU82, shU8s]) (tb := _) (by kernel_rfl) hx rfl (by kernel_rfl) Try.laidOutPushoutKinds (by kernel_rfl) rfl ?_ hval hW hsz
  intro ds hl
  match ds, hl with
  | [d1, d2, d3], _ => exact rfl
theorem pushoutKinds_holds : Rows.PushoutKindsSaid :=
  OpenClaim.holds_of_wide 8 Try.f8 rfl rfl rfl rfl rfl rfl rfl ⟨rfl, rfl, rfl, rfl, rfl⟩ rfl rfl rfl rfl rfl (by kernel_rfl) Try.func8 (by kernel_rfl)
    (of_decide_eq_true (by kernel_rfl)) (by unfold Func.isWrapper; first | (rw [if_pos (by decide +kernel)]; kernel_rfl) | (rw [if_neg (by decide +kernel)]; exact ⟨rfl, rfl⟩))
    (fun os started H enc _ => pushoutKinds_lifted os started H enc)
end Go.Proofs.Ytpdjpdfkacpnnaa
