/- The law PushoutSeveral, for every input. -/
import Derived.Test.YtpdjpdfkacpnnaaKPushoutSeveral
import Derived.ProofKit
import Derived.Test.YtpdjpdfkacpnnaaSpPa
import Derived.Test.YtpdjpdfkacpnnaaSpPb
import Derived.Test.YtpdjpdfkacpnnaaSpPc
import Derived.Test.YtpdjpdfkacpnnaaSpPd
import Derived.Test.YtpdjpdfkacpnnaaSpXa
namespace Go.Proofs.Ytpdjpdfkacpnnaa
open Go Go.Am Go.ChangeShapes Go.WideShapes Go.ChangeAt Go.RowKit
theorem Try.ownPushoutSeveral : ownKnob Try.prog.godebug = none := by kernel_rfl
theorem Try.laidOutPushoutSeveral : laidOutB Try.prog = true := by kernel_rfl
set_option maxRecDepth 100000 in
theorem pushoutSeveral_lifted (os : Os) (started : os.Started) (H : Type) (enc : TypeId × Value → H) :
  ReturnsInHanded {} Try.checked os 4 .any (Rows.pushoutSeveralSpec.pre6 enc Try.prog Try.f4 Rows.pushoutSeveralRow.domain false) (Rows.pushoutSeveralSpec.post enc Try.prog Try.f4 false true false false) := by
 refine returnsInHanded_of_change_sized (C := Try.checked) Try.ownPushoutSeveral started (by kernel_rfl) Try.func4
  (ChangeSpec.witness6 (enc := enc) (C := Try.checked) false ⟨#[], #[.agg #[.slice none 0 0, .slice none 0 0], .slice none 0 0, .slice none 0 0], []⟩ 8 (by kernel_rfl) (by kernel_rfl) (by kernel_rfl) (by kernel_rfl)) ?_
 intro W base args ds gs before hval0 hW _ hsz0 _
 have hsz : (DataW.weightsEach Try.prog (Try.f4.params.toList ++ Rows.pushoutSeveralSpec.plain.varTypes Try.prog) (ds ++ gs)).all (· ≤ reachBytes) = true := hsz0
 have hval : ∀ (j : Nat) t v, Try.f4.params[j]? = some t → args[j]? = some v → Value.okWide Try.prog W .any base t v := hval0
 have hx : ∀ args, HasEls [shG, shGs, shMs] args → FC Try.prog 4 args (.bool true) [] := fun args ha => by
  have h := x_l10_PushoutSeveral k_l10_PushoutSeveral args ha
  rw [show sF "l10.PushoutSeveral" = 4 by kernel_rfl] at h
  exact h
 refine law_contract (shs := [shG, shGs, shMs]) (tb := _) (by kernel_rfl) hx rfl (by kernel_rfl) Try.laidOutPushoutSeveral (by kernel_rfl) rfl ?_ hval hW hsz
 intro ds hl
 match ds, hl with
 | [d1, d2, d3], _ => exact rfl
theorem pushoutSeveral_holds : Rows.PushoutSeveralSaid :=
 OpenClaim.holds_of_wide 4 Try.f4 rfl rfl rfl rfl rfl rfl rfl ⟨rfl, rfl, rfl, rfl, rfl⟩ rfl rfl rfl rfl rfl (by kernel_rfl) Try.func4 (by kernel_rfl)
  (of_decide_eq_true (by kernel_rfl)) (by unfold Func.isWrapper; first | (rw [if_pos (by decide +kernel)]; kernel_rfl) | (rw [if_neg (by decide +kernel)]; exact ⟨rfl, rfl⟩))
  (fun os started H enc _ => pushoutSeveral_lifted os started H enc)
end Go.Proofs.Ytpdjpdfkacpnnaa
