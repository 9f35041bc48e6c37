/- The law PushoutMediate, for every input. -/
import Derived.Test.YtpdjpdfkacpnnaaKPushoutMediate
import Derived.Test.YtpdjpdfkacpnnaaSoH
import Derived.ProofKit
namespace Go.Proofs.Ytpdjpdfkacpnnaa
open Go Go.Am Go.ChangeShapes Go.WideShapes Go.ChangeAt Go.RowKit
theorem Try.ownPushoutMediate : ownKnob Try.prog.godebug = none := by kernel_rfl
theorem Try.laidOutPushoutMediate : laidOutB Try.prog = true := by kernel_rfl
set_option maxRecDepth 100000 in
theorem pushoutMediate_lifted (os : Os) (started : os.Started) (H : Type) (enc : TypeId × Value → H) :
    ReturnsInHanded {} Try.checked os 5 .any (Rows.pushoutMediateSpec.pre6 enc Try.prog Try.f5 Rows.pushoutMediateRow.domain false) (Rows.pushoutMediateSpec.post enc Try.prog Try.f5 false true false false) := by
  refine returnsInHanded_of_change_sized (C := Try.checked) Try.ownPushoutMediate started (by kernel_rfl) Try.func5
    (ChangeSpec.witness6 (enc := enc) (C := Try.checked) false ⟨#[], #[.agg #[.slice none 0 0, .slice none 0 0, .slice none 0 0, .slice none 0 0, .slice none 0 0, .slice none 0 0, .slice none 0 0, .slice none 0 0, .slice none 0 0, .slice none 0 0], .agg #[.slice none 0 0, .slice none 0 0, .slice none 0 0, .slice none 0 0, .slice none 0 0, .slice none 0 0]], []⟩ 8 (by kernel_rfl) (by kernel_rfl) (by kernel_rfl) (by kernel_rfl)) ?_
  intro W base args ds gs before hval0 hW _ hsz0 _
  have hsz : (DataW.weightsEach Try.prog (Try.f5.params.toList ++ Rows.pushoutMediateSpec.plain.varTypes Try.prog) (ds ++ gs)).all (· ≤ reachBytes) = true := hsz0
  have hval : ∀ (j : Nat) t v, Try.f5.params[j]? = some t → args[j]? = some v → Value.okWide Try.prog W .any base t v := hval0
  have hx : ∀ args, HasEls [shSp, shCc] args → FC Try.prog 5 args (.bool true) [] := fun args ha => by
    have h := x_l10_PushoutMediate k_l10_PushoutMediate args ha
    rw [show sF "l10.PushoutMediate" = 5 by kernel_rfl] at h
    exact h
  refine law_contract (shs := [shSp, shCc]) (tb := _) (by kernel_rfl) hx rfl (by kernel_rfl) Try.laidOutPushoutMediate (by kernel_rfl) rfl ?_ hval hW hsz
  intro ds hl
  match ds, hl with
  | [d1, d2], _ => exact rfl
theorem pushoutMediate_holds : Rows.PushoutMediateSaid :=
  OpenClaim.holds_of_wide 5 Try.f5 rfl rfl rfl rfl rfl rfl rfl ⟨rfl, rfl, rfl, rfl, rfl⟩ rfl rfl rfl rfl rfl (by kernel_rfl) Try.func5 (by kernel_rfl)
    (of_decide_eq_true (by kernel_rfl)) (by unfold Func.isWrapper; first | (rw [if_pos (by decide +kernel)]; kernel_rfl) | (rw [if_neg (by decide +kernel)]; exact ⟨rfl, rfl⟩))
    (fun os started H enc _ => pushoutMediate_lifted os started H enc)
end Go.Proofs.Ytpdjpdfkacpnnaa
