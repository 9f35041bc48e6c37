/- The law PushoutUnique, for every input. -/
import Derived.Test.YtpdjpdfkacpnnaaKPushoutUnique
import Derived.Test.YtpdjpdfkacpnnaaSoN
import Derived.ProofKit
namespace Go.Proofs.Ytpdjpdfkacpnnaa
open Go Go.Am Go.ChangeShapes Go.WideShapes Go.ChangeAt Go.RowKit
theorem Try.ownPushoutUnique : ownKnob Try.prog.godebug = none := by kernel_rfl
theorem Try.laidOutPushoutUnique : laidOutB Try.prog = true := by kernel_rfl
set_option maxRecDepth 100000 in
theorem pushoutUnique_lifted (os : Os) (started : os.Started) (H : Type) (enc : TypeId × Value → H) :
    ReturnsInHanded {} Try.checked os 6 .any (Rows.pushoutUniqueSpec.pre6 enc Try.prog Try.f6 Rows.pushoutUniqueRow.domain false) (Rows.pushoutUniqueSpec.post enc Try.prog Try.f6 false true false false) := by
  refine returnsInHanded_of_change_sized (C := Try.checked) Try.ownPushoutUnique started (by kernel_rfl) Try.func6
    (ChangeSpec.witness6 (enc := enc) (C := Try.checked) false ⟨#[], #[.agg #[.slice none 0 0, .slice none 0 0], .agg #[.slice none 0 0, .slice none 0 0, .slice none 0 0]], []⟩ 8 (by kernel_rfl) (by kernel_rfl) (by kernel_rfl) (by kernel_rfl)) ?_
  intro W base args ds gs before hval0 hW _ hsz0 _
  have hsz : (DataW.weightsEach Try.prog (Try.f6.params.toList ++ Rows.pushoutUniqueSpec.plain.varTypes Try.prog) (ds ++ gs)).all (· ≤ reachBytes) = true := hsz0
  have hval : ∀ (j : Nat) t v, Try.f6.params[j]? = some t → args[j]? = some v → Value.okWide Try.prog W .any base t v := hval0
  have hx : ∀ args, HasEls [shDr, shU83] args → FC Try.prog 6 args (.bool true) [] := fun args ha => by
    have h := x_l10_PushoutUnique k_l10_PushoutUnique args ha
    rw [show sF "l10.PushoutUnique" = 6 by kernel_rfl] at h
    exact h
  refine law_contract (shs := [shDr, shU83]) (tb := _) (by kernel_rfl) hx rfl (by kernel_rfl) Try.laidOutPushoutUnique (by kernel_rfl) rfl ?_ hval hW hsz
  intro ds hl
  match ds, hl with
  | [d1, d2], _ => exact rfl
theorem pushoutUnique_holds : Rows.PushoutUniqueSaid :=
  OpenClaim.holds_of_wide 6 Try.f6 rfl rfl rfl rfl rfl rfl rfl ⟨rfl, rfl, rfl, rfl, rfl⟩ rfl rfl rfl rfl rfl (by kernel_rfl) Try.func6 (by kernel_rfl)
    (of_decide_eq_true (by kernel_rfl)) (by unfold Func.isWrapper; first | (rw [if_pos (by decide +kernel)]; kernel_rfl) | (rw [if_neg (by decide +kernel)]; exact ⟨rfl, rfl⟩))
    (fun os started H enc _ => pushoutUnique_lifted os started H enc)
end Go.Proofs.Ytpdjpdfkacpnnaa
