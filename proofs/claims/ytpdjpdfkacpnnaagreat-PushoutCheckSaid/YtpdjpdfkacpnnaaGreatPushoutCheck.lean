/- The law PushoutCheck, for every input. -/
import Derived.Test.YtpdjpdfkacpnnaaGreatKPushoutCheck
import Derived.Test.YtpdjpdfkacpnnaaGreatSoI
import Derived.ProofKit
namespace Go.Proofs.YtpdjpdfkacpnnaaGreat
open Go Go.Am Go.ChangeShapes Go.WideShapes Go.ChangeAt Go.RowKit
theorem Tryz.ownPushoutCheck : ownKnob Tryz.prog.godebug = none := by kernel_rfl
theorem Tryz.laidOutPushoutCheck : laidOutB Tryz.prog = true := by kernel_rfl
set_option maxRecDepth 100000 in
theorem pushoutCheck_lifted (os : Os) (started : os.Started) (H : Type) (enc : TypeId × Value → H) :
    ReturnsInHanded {} Tryz.checked os 3 .any (Rows.pushoutCheckSpec.pre6 enc Tryz.prog Tryz.f3 Rows.pushoutCheckRow.domain false) (Rows.pushoutCheckSpec.post enc Tryz.prog Tryz.f3 false true false false) := by
  refine returnsInHanded_of_change_sized (C := Tryz.checked) Tryz.ownPushoutCheck started (by kernel_rfl) Tryz.func3
    (ChangeSpec.witness6 (enc := enc) (C := Tryz.checked) false ⟨#[], #[.agg #[.slice none 0 0, .slice none 0 0, .slice none 0 0, .slice none 0 0, .slice none 0 0, .slice none 0 0, .slice none 0 0, .slice none 0 0, .slice none 0 0, .slice none 0 0], .agg #[.slice none 0 0, .slice none 0 0, .slice none 0 0, .slice none 0 0, .slice none 0 0, .slice none 0 0]], []⟩ 8 (by kernel_rfl) (by kernel_rfl) (by kernel_rfl) (by kernel_rfl)) ?_
  intro W base args ds gs before hval0 hW _ hsz0 _
  have hsz : (DataW.weightsEach Tryz.prog (Tryz.f3.params.toList ++ Rows.pushoutCheckSpec.plain.varTypes Tryz.prog) (ds ++ gs)).all (· ≤ reachBytes) = true := hsz0
  have hval : ∀ (j : Nat) t v, Tryz.f3.params[j]? = some t → args[j]? = some v → Value.okWide Tryz.prog W .any base t v := hval0
  have hx : ∀ args, HasEls [shSpZ, shCcZ] args → FC Tryz.prog 3 args (.bool true) [] := fun args ha => by
    have h := x_l10_PushoutCheck k_l10_PushoutCheck args ha
    rw [show sF "l10.PushoutCheck" = 3 by kernel_rfl] at h
    exact h
  refine law_contract (shs := [shSpZ, shCcZ]) (tb := _) (by kernel_rfl) hx rfl (by kernel_rfl) Tryz.laidOutPushoutCheck (by kernel_rfl) rfl ?_ hval hW hsz
  intro ds hl
  match ds, hl with
  | [d1, d2], _ => exact rfl
theorem pushoutCheck_holds : Rows.PushoutCheckSaid :=
  OpenClaim.holds_of_wide 3 Tryz.f3 rfl rfl rfl rfl rfl rfl rfl ⟨rfl, rfl, rfl, rfl, rfl⟩ rfl rfl rfl rfl rfl (by kernel_rfl) Tryz.func3 (by kernel_rfl)
    (of_decide_eq_true (by kernel_rfl)) (by unfold Func.isWrapper; first | (rw [if_pos (by decide +kernel)]; kernel_rfl) | (rw [if_neg (by decide +kernel)]; exact ⟨rfl, rfl⟩))
    (fun os started H enc _ => pushoutCheck_lifted os started H enc)
end Go.Proofs.YtpdjpdfkacpnnaaGreat
