/- The law MorphismCompose, for every input. -/
import Derived.Test.YtgmojdpklekldaaKMorphismCompose
import Derived.Test.YtgmojdpklekldaaSlC
import Derived.ProofKit
namespace Go.Proofs.Ytgmojdpklekldaa
open Go Go.Am Go.ChangeShapes Go.WideShapes Go.ChangeAt Go.RowKit
theorem Try.ownMorphismCompose : ownKnob Try.prog.godebug = none := by kernel_rfl
theorem Try.laidOutMorphismCompose : laidOutB Try.prog = true := by kernel_rfl
set_option maxRecDepth 100000 in
theorem morphismCompose_lifted (os : Os) (started : os.Started) (H : Type) (enc : TypeId × Value → H) :
    ReturnsInHanded {} Try.checked os 6 .any (Rows.morphismComposeSpec.pre6 enc Try.prog Try.f6 Rows.morphismComposeRow.domain false) (Rows.morphismComposeSpec.post enc Try.prog Try.f6 false true false false) := by
  refine returnsInHanded_of_change_sized (C := Try.checked) Try.ownMorphismCompose started (by kernel_rfl) Try.func6
    (ChangeSpec.witness6 (enc := enc) (C := Try.checked) false ⟨#[], #[.agg #[.slice none 0 0, .slice none 0 0], .agg #[.slice none 0 0, .slice none 0 0, .slice none 0 0, .slice none 0 0], .agg #[.slice none 0 0, .slice none 0 0, .slice none 0 0, .slice none 0 0]], []⟩ 8 (by kernel_rfl) (by kernel_rfl) (by kernel_rfl) (by kernel_rfl)) ?_
  intro W base args ds gs before hval0 hW _ hsz0 _
  have hsz : (DataW.weightsEach Try.prog (Try.f6.params.toList ++ Rows.morphismComposeSpec.plain.varTypes Try.prog) (ds ++ gs)).all (· ≤ reachBytes) = true := hsz0
  have hval : ∀ (j : Nat) t v, Try.f6.params[j]? = some t → args[j]? = some v → Value.okWide Try.prog W .any base t v := hval0
  have hx : ∀ args, HasEls [shG, shAw, shAw] args → FC Try.prog 6 args (.bool true) [] := fun args ha => by
    have h := x_l06_MorphismCompose k_l06_MorphismCompose args ha
    rw [show sF "l06.MorphismCompose" = 6 by kernel_rfl] at h
    exact h
  refine law_contract (shs := [shG, shAw, shAw]) (tb := _) (by kernel_rfl) hx rfl (by kernel_rfl) Try.laidOutMorphismCompose (by kernel_rfl) rfl ?_ hval hW hsz
  intro ds hl
  match ds, hl with
  | [d1, d2, d3], _ => exact rfl
theorem morphismCompose_holds : Rows.MorphismComposeSaid :=
  OpenClaim.holds_of_wide 6 Try.f6 rfl rfl rfl rfl rfl rfl rfl ⟨rfl, rfl, rfl, rfl, rfl⟩ rfl rfl rfl rfl rfl (by kernel_rfl) Try.func6 (by kernel_rfl)
    (of_decide_eq_true (by kernel_rfl)) (by unfold Func.isWrapper; first | (rw [if_pos (by decide +kernel)]; kernel_rfl) | (rw [if_neg (by decide +kernel)]; exact ⟨rfl, rfl⟩))
    (fun os started H enc _ => morphismCompose_lifted os started H enc)
end Go.Proofs.Ytgmojdpklekldaa
