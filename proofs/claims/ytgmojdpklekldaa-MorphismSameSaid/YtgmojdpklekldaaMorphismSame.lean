/- The law MorphismSame, for every input. -/
import Derived.Test.YtgmojdpklekldaaKMorphismSame
import Derived.Test.YtgmojdpklekldaaSlC
import Derived.ProofKit
namespace Go.Proofs.Ytgmojdpklekldaa
open Go Go.Am Go.ChangeShapes Go.WideShapes Go.ChangeAt Go.RowKit
theorem Try.ownMorphismSame : ownKnob Try.prog.godebug = none := by kernel_rfl
theorem Try.laidOutMorphismSame : laidOutB Try.prog = true := by kernel_rfl
set_option maxRecDepth 100000 in
theorem morphismSame_lifted (os : Os) (started : os.Started) (H : Type) (enc : TypeId × Value → H) :
    ReturnsInHanded {} Try.checked os 5 .any (Rows.morphismSameSpec.pre6 enc Try.prog Try.f5 Rows.morphismSameRow.domain false) (Rows.morphismSameSpec.post enc Try.prog Try.f5 false true false false) := by
  refine returnsInHanded_of_change_sized (C := Try.checked) Try.ownMorphismSame started (by kernel_rfl) Try.func5
    (ChangeSpec.witness6 (enc := enc) (C := Try.checked) false ⟨#[], #[.agg #[.slice none 0 0, .slice none 0 0], .agg #[.slice none 0 0, .slice none 0 0], .agg #[.slice none 0 0, .slice none 0 0]], []⟩ 8 (by kernel_rfl) (by kernel_rfl) (by kernel_rfl) (by kernel_rfl)) ?_
  intro W base args ds gs before hval0 hW _ hsz0 _
  have hsz : (DataW.weightsEach Try.prog (Try.f5.params.toList ++ Rows.morphismSameSpec.plain.varTypes Try.prog) (ds ++ gs)).all (· ≤ reachBytes) = true := hsz0
  have hval : ∀ (j : Nat) t v, Try.f5.params[j]? = some t → args[j]? = some v → Value.okWide Try.prog W .any base t v := hval0
  have hx : ∀ args, HasEls [shG, shM, shM] args → FC Try.prog 5 args (.bool true) [] := fun args ha => by
    have h := x_l06_MorphismSame k_l06_MorphismSame args ha
    rw [show sF "l06.MorphismSame" = 5 by kernel_rfl] at h
    exact h
  refine law_contract (shs := [shG, shM, shM]) (tb := _) (by kernel_rfl) hx rfl (by kernel_rfl) Try.laidOutMorphismSame (by kernel_rfl) rfl ?_ hval hW hsz
  intro ds hl
  match ds, hl with
  | [d1, d2, d3], _ => exact rfl
theorem morphismSame_holds : Rows.MorphismSameSaid :=
  OpenClaim.holds_of_wide 5 Try.f5 rfl rfl rfl rfl rfl rfl rfl ⟨rfl, rfl, rfl, rfl, rfl⟩ rfl rfl rfl rfl rfl (by kernel_rfl) Try.func5 (by kernel_rfl)
    (of_decide_eq_true (by kernel_rfl)) (by unfold Func.isWrapper; first | (rw [if_pos (by decide +kernel)]; kernel_rfl) | (rw [if_neg (by decide +kernel)]; exact ⟨rfl, rfl⟩))
    (fun os started H enc _ => morphismSame_lifted os started H enc)
end Go.Proofs.Ytgmojdpklekldaa
