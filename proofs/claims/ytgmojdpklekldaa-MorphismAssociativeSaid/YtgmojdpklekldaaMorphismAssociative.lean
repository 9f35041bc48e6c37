/- The law MorphismAssociative, for every input. -/
import Derived.Test.YtgmojdpklekldaaKMorphismAssociative
import Derived.Test.YtgmojdpklekldaaSnL
import Derived.ProofKit
namespace Go.Proofs.Ytgmojdpklekldaa
open Go Go.Am Go.ChangeShapes Go.WideShapes Go.ChangeAt Go.RowKit
theorem Try.ownMorphismAssociative : ownKnob Try.prog.godebug = none := by kernel_rfl
theorem Try.laidOutMorphismAssociative : laidOutB Try.prog = true := by kernel_rfl
set_option maxRecDepth 100000 in
theorem morphismAssociative_lifted (os : Os) (started : os.Started) (H : Type) (enc : TypeId × Value → H) :
    ReturnsInHanded {} Try.checked os 8 .any (Rows.morphismAssociativeSpec.pre6 enc Try.prog Try.f8 Rows.morphismAssociativeRow.domain false) (Rows.morphismAssociativeSpec.post enc Try.prog Try.f8 false true false false) := by
  refine returnsInHanded_of_change_sized (C := Try.checked) Try.ownMorphismAssociative started (by kernel_rfl) Try.func8
    (ChangeSpec.witness6 (enc := enc) (C := Try.checked) false ⟨#[], #[.agg #[.slice none 0 0, .slice none 0 0], .slice none 0 0, .slice none 0 0], []⟩ 8 (by kernel_rfl) (by kernel_rfl) (by kernel_rfl) (by kernel_rfl)) ?_
  intro W base args ds gs before hval0 hW _ hsz0 _
  have hsz : (DataW.weightsEach Try.prog (Try.f8.params.toList ++ Rows.morphismAssociativeSpec.plain.varTypes Try.prog) (ds ++ gs)).all (· ≤ reachBytes) = true := hsz0
  have hval : ∀ (j : Nat) t v, Try.f8.params[j]? = some t → args[j]? = some v → Value.okWide Try.prog W .any base t v := hval0
  have hx : ∀ args, HasEls [shDr, shU8s, shU8s] args → FC Try.prog 8 args (.bool true) [] := fun args ha => by
    have h := x_l06_MorphismAssociative k_l06_MorphismAssociative args ha
    rw [show sF "l06.MorphismAssociative" = 8 by kernel_rfl] at h
    exact h
  refine law_contract (shs := [shDr, shU8s, shU8s]) (tb := _) (by kernel_rfl) hx rfl (by kernel_rfl) Try.laidOutMorphismAssociative (by kernel_rfl) rfl ?_ hval hW hsz
  intro ds hl
  match ds, hl with
  | [d1, d2, d3], _ => exact rfl
theorem morphismAssociative_holds : Rows.MorphismAssociativeSaid :=
  OpenClaim.holds_of_wide 8 Try.f8 rfl rfl rfl rfl rfl rfl rfl ⟨rfl, rfl, rfl, rfl, rfl⟩ rfl rfl rfl rfl rfl (by kernel_rfl) Try.func8 (by kernel_rfl)
    (of_decide_eq_true (by kernel_rfl)) (by unfold Func.isWrapper; first | (rw [if_pos (by decide +kernel)]; kernel_rfl) | (rw [if_neg (by decide +kernel)]; exact ⟨rfl, rfl⟩))
    (fun os started H enc _ => morphismAssociative_lifted os started H enc)
end Go.Proofs.Ytgmojdpklekldaa
