/- The law PullbackMediate, for every input. -/
import Derived.Test.YtkllpeebnabdiaaKPullbackMediate
import Derived.Test.YtkllpeebnabdiaaSlB
import Derived.ProofKit
namespace Go.Proofs.Ytkllpeebnabdiaa
open Go Go.Am Go.ChangeShapes Go.WideShapes Go.ChangeAt Go.RowKit
theorem Try.ownPullbackMediate : ownKnob Try.prog.godebug = none := by kernel_rfl
theorem Try.laidOutPullbackMediate : laidOutB Try.prog = true := by kernel_rfl
set_option maxRecDepth 100000 in
theorem pullbackMediate_lifted (os : Os) (started : os.Started) (H : Type) (enc : TypeId × Value → H) :
    ReturnsInHanded {} Try.checked os 8 .any (Rows.pullbackMediateSpec.pre6 enc Try.prog Try.f8 Rows.pullbackMediateRow.domain false) (Rows.pullbackMediateSpec.post enc Try.prog Try.f8 false true false false) := by
  refine returnsInHanded_of_change_sized (C := Try.checked) Try.ownPullbackMediate started (by kernel_rfl) Try.func8
    (ChangeSpec.witness6 (enc := enc) (C := Try.checked) false ⟨#[], #[.agg #[.slice none 0 0, .slice none 0 0, .slice none 0 0, .slice none 0 0, .slice none 0 0, .slice none 0 0, .slice none 0 0, .slice none 0 0, .slice none 0 0, .slice none 0 0], .agg #[.slice none 0 0, .slice none 0 0, .slice none 0 0, .slice none 0 0, .slice none 0 0, .slice none 0 0]], []⟩ 8 (by kernel_rfl) (by kernel_rfl) (by kernel_rfl) (by kernel_rfl)) ?_
  intro W base args ds gs before hval0 hW _ hsz0 _
  have hsz : (DataW.weightsEach Try.prog (Try.f8.params.toList ++ Rows.pullbackMediateSpec.plain.varTypes Try.prog) (ds ++ gs)).all (· ≤ reachBytes) = true := hsz0
  have hval : ∀ (j : Nat) t v, Try.f8.params[j]? = some t → args[j]? = some v → Value.okWide Try.prog W .any base t v := hval0
  have hx : ∀ args, HasEls [shCs, shCo] args → FC Try.prog 8 args (.bool true) [] := fun args ha => by
    have h := x_l11_PullbackMediate k_l11_PullbackMediate args ha
    rw [show sF "l11.PullbackMediate" = 8 by kernel_rfl] at h
    exact h
  refine law_contract (shs := [shCs, shCo]) (tb := _) (by kernel_rfl) hx rfl (by kernel_rfl) Try.laidOutPullbackMediate (by kernel_rfl) rfl ?_ hval hW hsz
  intro ds hl
  match ds, hl with
  | [d1, d2], _ => exact rfl
theorem pullbackMediate_holds : Rows.PullbackMediateSaid :=
  OpenClaim.holds_of_wide 8 Try.f8 rfl rfl rfl rfl rfl rfl rfl ⟨rfl, rfl, rfl, rfl, rfl⟩ rfl rfl rfl rfl rfl (by kernel_rfl) Try.func8 (by kernel_rfl)
    (of_decide_eq_true (by kernel_rfl)) (by unfold Func.isWrapper; first | (rw [if_pos (by decide +kernel)]; kernel_rfl) | (rw [if_neg (by decide +kernel)]; exact ⟨rfl, rfl⟩))
    (fun os started H enc _ => pullbackMediate_lifted os started H enc)
end Go.Proofs.Ytkllpeebnabdiaa
