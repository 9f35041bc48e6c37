/- The law SubgraphValid, for every input. -/
import Derived.Test.YtbpjoianghehmaaKSubgraphValid
import Derived.ProofKit
import Derived.Test.YtbpjoianghehmaaSpPa
import Derived.Test.YtbpjoianghehmaaSpPb
import Derived.Test.YtbpjoianghehmaaSpPc
import Derived.Test.YtbpjoianghehmaaSpXa
import Derived.Test.YtbpjoianghehmaaSpXb
import Derived.Test.YtbpjoianghehmaaSpZa
namespace Go.Proofs.Ytbpjoianghehmaa
open Go Go.Am Go.ChangeShapes Go.WideShapes Go.ChangeAt Go.RowKit
theorem Try.ownSubgraphValid : ownKnob Try.prog.godebug = none := by kernel_rfl
theorem Try.laidOutSubgraphValid : laidOutB Try.prog = true := by kernel_rfl
set_option maxRecDepth 100000 in
theorem subgraphValid_lifted (os : Os) (started : os.Started) (H : Type) (enc : TypeId × Value → H) :
    ReturnsInHanded {} Try.checked os 6 .any (Rows.subgraphValidSpec.pre6 enc Try.prog Try.f6 Rows.subgraphValidRow.domain false) (Rows.subgraphValidSpec.post enc Try.prog Try.f6 false true false false) := by
  refine returnsInHanded_of_change_sized (C := Try.checked) Try.ownSubgraphValid started (by kernel_rfl) Try.func6
    (ChangeSpec.witness6 (enc := enc) (C := Try.checked) false ⟨#[], #[.agg #[.slice none 0 0, .slice none 0 0], .agg #[.slice none 0 0, .slice none 0 0]], []⟩ 8 (by kernel_rfl) (by kernel_rfl) (by kernel_rfl) (by kernel_rfl)) ?_
  intro W base args ds gs before hval0 hW _ hsz0 _
  have hsz : (DataW.weightsEach Try.prog (Try.f6.params.toList ++ Rows.subgraphValidSpec.plain.varTypes Try.prog) (ds ++ gs)).all (· ≤ reachBytes) = true := hsz0
  have hval : ∀ (j : Nat) t v, Try.f6.params[j]? = some t → args[j]? = some v → Value.okWide Try.prog W .any base t v := hval0
  have hx : ∀ args, HasEls [shG, shM] args → FC Try.prog 6 args (.bool true) [] := fun args ha => by
    have h := x_l07_SubgraphValid k_l07_SubgraphValid args ha
    rw [show sF "l07.SubgraphValid" = 6 by kernel_rfl] at h
    exact h
  refine law_contract (shs := [shG, shM]) (tb := _) (by kernel_rfl) hx rfl (by kernel_rfl) Try.laidOutSubgraphValid (by kernel_rfl) rfl ?_ hval hW hsz
  intro ds hl
  match ds, hl with
  | [d1, d2], _ => exact rfl
theorem subgraphValid_holds : Rows.SubgraphValidSaid :=
  OpenClaim.holds_of_wide 6 Try.f6 rfl rfl rfl rfl rfl rfl rfl ⟨rfl, rfl, rfl, rfl, rfl⟩ rfl rfl rfl rfl rfl (by kernel_rfl) Try.func6 (by kernel_rfl)
    (of_decide_eq_true (by kernel_rfl)) (by unfold Func.isWrapper; first | (rw [if_pos (by decide +kernel)]; kernel_rfl) | (rw [if_neg (by decide +kernel)]; exact ⟨rfl, rfl⟩))
    (fun os started H enc _ => subgraphValid_lifted os started H enc)
end Go.Proofs.Ytbpjoianghehmaa
