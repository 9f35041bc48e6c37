/- The law SubgraphJoin, for every input. -/
import Derived.Test.YtbpjoianghehmaaKSubgraphJoin
import Derived.ProofKit
import Derived.Test.YtbpjoianghehmaaSpPa
import Derived.Test.YtbpjoianghehmaaSpPb
import Derived.Test.YtbpjoianghehmaaSpPc
import Derived.Test.YtbpjoianghehmaaSpXa
import Derived.Test.YtbpjoianghehmaaSpXb
import Derived.Test.YtbpjoianghehmaaSpZa
namespace Go.Proofs.Ytbpjoianghehmaa
open Go Go.Am Go.ChangeShapes Go.WideShapes Go.ChangeAt Go.RowKit
theorem Try.ownSubgraphJoin : ownKnob Try.prog.godebug = none := by kernel_rfl
theorem Try.laidOutSubgraphJoin : laidOutB Try.prog = true := by kernel_rfl
set_option maxRecDepth 100000 in
theorem subgraphJoin_lifted (os : Os) (started : os.Started) (H : Type) (enc : TypeId × Value → H) :
    ReturnsInHanded {} Try.checked os 7 .any (Rows.subgraphJoinSpec.pre6 enc Try.prog Try.f7 Rows.subgraphJoinRow.domain false) (Rows.subgraphJoinSpec.post enc Try.prog Try.f7 false true false false) := by
  refine returnsInHanded_of_change_sized (C := Try.checked) Try.ownSubgraphJoin started (by kernel_rfl) Try.func7
    (ChangeSpec.witness6 (enc := enc) (C := Try.checked) false ⟨#[], #[.agg #[.slice none 0 0, .slice none 0 0], .agg #[.slice none 0 0, .slice none 0 0], .agg #[.slice none 0 0, .slice none 0 0]], []⟩ 8 (by kernel_rfl) (by kernel_rfl) (by kernel_rfl) (by kernel_rfl)) ?_
  intro W base args ds gs before hval0 hW _ hsz0 _
  have hsz : (DataW.weightsEach Try.prog (Try.f7.params.toList ++ Rows.subgraphJoinSpec.plain.varTypes Try.prog) (ds ++ gs)).all (· ≤ reachBytes) = true := hsz0
  have hval : ∀ (j : Nat) t v, Try.f7.params[j]? = some t → args[j]? = some v → Value.okWide Try.prog W .any base t v := hval0
  have hx : ∀ args, HasEls [shG, shM, shM] args → FC Try.prog 7 args (.bool true) [] := fun args ha => by
    have h := x_l07_SubgraphJoin k_l07_SubgraphJoin args ha
    rw [show sF "l07.SubgraphJoin" = 7 by kernel_rfl] at h
    exact h
  refine law_contract (shs := [shG, shM, shM]) (tb := _) (by kernel_rfl) hx rfl (by kernel_rfl) Try.laidOutSubgraphJoin (by kernel_rfl) rfl ?_ hval hW hsz
  intro ds hl
  match ds, hl with
  | [d1, d2, d3], _ => exact rfl
theorem subgraphJoin_holds : Rows.SubgraphJoinSaid :=
  OpenClaim.holds_of_wide 7 Try.f7 rfl rfl rfl rfl rfl rfl rfl ⟨rfl, rfl, rfl, rfl, rfl⟩ rfl rfl rfl rfl rfl (by kernel_rfl) Try.func7 (by kernel_rfl)
    (of_decide_eq_true (by kernel_rfl)) (by unfold Func.isWrapper; first | (rw [if_pos (by decide +kernel)]; kernel_rfl) | (rw [if_neg (by decide +kernel)]; exact ⟨rfl, rfl⟩))
    (fun os started H enc _ => subgraphJoin_lifted os started H enc)
end Go.Proofs.Ytbpjoianghehmaa
