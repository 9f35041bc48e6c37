/- The law SubgraphAll, for every input. -/
import Derived.Test.YtbpjoianghehmaaKSubgraphAll
import Derived.ProofKit
import Derived.Test.YtbpjoianghehmaaSpPa
import Derived.Test.YtbpjoianghehmaaSpPb
import Derived.Test.YtbpjoianghehmaaSpPc
import Derived.Test.YtbpjoianghehmaaSpXa
import Derived.Test.YtbpjoianghehmaaSpZa
namespace Go.Proofs.Ytbpjoianghehmaa
open Go Go.Am Go.ChangeShapes Go.WideShapes Go.ChangeAt Go.RowKit
theorem Try.ownSubgraphAll : ownKnob Try.prog.godebug = none := by kernel_rfl
theorem Try.laidOutSubgraphAll : laidOutB Try.prog = true := by kernel_rfl
set_option maxRecDepth 100000 in
theorem subgraphAll_lifted (os : Os) (started : os.Started) (H : Type) (enc : TypeId × Value → H) :
    ReturnsInHanded {} Try.checked os 5 .any (Rows.subgraphAllSpec.pre6 enc Try.prog Try.f5 Rows.subgraphAllRow.domain false) (Rows.subgraphAllSpec.post enc Try.prog Try.f5 false true false false) := by
  refine returnsInHanded_of_change_sized (C := Try.checked) Try.ownSubgraphAll started (by kernel_rfl) Try.func5
    (ChangeSpec.witness6 (enc := enc) (C := Try.checked) false ⟨#[], #[.agg #[.slice none 0 0, .slice none 0 0]], []⟩ 8 (by kernel_rfl) (by kernel_rfl) (by kernel_rfl) (by kernel_rfl)) ?_
  intro W base args ds gs before hval0 hW _ hsz0 _
  have hsz : (DataW.weightsEach Try.prog (Try.f5.params.toList ++ Rows.subgraphAllSpec.plain.varTypes Try.prog) (ds ++ gs)).all (· ≤ reachBytes) = true := hsz0
  have hval : ∀ (j : Nat) t v, Try.f5.params[j]? = some t → args[j]? = some v → Value.okWide Try.prog W .any base t v := hval0
  have hx : ∀ args, HasEls [shG] args → FC Try.prog 5 args (.bool true) [] := fun args ha => by
    have h := x_l07_SubgraphAll k_l07_SubgraphAll args ha
    rw [show sF "l07.SubgraphAll" = 5 by kernel_rfl] at h
    exact h
  refine law_contract (shs := [shG]) (tb := _) (by kernel_rfl) hx rfl (by kernel_rfl) Try.laidOutSubgraphAll (by kernel_rfl) rfl ?_ hval hW hsz
  intro ds hl
  match ds, hl with
  | [d1], _ => exact rfl
theorem subgraphAll_holds : Rows.SubgraphAllSaid :=
  OpenClaim.holds_of_wide 5 Try.f5 rfl rfl rfl rfl rfl rfl rfl ⟨rfl, rfl, rfl, rfl, rfl⟩ rfl rfl rfl rfl rfl (by kernel_rfl) Try.func5 (by kernel_rfl)
    (of_decide_eq_true (by kernel_rfl)) (by unfold Func.isWrapper; first | (rw [if_pos (by decide +kernel)]; kernel_rfl) | (rw [if_neg (by decide +kernel)]; exact ⟨rfl, rfl⟩))
    (fun os started H enc _ => subgraphAll_lifted os started H enc)
end Go.Proofs.Ytbpjoianghehmaa
