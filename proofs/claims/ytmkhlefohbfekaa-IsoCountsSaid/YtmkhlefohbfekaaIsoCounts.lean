/- The law IsoCounts, for every input. -/
import Derived.Test.YtmkhlefohbfekaaKIsoCounts
import Derived.ProofKit
import Derived.Test.YtmkhlefohbfekaaSpPa
import Derived.Test.YtmkhlefohbfekaaSpPb
import Derived.Test.YtmkhlefohbfekaaSpPc
import Derived.Test.YtmkhlefohbfekaaSpXa
import Derived.Test.YtmkhlefohbfekaaSpZa
namespace Go.Proofs.Ytmkhlefohbfekaa
open Go Go.Am Go.ChangeShapes Go.WideShapes Go.ChangeAt Go.RowKit
theorem Try.ownIsoCounts : ownKnob Try.prog.godebug = none := by kernel_rfl
theorem Try.laidOutIsoCounts : laidOutB Try.prog = true := by kernel_rfl
set_option maxRecDepth 100000 in
theorem isoCounts_lifted (os : Os) (started : os.Started) (H : Type) (enc : TypeId × Value → H) :
  ReturnsInHanded {} Try.checked os 5 .any (Rows.isoCountsSpec.pre6 enc Try.prog Try.f5 Rows.isoCountsRow.domain false) (Rows.isoCountsSpec.post enc Try.prog Try.f5 false true false false) := by
 refine returnsInHanded_of_change_sized (C := Try.checked) Try.ownIsoCounts started (by kernel_rfl) Try.func5
  (ChangeSpec.witness6 (enc := enc) (C := Try.checked) false ⟨#[], #[.agg #[.slice none 0 0, .slice none 0 0], .slice none 0 0], []⟩ 8 (by kernel_rfl) (by kernel_rfl) (by kernel_rfl) (by kernel_rfl)) ?_
 intro W base args ds gs before hval0 hW _ hsz0 _
 have hsz : (DataW.weightsEach Try.prog (Try.f5.params.toList ++ Rows.isoCountsSpec.plain.varTypes Try.prog) (ds ++ gs)).all (· ≤ reachBytes) = true := hsz0
 have hval : ∀ (j : Nat) t v, Try.f5.params[j]? = some t → args[j]? = some v → Value.okWide Try.prog W .any base t v := hval0
 have hx : ∀ args, HasEls [shDr, shU8s] args → FC Try.prog 5 args (.bool true) [] := fun args ha => by
  have h := x_l08_IsoCounts k_l08_IsoCounts args ha
  rw [show sF "l08.IsoCounts" = 5 by kernel_rfl] at h
  exact h
 refine law_contract (shs := [shDr, shU8s]) (tb := _) (by kernel_rfl) hx rfl (by kernel_rfl) Try.laidOutIsoCounts (by kernel_rfl) rfl ?_ hval hW hsz
 intro ds hl
 match ds, hl with
 | [d1, d2], _ => exact rfl
theorem isoCounts_holds : Rows.IsoCountsSaid :=
 OpenClaim.holds_of_wide 5 Try.f5 rfl rfl rfl rfl rfl rfl rfl ⟨rfl, rfl, rfl, rfl, rfl⟩ rfl rfl rfl rfl rfl (by kernel_rfl) Try.func5 (by kernel_rfl)
  (of_decide_eq_true (by kernel_rfl)) (by unfold Func.isWrapper; first | (rw [if_pos (by decide +kernel)]; kernel_rfl) | (rw [if_neg (by decide +kernel)]; exact ⟨rfl, rfl⟩))
  (fun os started H enc _ => isoCounts_lifted os started H enc)
end Go.Proofs.Ytmkhlefohbfekaa
