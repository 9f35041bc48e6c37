/- The law IsoFind, for every input. -/
import Derived.Test.YtmkhlefohbfekaaGreatKIsoFind
import Derived.ProofKit
import Derived.Test.YtmkhlefohbfekaaGreatSpPa
import Derived.Test.YtmkhlefohbfekaaGreatSpPb
import Derived.Test.YtmkhlefohbfekaaGreatSpPc
import Derived.Test.YtmkhlefohbfekaaGreatSpPd
import Derived.Test.YtmkhlefohbfekaaGreatSpXa
import Derived.Test.YtmkhlefohbfekaaGreatSpXb
import Derived.Test.YtmkhlefohbfekaaGreatSpZa
namespace Go.Proofs.YtmkhlefohbfekaaGreat
open Go Go.Am Go.ChangeShapes Go.WideShapes Go.ChangeAt Go.RowKit
theorem Tryz.ownIsoFind : ownKnob Tryz.prog.godebug = none := by kernel_rfl
theorem Tryz.laidOutIsoFind : laidOutB Tryz.prog = true := by kernel_rfl
set_option maxRecDepth 100000 in
theorem isoFind_lifted (os : Os) (started : os.Started) (H : Type) (enc : TypeId × Value → H) :
  ReturnsInHanded {} Tryz.checked os 3 .any (Rows.isoFindSpec.pre6 enc Tryz.prog Tryz.f3 Rows.isoFindRow.domain false) (Rows.isoFindSpec.post enc Tryz.prog Tryz.f3 false true false false) := by
 refine returnsInHanded_of_change_sized (C := Tryz.checked) Tryz.ownIsoFind started (by kernel_rfl) Tryz.func3
  (ChangeSpec.witness6 (enc := enc) (C := Tryz.checked) false ⟨#[], #[.agg #[.slice none 0 0, .slice none 0 0], .agg #[.slice none 0 0, .slice none 0 0]], []⟩ 8 (by kernel_rfl) (by kernel_rfl) (by kernel_rfl) (by kernel_rfl)) ?_
 intro W base args ds gs before hval0 hW _ hsz0 _
 have hsz : (DataW.weightsEach Tryz.prog (Tryz.f3.params.toList ++ Rows.isoFindSpec.plain.varTypes Tryz.prog) (ds ++ gs)).all (· ≤ reachBytes) = true := hsz0
 have hval : ∀ (j : Nat) t v, Tryz.f3.params[j]? = some t → args[j]? = some v → Value.okWide Tryz.prog W .any base t v := hval0
 have hx : ∀ args, HasEls [shG, shG] args → FC Tryz.prog 3 args (.bool true) [] := fun args ha => by
  have h := x_l08_IsoFind k_l08_IsoFind args ha
  rw [show sF "l08.IsoFind" = 3 by kernel_rfl] at h
  exact h
 refine law_contract (shs := [shG, shG]) (tb := _) (by kernel_rfl) hx rfl (by kernel_rfl) Tryz.laidOutIsoFind (by kernel_rfl) rfl ?_ hval hW hsz
 intro ds hl
 match ds, hl with
 | [d1, d2], _ => exact rfl
theorem isoFind_holds : Rows.IsoFindSaid :=
 OpenClaim.holds_of_wide 3 Tryz.f3 rfl rfl rfl rfl rfl rfl rfl ⟨rfl, rfl, rfl, rfl, rfl⟩ rfl rfl rfl rfl rfl (by kernel_rfl) Tryz.func3 (by kernel_rfl)
  (of_decide_eq_true (by kernel_rfl)) (by unfold Func.isWrapper; first | (rw [if_pos (by decide +kernel)]; kernel_rfl) | (rw [if_neg (by decide +kernel)]; exact ⟨rfl, rfl⟩))
  (fun os started H enc _ => isoFind_lifted os started H enc)
end Go.Proofs.YtmkhlefohbfekaaGreat
