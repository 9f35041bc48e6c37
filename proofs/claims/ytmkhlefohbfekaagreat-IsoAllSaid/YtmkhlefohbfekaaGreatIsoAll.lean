/- The law IsoAll, for every input. -/
import Derived.Test.YtmkhlefohbfekaaGreatKIsoAll
import Derived.ProofKit
import Derived.Test.YtmkhlefohbfekaaGreatSpPa
import Derived.Test.YtmkhlefohbfekaaGreatSpPb
import Derived.Test.YtmkhlefohbfekaaGreatSpPc
import Derived.Test.YtmkhlefohbfekaaGreatSpPd
import Derived.Test.YtmkhlefohbfekaaGreatSpXa
import Derived.Test.YtmkhlefohbfekaaGreatSpXb
import Derived.Test.YtmkhlefohbfekaaGreatSpZa
namespace Go.Proofs.YtmkhlefohbfekaaGreat
open Go Go.Am Go.ChangeShapes Go.WideShapes Go.ChangeAt Go.RowKit
theorem Tryz.ownIsoAll : ownKnob Tryz.prog.godebug = none := by kernel_rfl
theorem Tryz.laidOutIsoAll : laidOutB Tryz.prog = true := by kernel_rfl
set_option maxRecDepth 100000 in
theorem isoAll_lifted (os : Os) (started : os.Started) (H : Type) (enc : TypeId × Value → H) :
  ReturnsInHanded {} Tryz.checked os 6 .any (Rows.isoAllSpec.pre6 enc Tryz.prog Tryz.f6 Rows.isoAllRow.domain false) (Rows.isoAllSpec.post enc Tryz.prog Tryz.f6 false true false false) := by
 refine returnsInHanded_of_change_sized (C := Tryz.checked) Tryz.ownIsoAll started (by kernel_rfl) Tryz.func6
  (ChangeSpec.witness6 (enc := enc) (C := Tryz.checked) false ⟨#[], #[.agg #[.slice none 0 0, .slice none 0 0], .agg #[.slice none 0 0, .slice none 0 0]], []⟩ 8 (by kernel_rfl) (by kernel_rfl) (by kernel_rfl) (by kernel_rfl)) ?_
 intro W base args ds gs before hval0 hW _ hsz0 _
 have hsz : (DataW.weightsEach Tryz.prog (Tryz.f6.params.toList ++ Rows.isoAllSpec.plain.varTypes Tryz.prog) (ds ++ gs)).all (· ≤ reachBytes) = true := hsz0
 have hval : ∀ (j : Nat) t v, Tryz.f6.params[j]? = some t → args[j]? = some v → Value.okWide Tryz.prog W .any base t v := hval0
 have hx : ∀ args, HasEls [shG, shG] args → FC Tryz.prog 6 args (.bool true) [] := fun args ha => by
  have h := x_l08_IsoAll k_l08_IsoAll args ha
  rw [show sF "l08.IsoAll" = 6 by kernel_rfl] at h
  exact h
 refine law_contract (shs := [shG, shG]) (tb := _) (by kernel_rfl) hx rfl (by kernel_rfl) Tryz.laidOutIsoAll (by kernel_rfl) rfl ?_ hval hW hsz
 intro ds hl
 match ds, hl with
 | [d1, d2], _ => exact rfl
theorem isoAll_holds : Rows.IsoAllSaid :=
 OpenClaim.holds_of_wide 6 Tryz.f6 rfl rfl rfl rfl rfl rfl rfl ⟨rfl, rfl, rfl, rfl, rfl⟩ rfl rfl rfl rfl rfl (by kernel_rfl) Tryz.func6 (by kernel_rfl)
  (of_decide_eq_true (by kernel_rfl)) (by unfold Func.isWrapper; first | (rw [if_pos (by decide +kernel)]; kernel_rfl) | (rw [if_neg (by decide +kernel)]; exact ⟨rfl, rfl⟩))
  (fun os started H enc _ => isoAll_lifted os started H enc)
end Go.Proofs.YtmkhlefohbfekaaGreat
