/- The law SquarePastes, for every input. -/
import Derived.Test.YtelmgaflhmcihaaGreatKSquarePastes
import Derived.ProofKit
import Derived.Test.YtelmgaflhmcihaaGreatSpPa
import Derived.Test.YtelmgaflhmcihaaGreatSpPb
import Derived.Test.YtelmgaflhmcihaaGreatSpPc
import Derived.Test.YtelmgaflhmcihaaGreatSpPd
import Derived.Test.YtelmgaflhmcihaaGreatSpPe
import Derived.Test.YtelmgaflhmcihaaGreatSpXa
import Derived.Test.YtelmgaflhmcihaaGreatSpXb
namespace Go.Proofs.YtelmgaflhmcihaaGreat
open Go Go.Am Go.ChangeShapes Go.WideShapes Go.ChangeAt Go.RowKit
theorem Tryz.ownSquarePastes : ownKnob Tryz.prog.godebug = none := by kernel_rfl
theorem Tryz.laidOutSquarePastes : laidOutB Tryz.prog = true := by kernel_rfl
set_option maxRecDepth 100000 in
theorem squarePastes_lifted (os : Os) (started : os.Started) (H : Type) (enc : TypeId × Value → H) :
  ReturnsInHanded {} Tryz.checked os 8 .any (Rows.squarePastesSpec.pre6 enc Tryz.prog Tryz.f8 Rows.squarePastesRow.domain false) (Rows.squarePastesSpec.post enc Tryz.prog Tryz.f8 false true false false) := by
 refine returnsInHanded_of_change_sized (C := Tryz.checked) Tryz.ownSquarePastes started (by kernel_rfl) Tryz.func8
  (ChangeSpec.witness6 (enc := enc) (C := Tryz.checked) false ⟨#[], #[.agg #[.slice none 0 0, .slice none 0 0], .agg #[.slice none 0 0, .slice none 0 0, .slice none 0 0], .slice none 0 0], []⟩ 8 (by kernel_rfl) (by kernel_rfl) (by kernel_rfl) (by kernel_rfl)) ?_
 intro W base args ds gs before hval0 hW _ hsz0 _
 have hsz : (DataW.weightsEach Tryz.prog (Tryz.f8.params.toList ++ Rows.squarePastesSpec.plain.varTypes Tryz.prog) (ds ++ gs)).all (· ≤ reachBytes) = true := hsz0
 have hval : ∀ (j : Nat) t v, Tryz.f8.params[j]? = some t → args[j]? = some v → Value.okWide Tryz.prog W .any base t v := hval0
 have hx : ∀ args, HasEls [shDr, shU83, shU8s] args → FC Tryz.prog 8 args (.bool true) [] := fun args ha => by
  have h := x_l14_SquarePastes k_l14_SquarePastes args ha
  rw [show sF "l14.SquarePastes" = 8 by kernel_rfl] at h
  exact h
 refine law_contract (shs := [shDr, shU83, shU8s]) (tb := _) (by kernel_rfl) hx rfl (by kernel_rfl) Tryz.laidOutSquarePastes (by kernel_rfl) rfl ?_ hval hW hsz
 intro ds hl
 match ds, hl with
 | [d1, d2, d3], _ => exact rfl
theorem squarePastes_holds : Rows.SquarePastesSaid :=
 OpenClaim.holds_of_wide 8 Tryz.f8 rfl rfl rfl rfl rfl rfl rfl ⟨rfl, rfl, rfl, rfl, rfl⟩ rfl rfl rfl rfl rfl (by kernel_rfl) Tryz.func8 (by kernel_rfl)
  (of_decide_eq_true (by kernel_rfl)) (by unfold Func.isWrapper; first | (rw [if_pos (by decide +kernel)]; kernel_rfl) | (rw [if_neg (by decide +kernel)]; exact ⟨rfl, rfl⟩))
  (fun os started H enc _ => squarePastes_lifted os started H enc)
end Go.Proofs.YtelmgaflhmcihaaGreat
