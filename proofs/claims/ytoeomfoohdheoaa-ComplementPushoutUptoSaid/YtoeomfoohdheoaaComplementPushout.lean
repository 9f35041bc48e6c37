/- The law ComplementPushout, for every input of bulk at most 1048576. -/
import Derived.Test.YtoeomfoohdheoaaKComplementPushout
import Derived.Test.YtoeomfoohdheoaaSpK
import Derived.ProofKit
import Derived.JoinedCond
import Derived.Deep.CondSized
namespace Go.Proofs.Ytoeomfoohdheoaa
open Go Go.Am Go.ChangeShapes Go.WideShapes Go.ChangeAt Go.RowKit
theorem complementPushout_one {H : Type} (d : DataW H) : 1 ≤ Rows.uptoBulk d := by
  cases d with
  | lit l => cases l <;> simp [Rows.uptoBulk]
  | nil => simp [Rows.uptoBulk]
  | ptr d => simp [Rows.uptoBulk]
  | slice elems spare => simp [Rows.uptoBulk]
  | agg parts => simp [Rows.uptoBulk]
  | iface t d => simp [Rows.uptoBulk]
  | map entries => simp [Rows.uptoBulk]
  | held h => simp [Rows.uptoBulk]
theorem complementPushout_len {H : Type} (l : List (DataW H)) : l.length ≤ Rows.uptoBulkAll l := by
  induction l with
  | nil => simp [Rows.uptoBulkAll]
  | cons x r ih => have := complementPushout_one x; simp only [Rows.uptoBulkAll, List.length_cons]; omega
theorem complementPushout_bulk (H : Type) : Bulk (H := H) Rows.uptoBulk Rows.uptoBulkAll :=
  ⟨fun a b => by have := complementPushout_len a; simp only [Rows.uptoBulk]; omega, fun l => by simp only [Rows.uptoBulk]; omega, fun d l => by simp only [Rows.uptoBulkAll]⟩
theorem Try.ownComplementPushout : ownKnob Try.prog.godebug = none := by kernel_rfl
theorem Try.laidOutComplementPushout : laidOutB Try.prog = true := by kernel_rfl
set_option maxRecDepth 100000 in
theorem complementPushout_lifted (os : Os) (started : os.Started) (H : Type) (enc : TypeId × Value → H) (F : Stop.Interp) :
    ReturnsInHanded {} Try.checked os 9 .any ((Rows.OpenSpec.upto Rows.complementPushoutSpec).pre6 enc Try.prog Try.f9 Rows.complementPushoutUptoRow.domain false) (((Rows.OpenSpec.upto Rows.complementPushoutSpec).at F).post enc Try.prog Try.f9 false true false false) := by
  refine returnsInHanded_of_cond_sized (C := Try.checked) (s := Rows.OpenSpec.upto Rows.complementPushoutSpec) (k := Rows.uptoSmall) rfl Try.ownComplementPushout started (by kernel_rfl) Try.func9
    (OpenSpec.witness (enc := enc) (C := Try.checked) (s := Rows.OpenSpec.upto Rows.complementPushoutSpec) (k := Rows.uptoSmall) rfl false ⟨#[], #[.agg #[.slice none 0 0, .slice none 0 0], .slice none 0 0, .int .u64 0], []⟩ 8 (by kernel_rfl) (by kernel_rfl) (by kernel_rfl)
      (x := ([.agg [.nil, .nil], .nil, .lit (.int .u64 0)], [], [])) (by kernel_rfl) rfl (by kernel_rfl)) ?_
  intro W base args ds gs before hval0 hW _ hk hsz0 _
  have hk : Rows.uptoSmall H (ds ++ gs) = true := hk
  have hlim : Rows.uptoBulkAll (ds ++ gs) ≤ 1048576 := of_decide_eq_true hk
  have hsz : (DataW.weightsEach Try.prog (Try.f9.params.toList ++ Rows.complementPushoutSpec.plain.varTypes Try.prog) (ds ++ gs)).all (· ≤ reachBytes) = true := hsz0
  have hval : ∀ (j : Nat) t v, Try.f9.params[j]? = some t → args[j]? = some v → Value.okWide Try.prog W .any base t v := hval0
  have hW : DataW.Whole enc Try.prog Try.f9.params.toList Rows.complementPushoutSpec.vars false W args.toList ds gs before := hW
  have hx : ∀ args, HasEls [shDr, shU8s, shU64] args → dszS args ≤ 1048576 → FC Try.prog 9 args (.bool true) [] := fun args ha hz => by
    have h := x_l12_ComplementPushout k_l12_ComplementPushout args ha hz
    rw [show sF "l12.ComplementPushout" = 9 by kernel_rfl] at h
    exact h
  refine law_contractU (s := Rows.complementPushoutSpec) (complementPushout_bulk H) (shs := [shDr, shU8s, shU64]) (tb := _) (by kernel_rfl) hx rfl (by kernel_rfl) Try.laidOutComplementPushout (by kernel_rfl) rfl ?_ hval hW hlim hsz
  intro ds hl
  match ds, hl with
  | [d1, d2, d3], _ => exact rfl
theorem complementPushoutUpto_holds : Rows.ComplementPushoutUptoSaid :=
  OpenClaim.holds_of_cond 9 Try.f9 rfl rfl rfl rfl rfl rfl rfl ⟨rfl, rfl, rfl, rfl, rfl⟩ rfl rfl rfl rfl rfl (by kernel_rfl) Try.func9 (by kernel_rfl)
    (of_decide_eq_true (by kernel_rfl)) (by unfold Func.isWrapper; first | (rw [if_pos (by decide +kernel)]; kernel_rfl) | (rw [if_neg (by decide +kernel)]; exact ⟨rfl, rfl⟩))
    (fun os started H enc _ F => complementPushout_lifted os started H enc F)
end Go.Proofs.Ytoeomfoohdheoaa
