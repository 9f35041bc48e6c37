/- Contracts and what they rest on: AmEv. -/
import Derived.Test.YtgllpjliaepbdaaGreatAmV
set_option linter.unusedVariables false
set_option linter.unusedSimpArgs false
set_option linter.unnecessarySimpa false
namespace Go.Am
open Go
attribute [go_sem] Qpw QpA QpB QpD QpH QpJ QpL QpR Qp4 Qp6 Qp9 Qqq Qqw Qqy QqH QqI QqM QqQ QqU Qq2 QqV QqW QqX QqY QqZ Qq0 Qq1 QqS QqT QpI Qp2 Qp3 Qp5 Qp7 Qp8 QqR Qqa Qqb Qqc Qqd Qqe Qqf Qqg Qqh Qqi Qqj Qje Qqk Qp1 QqB Qpx Qpn Qpo Qpp Qpq Qpr Qps Qpt Qpu Qpv Qpy Qpz Option.map_some Option.map_none Option.bind_some Option.bind_none List.contains List.elem if_true if_false Bool.false_eq_true Nat.zero_add Nat.add_zero List.append_nil List.nil_append List.cons_append List.length_cons List.length_nil List.replicate_succ List.replicate_zero List.map_nil List.map_cons List.all_nil List.all_cons Bool.and_true Bool.true_and Bool.not_true Bool.not_false QpC wrap_i64 Ji QpE QpF List.set_cons_zero List.set_cons_succ List.take_succ_cons List.take_zero List.drop_succ_cons List.drop_zero true_and and_true and_self false_and and_false Nat.le_refl Nat.lt_irrefl List.take_length forall_const decide_eq_true_eq decide_eq_false_iff_not Bool.and_eq_true List.flatMap_nil List.flatMap_cons List.filterMap_nil List.filterMap_cons List.zip_nil_left List.zip_nil_right List.zip_cons_cons forall_eq' IntKind.bits Qi1 QpK QpM QpN QpO QpP QpQ QpT QpU QpV QpW QpX QpY QpZ Qp0 Qql Qqm Qqn Qqo Qqx Qqp Qqr Qqs Qqt Qqu Qqv Qqz QqA QqC QqD QqE QqF QqG QpS QqJ QqK QqL QqN QqO QqP Option.getD_some Option.getD_none
attribute [go_sem_proc ↓] reduceIte
attribute [go_sem_proc] Nat.reduceEqDiff Nat.reduceBEq Nat.reduceAdd Nat.reduceSub Nat.reduceMul Nat.reduceLT Nat.reduceLeDiff reduceCtorEq Nat.reduceDiv Nat.reducePow Nat.reduceMod Int.reduceToNat
end Go.Am
