/-
  No cell of these rows narrows 'for every input' (looked for: loops, veiled, ifaces, maps, wideKeys, modest, calm, conditions, laid).
  DERIVED. THE GIVEN ROWS OF THIS SEAT. 7 by the template 'for every input the law returns true; each argument reads behind the call as it read before'; 0 by the template 'total and deterministic' (their statements: YtoeomfoohdheoaaTotals.lean).
  GIVEN WITH THE SEED: the statements are not yours to turn. If you find one false, say at which input.
  Laid BY PROGRAM, IN A SANDBOX (cutbox-rows.mjs): the forced cells as the released guide's own fill.sh prints them over the translation 0de387243f55c555… (all of the seat's roots in one cut). By AI agents, Wed Nov 11 2026. No macro, syntax, notation, axiom, sorry.
-/
import Derived.Test.YtoeomfoohdheoaaChecked
import GoSem.Claim
import GoSem.ClaimJoined
import GoSem.ClaimMapViews
import Derived.JoinedTies
import Derived.KernelRfl
namespace Go.Proofs.Ytoeomfoohdheoaa
/- THE CELL 'sum', in the pinned program and in every row, IS THE sha256 OF THE DUMP (.gsa) THAT YtoeomfoohdheoaaProg.lean LOADS. Nothing in Lean hashes anything: it is a label: what it is worth is what the hold of that sum in a sandbox is worth. -/
noncomputable def Try.pinned : Pinned := { name := "ytoeomfoohdheoaa", sum := "0de387243f55c555e39054d2855a59abc83326ab09e4e67b5fd9a8f858a96cb1", checked := Try.checked }
namespace Rows
def none {H : Type} : Left H := { results := [], args := [] }

/-- 'scarfjointlaw12.ComplementOf': WHATEVER THE INPUT: true; the input reads as it did. -/
def complementOfSpec : ChangeSpec := { name := "complementOf", fn := fun _ => fun
  | [d] => { results := [.lit (.bool true)], args := [d] }
  | _ => none }
def complementOfRow : OpenClaim := { program := "ytoeomfoohdheoaa", sum := "0de387243f55c555e39054d2855a59abc83326ab09e4e67b5fd9a8f858a96cb1", func := "scarfjoint/scarfjointlaw12.ComplementOf", spec := "complementOf", unfollowed := true, recurses := true, apart := false }
def ComplementOfSaid : Prop := complementOfRow.holds Try.pinned (OpenSpec.ofChange complementOfSpec)

/-- ITS FALSE NEIGHBOUR: 'it returns false'. Refute it at one input. -/
def complementOfWrong : ChangeSpec := { name := "complementOf", fn := fun _ => fun
  | [d] => { results := [.lit (.bool false)], args := [d] }
  | _ => none }
def ComplementOfWrongFalsely : Prop := complementOfRow.holds Try.pinned (OpenSpec.ofChange complementOfWrong)

/-- 'scarfjointlaw12.ComplementRepair': WHATEVER THE INPUT: true; the input reads as it did. -/
def complementRepairSpec : ChangeSpec := { name := "complementRepair", fn := fun _ => fun
  | [d] => { results := [.lit (.bool true)], args := [d] }
  | _ => none }
def complementRepairRow : OpenClaim := { program := "ytoeomfoohdheoaa", sum := "0de387243f55c555e39054d2855a59abc83326ab09e4e67b5fd9a8f858a96cb1", func := "scarfjoint/scarfjointlaw12.ComplementRepair", spec := "complementRepair", unfollowed := true, recurses := true, apart := false }
def ComplementRepairSaid : Prop := complementRepairRow.holds Try.pinned (OpenSpec.ofChange complementRepairSpec)

/-- ITS FALSE NEIGHBOUR: 'it returns false'. Refute it at one input. -/
def complementRepairWrong : ChangeSpec := { name := "complementRepair", fn := fun _ => fun
  | [d] => { results := [.lit (.bool false)], args := [d] }
  | _ => none }
def ComplementRepairWrongFalsely : Prop := complementRepairRow.holds Try.pinned (OpenSpec.ofChange complementRepairWrong)

/-- 'scarfjointlaw12.ComplementCovers': WHATEVER THE INPUT: true; the input reads as it did. -/
def complementCoversSpec : ChangeSpec := { name := "complementCovers", fn := fun _ => fun
  | [d1, d2, d3] => { results := [.lit (.bool true)], args := [d1, d2, d3] }
  | _ => none }
def complementCoversRow : OpenClaim := { program := "ytoeomfoohdheoaa", sum := "0de387243f55c555e39054d2855a59abc83326ab09e4e67b5fd9a8f858a96cb1", func := "scarfjoint/scarfjointlaw12.ComplementCovers", spec := "complementCovers", unfollowed := true, recurses := true, apart := false }
def ComplementCoversSaid : Prop := complementCoversRow.holds Try.pinned (OpenSpec.ofChange complementCoversSpec)

/-- ITS FALSE NEIGHBOUR: 'it returns false'. Refute it at one input. -/
def complementCoversWrong : ChangeSpec := { name := "complementCovers", fn := fun _ => fun
  | [d1, d2, d3] => { results := [.lit (.bool false)], args := [d1, d2, d3] }
  | _ => none }
def ComplementCoversWrongFalsely : Prop := complementCoversRow.holds Try.pinned (OpenSpec.ofChange complementCoversWrong)

/-- 'scarfjointlaw12.ComplementCheck': WHATEVER THE INPUT: true; the input reads as it did. -/
def complementCheckSpec : ChangeSpec := { name := "complementCheck", fn := fun _ => fun
  | [d1, d2] => { results := [.lit (.bool true)], args := [d1, d2] }
  | _ => none }
def complementCheckRow : OpenClaim := { program := "ytoeomfoohdheoaa", sum := "0de387243f55c555e39054d2855a59abc83326ab09e4e67b5fd9a8f858a96cb1", func := "scarfjoint/scarfjointlaw12.ComplementCheck", spec := "complementCheck", unfollowed := true, recurses := true, apart := false }
def ComplementCheckSaid : Prop := complementCheckRow.holds Try.pinned (OpenSpec.ofChange complementCheckSpec)

/-- ITS FALSE NEIGHBOUR: 'it returns false'. Refute it at one input. -/
def complementCheckWrong : ChangeSpec := { name := "complementCheck", fn := fun _ => fun
  | [d1, d2] => { results := [.lit (.bool false)], args := [d1, d2] }
  | _ => none }
def ComplementCheckWrongFalsely : Prop := complementCheckRow.holds Try.pinned (OpenSpec.ofChange complementCheckWrong)

/-- 'scarfjointlaw12.ComplementViolations': WHATEVER THE INPUT: true; the input reads as it did. -/
def complementViolationsSpec : ChangeSpec := { name := "complementViolations", fn := fun _ => fun
  | [d] => { results := [.lit (.bool true)], args := [d] }
  | _ => none }
def complementViolationsRow : OpenClaim := { program := "ytoeomfoohdheoaa", sum := "0de387243f55c555e39054d2855a59abc83326ab09e4e67b5fd9a8f858a96cb1", func := "scarfjoint/scarfjointlaw12.ComplementViolations", spec := "complementViolations", unfollowed := true, recurses := true, apart := false }
def ComplementViolationsSaid : Prop := complementViolationsRow.holds Try.pinned (OpenSpec.ofChange complementViolationsSpec)

/-- ITS FALSE NEIGHBOUR: 'it returns false'. Refute it at one input. -/
def complementViolationsWrong : ChangeSpec := { name := "complementViolations", fn := fun _ => fun
  | [d] => { results := [.lit (.bool false)], args := [d] }
  | _ => none }
def ComplementViolationsWrongFalsely : Prop := complementViolationsRow.holds Try.pinned (OpenSpec.ofChange complementViolationsWrong)

/-- 'scarfjointlaw12.ComplementLeast': WHATEVER THE INPUT: true; the input reads as it did. -/
def complementLeastSpec : ChangeSpec := { name := "complementLeast", fn := fun _ => fun
  | [d1, d2, d3] => { results := [.lit (.bool true)], args := [d1, d2, d3] }
  | _ => none }
def complementLeastRow : OpenClaim := { program := "ytoeomfoohdheoaa", sum := "0de387243f55c555e39054d2855a59abc83326ab09e4e67b5fd9a8f858a96cb1", func := "scarfjoint/scarfjointlaw12.ComplementLeast", spec := "complementLeast", unfollowed := true, recurses := true, apart := false }
def ComplementLeastSaid : Prop := complementLeastRow.holds Try.pinned (OpenSpec.ofChange complementLeastSpec)

/-- ITS FALSE NEIGHBOUR: 'it returns false'. Refute it at one input. -/
def complementLeastWrong : ChangeSpec := { name := "complementLeast", fn := fun _ => fun
  | [d1, d2, d3] => { results := [.lit (.bool false)], args := [d1, d2, d3] }
  | _ => none }
def ComplementLeastWrongFalsely : Prop := complementLeastRow.holds Try.pinned (OpenSpec.ofChange complementLeastWrong)

/-- 'scarfjointlaw12.ComplementPushout': WHATEVER THE INPUT: true; the input reads as it did. -/
def complementPushoutSpec : ChangeSpec := { name := "complementPushout", fn := fun _ => fun
  | [d1, d2, d3] => { results := [.lit (.bool true)], args := [d1, d2, d3] }
  | _ => none }
def complementPushoutRow : OpenClaim := { program := "ytoeomfoohdheoaa", sum := "0de387243f55c555e39054d2855a59abc83326ab09e4e67b5fd9a8f858a96cb1", func := "scarfjoint/scarfjointlaw12.ComplementPushout", spec := "complementPushout", unfollowed := true, recurses := true, apart := false }
def ComplementPushoutSaid : Prop := complementPushoutRow.holds Try.pinned (OpenSpec.ofChange complementPushoutSpec)

/-- ITS FALSE NEIGHBOUR: 'it returns false'. Refute it at one input. -/
def complementPushoutWrong : ChangeSpec := { name := "complementPushout", fn := fun _ => fun
  | [d1, d2, d3] => { results := [.lit (.bool false)], args := [d1, d2, d3] }
  | _ => none }
def ComplementPushoutWrongFalsely : Prop := complementPushoutRow.holds Try.pinned (OpenSpec.ofChange complementPushoutWrong)

/- THE SECOND FORM. 'bulk': how many values and letters a reading holds, each counted each time it is reached (what is shared counts as often as it is met; a slice's spare places count too). A statement '..UptoSaid' is the law's where the arguments, and the package variables that the reading takes, are together of bulk at most 1048576: NARROWER than '..Said'. Prove '..Said' where nothing that the law and all that it calls make is longer than what came in: it says more and counts as full. Else prove '..UptoSaid'. A law counts once. -/
mutual
def uptoBulk {H : Type} : DataW H → Nat
  | .lit (.string bytes) => bytes.length + 1
  | .lit _ => 1
  | .nil => 1
  | .ptr d => uptoBulk d + 1
  | .slice elems spare => uptoBulkAll elems + uptoBulkAll spare + 1
  | .agg parts => uptoBulkAll parts + 1
  | .iface _ d => uptoBulk d + 1
  | .map entries => uptoBulkEntries entries + 1
  | .held _ => 1
def uptoBulkAll {H : Type} : List (DataW H) → Nat
  | [] => 0
  | d :: r => uptoBulk d + uptoBulkAll r
def uptoBulkEntries {H : Type} : List (Lit × DataW H) → Nat
  | [] => 0
  | x :: r => uptoBulkEntry x + uptoBulkEntries r
def uptoBulkEntry {H : Type} : Lit × DataW H → Nat
  | (.string bytes, d) => bytes.length + uptoBulk d + 1
  | (_, d) => uptoBulk d + 1
 end
def uptoSmall : (H : Type) → List (DataW H) → Bool := fun _ ds => decide (uptoBulkAll ds ≤ 1048576)
def OpenSpec.upto (s : _root_.Go.ChangeSpec) : _root_.Go.OpenSpec := { _root_.Go.OpenSpec.ofChange s with cond := some uptoSmall }

/-- 'scarfjointlaw12.ComplementOf', WHERE WHAT IT READS IS OF BULK AT MOST 1048576: true; the input reads as it did. -/
def complementOfUptoRow : OpenClaim := { program := "ytoeomfoohdheoaa", sum := "0de387243f55c555e39054d2855a59abc83326ab09e4e67b5fd9a8f858a96cb1", func := "scarfjoint/scarfjointlaw12.ComplementOf", spec := "complementOf", unfollowed := true, recurses := true, apart := false, narrowed := true }
def ComplementOfUptoSaid : Prop := complementOfUptoRow.holds Try.pinned (OpenSpec.upto complementOfSpec)

/-- 'scarfjointlaw12.ComplementRepair', WHERE WHAT IT READS IS OF BULK AT MOST 1048576: true; the input reads as it did. -/
def complementRepairUptoRow : OpenClaim := { program := "ytoeomfoohdheoaa", sum := "0de387243f55c555e39054d2855a59abc83326ab09e4e67b5fd9a8f858a96cb1", func := "scarfjoint/scarfjointlaw12.ComplementRepair", spec := "complementRepair", unfollowed := true, recurses := true, apart := false, narrowed := true }
def ComplementRepairUptoSaid : Prop := complementRepairUptoRow.holds Try.pinned (OpenSpec.upto complementRepairSpec)

/-- 'scarfjointlaw12.ComplementCovers', WHERE WHAT IT READS IS OF BULK AT MOST 1048576: true; the input reads as it did. -/
def complementCoversUptoRow : OpenClaim := { program := "ytoeomfoohdheoaa", sum := "0de387243f55c555e39054d2855a59abc83326ab09e4e67b5fd9a8f858a96cb1", func := "scarfjoint/scarfjointlaw12.ComplementCovers", spec := "complementCovers", unfollowed := true, recurses := true, apart := false, narrowed := true }
def ComplementCoversUptoSaid : Prop := complementCoversUptoRow.holds Try.pinned (OpenSpec.upto complementCoversSpec)

/-- 'scarfjointlaw12.ComplementCheck', WHERE WHAT IT READS IS OF BULK AT MOST 1048576: true; the input reads as it did. -/
def complementCheckUptoRow : OpenClaim := { program := "ytoeomfoohdheoaa", sum := "0de387243f55c555e39054d2855a59abc83326ab09e4e67b5fd9a8f858a96cb1", func := "scarfjoint/scarfjointlaw12.ComplementCheck", spec := "complementCheck", unfollowed := true, recurses := true, apart := false, narrowed := true }
def ComplementCheckUptoSaid : Prop := complementCheckUptoRow.holds Try.pinned (OpenSpec.upto complementCheckSpec)

/-- 'scarfjointlaw12.ComplementViolations', WHERE WHAT IT READS IS OF BULK AT MOST 1048576: true; the input reads as it did. -/
def complementViolationsUptoRow : OpenClaim := { program := "ytoeomfoohdheoaa", sum := "0de387243f55c555e39054d2855a59abc83326ab09e4e67b5fd9a8f858a96cb1", func := "scarfjoint/scarfjointlaw12.ComplementViolations", spec := "complementViolations", unfollowed := true, recurses := true, apart := false, narrowed := true }
def ComplementViolationsUptoSaid : Prop := complementViolationsUptoRow.holds Try.pinned (OpenSpec.upto complementViolationsSpec)

/-- 'scarfjointlaw12.ComplementLeast', WHERE WHAT IT READS IS OF BULK AT MOST 1048576: true; the input reads as it did. -/
def complementLeastUptoRow : OpenClaim := { program := "ytoeomfoohdheoaa", sum := "0de387243f55c555e39054d2855a59abc83326ab09e4e67b5fd9a8f858a96cb1", func := "scarfjoint/scarfjointlaw12.ComplementLeast", spec := "complementLeast", unfollowed := true, recurses := true, apart := false, narrowed := true }
def ComplementLeastUptoSaid : Prop := complementLeastUptoRow.holds Try.pinned (OpenSpec.upto complementLeastSpec)

/-- 'scarfjointlaw12.ComplementPushout', WHERE WHAT IT READS IS OF BULK AT MOST 1048576: true; the input reads as it did. -/
def complementPushoutUptoRow : OpenClaim := { program := "ytoeomfoohdheoaa", sum := "0de387243f55c555e39054d2855a59abc83326ab09e4e67b5fd9a8f858a96cb1", func := "scarfjoint/scarfjointlaw12.ComplementPushout", spec := "complementPushout", unfollowed := true, recurses := true, apart := false, narrowed := true }
def ComplementPushoutUptoSaid : Prop := complementPushoutUptoRow.holds Try.pinned (OpenSpec.upto complementPushoutSpec)

end Rows
end Go.Proofs.Ytoeomfoohdheoaa
