/-
  No cell of these rows narrows 'for every input' (looked for: loops, veiled, ifaces, maps, wideKeys, modest, calm, conditions, laid).
  DERIVED. THE GIVEN ROWS OF THIS SEAT. 7 by the template 'for every input the law returns true; each argument reads behind the call as it read before'; 0 by the template 'total and deterministic' (their statements: YtfkkngepnnkloaaTotals.lean).
  GIVEN WITH THE SEED: the statements are not yours to turn. If you find one false, say at which input.
  Laid BY PROGRAM, IN A SANDBOX (cutbox-rows.mjs): the forced cells as the released guide's own fill.sh prints them over the translation f3bdca1de7af7544… (all of the seat's roots in one cut). By AI agents, Wed Nov 11 2026. No macro, syntax, notation, axiom, sorry.
-/
import Derived.Test.YtfkkngepnnkloaaChecked
import GoSem.Claim
import GoSem.ClaimJoined
import GoSem.ClaimMapViews
import Derived.JoinedTies
import Derived.KernelRfl
namespace Go.Proofs.Ytfkkngepnnkloaa
/- THE CELL 'sum', in the pinned program and in every row, IS THE sha256 OF THE DUMP (.gsa) THAT YtfkkngepnnkloaaProg.lean LOADS. Nothing in Lean hashes anything: it is a label: what it is worth is what the hold of that sum in a sandbox is worth. -/
noncomputable def Try.pinned : Pinned := { name := "ytfkkngepnnkloaa", sum := "f3bdca1de7af754407500dd7a55a82185d234875a062c5baec92a90c77e30e48", checked := Try.checked }
namespace Rows
def none {H : Type} : Left H := { results := [], args := [] }

/-- 'scarfjointlaw05.GraphRemove': WHATEVER THE INPUT: true; the input reads as it did. -/
def graphRemoveSpec : ChangeSpec := { name := "graphRemove", fn := fun _ => fun
  | [d1, d2, d3] => { results := [.lit (.bool true)], args := [d1, d2, d3] }
  | _ => none }
def graphRemoveRow : OpenClaim := { program := "ytfkkngepnnkloaa", sum := "f3bdca1de7af754407500dd7a55a82185d234875a062c5baec92a90c77e30e48", func := "scarfjoint/scarfjointlaw05.GraphRemove", spec := "graphRemove", unfollowed := true, recurses := true, apart := false }
def GraphRemoveSaid : Prop := graphRemoveRow.holds Try.pinned (OpenSpec.ofChange graphRemoveSpec)

/-- ITS FALSE NEIGHBOUR: 'it returns false'. Refute it at one input. -/
def graphRemoveWrong : ChangeSpec := { name := "graphRemove", fn := fun _ => fun
  | [d1, d2, d3] => { results := [.lit (.bool false)], args := [d1, d2, d3] }
  | _ => none }
def GraphRemoveWrongFalsely : Prop := graphRemoveRow.holds Try.pinned (OpenSpec.ofChange graphRemoveWrong)

/-- 'scarfjointlaw05.GraphIncident': WHATEVER THE INPUT: true; the input reads as it did. -/
def graphIncidentSpec : ChangeSpec := { name := "graphIncident", fn := fun _ => fun
  | [d1, d2] => { results := [.lit (.bool true)], args := [d1, d2] }
  | _ => none }
def graphIncidentRow : OpenClaim := { program := "ytfkkngepnnkloaa", sum := "f3bdca1de7af754407500dd7a55a82185d234875a062c5baec92a90c77e30e48", func := "scarfjoint/scarfjointlaw05.GraphIncident", spec := "graphIncident", unfollowed := true, recurses := true, apart := false }
def GraphIncidentSaid : Prop := graphIncidentRow.holds Try.pinned (OpenSpec.ofChange graphIncidentSpec)

/-- ITS FALSE NEIGHBOUR: 'it returns false'. Refute it at one input. -/
def graphIncidentWrong : ChangeSpec := { name := "graphIncident", fn := fun _ => fun
  | [d1, d2] => { results := [.lit (.bool false)], args := [d1, d2] }
  | _ => none }
def GraphIncidentWrongFalsely : Prop := graphIncidentRow.holds Try.pinned (OpenSpec.ofChange graphIncidentWrong)

/-- 'scarfjointlaw05.GraphAdd': WHATEVER THE INPUT: true; the input reads as it did. -/
def graphAddSpec : ChangeSpec := { name := "graphAdd", fn := fun _ => fun
  | [d1, d2] => { results := [.lit (.bool true)], args := [d1, d2] }
  | _ => none }
def graphAddRow : OpenClaim := { program := "ytfkkngepnnkloaa", sum := "f3bdca1de7af754407500dd7a55a82185d234875a062c5baec92a90c77e30e48", func := "scarfjoint/scarfjointlaw05.GraphAdd", spec := "graphAdd", unfollowed := true, recurses := true, apart := false }
def GraphAddSaid : Prop := graphAddRow.holds Try.pinned (OpenSpec.ofChange graphAddSpec)

/-- ITS FALSE NEIGHBOUR: 'it returns false'. Refute it at one input. -/
def graphAddWrong : ChangeSpec := { name := "graphAdd", fn := fun _ => fun
  | [d1, d2] => { results := [.lit (.bool false)], args := [d1, d2] }
  | _ => none }
def GraphAddWrongFalsely : Prop := graphAddRow.holds Try.pinned (OpenSpec.ofChange graphAddWrong)

/-- 'scarfjointlaw05.GraphEdge': WHATEVER THE INPUT: true; the input reads as it did. -/
def graphEdgeSpec : ChangeSpec := { name := "graphEdge", fn := fun _ => fun
  | [d1, d2] => { results := [.lit (.bool true)], args := [d1, d2] }
  | _ => none }
def graphEdgeRow : OpenClaim := { program := "ytfkkngepnnkloaa", sum := "f3bdca1de7af754407500dd7a55a82185d234875a062c5baec92a90c77e30e48", func := "scarfjoint/scarfjointlaw05.GraphEdge", spec := "graphEdge", unfollowed := true, recurses := true, apart := false }
def GraphEdgeSaid : Prop := graphEdgeRow.holds Try.pinned (OpenSpec.ofChange graphEdgeSpec)

/-- ITS FALSE NEIGHBOUR: 'it returns false'. Refute it at one input. -/
def graphEdgeWrong : ChangeSpec := { name := "graphEdge", fn := fun _ => fun
  | [d1, d2] => { results := [.lit (.bool false)], args := [d1, d2] }
  | _ => none }
def GraphEdgeWrongFalsely : Prop := graphEdgeRow.holds Try.pinned (OpenSpec.ofChange graphEdgeWrong)

/-- 'scarfjointlaw05.GraphUnion': WHATEVER THE INPUT: true; the input reads as it did. -/
def graphUnionSpec : ChangeSpec := { name := "graphUnion", fn := fun _ => fun
  | [d1, d2] => { results := [.lit (.bool true)], args := [d1, d2] }
  | _ => none }
def graphUnionRow : OpenClaim := { program := "ytfkkngepnnkloaa", sum := "f3bdca1de7af754407500dd7a55a82185d234875a062c5baec92a90c77e30e48", func := "scarfjoint/scarfjointlaw05.GraphUnion", spec := "graphUnion", unfollowed := true, recurses := true, apart := false }
def GraphUnionSaid : Prop := graphUnionRow.holds Try.pinned (OpenSpec.ofChange graphUnionSpec)

/-- ITS FALSE NEIGHBOUR: 'it returns false'. Refute it at one input. -/
def graphUnionWrong : ChangeSpec := { name := "graphUnion", fn := fun _ => fun
  | [d1, d2] => { results := [.lit (.bool false)], args := [d1, d2] }
  | _ => none }
def GraphUnionWrongFalsely : Prop := graphUnionRow.holds Try.pinned (OpenSpec.ofChange graphUnionWrong)

/-- 'scarfjointlaw05.GraphBack': WHATEVER THE INPUT: true; the input reads as it did. -/
def graphBackSpec : ChangeSpec := { name := "graphBack", fn := fun _ => fun
  | [d1, d2] => { results := [.lit (.bool true)], args := [d1, d2] }
  | _ => none }
def graphBackRow : OpenClaim := { program := "ytfkkngepnnkloaa", sum := "f3bdca1de7af754407500dd7a55a82185d234875a062c5baec92a90c77e30e48", func := "scarfjoint/scarfjointlaw05.GraphBack", spec := "graphBack", unfollowed := true, recurses := true, apart := false }
def GraphBackSaid : Prop := graphBackRow.holds Try.pinned (OpenSpec.ofChange graphBackSpec)

/-- ITS FALSE NEIGHBOUR: 'it returns false'. Refute it at one input. -/
def graphBackWrong : ChangeSpec := { name := "graphBack", fn := fun _ => fun
  | [d1, d2] => { results := [.lit (.bool false)], args := [d1, d2] }
  | _ => none }
def GraphBackWrongFalsely : Prop := graphBackRow.holds Try.pinned (OpenSpec.ofChange graphBackWrong)

/-- 'scarfjointlaw05.GraphParts': WHATEVER THE INPUT: true; the input reads as it did. -/
def graphPartsSpec : ChangeSpec := { name := "graphParts", fn := fun _ => fun
  | [d1, d2] => { results := [.lit (.bool true)], args := [d1, d2] }
  | _ => none }
def graphPartsRow : OpenClaim := { program := "ytfkkngepnnkloaa", sum := "f3bdca1de7af754407500dd7a55a82185d234875a062c5baec92a90c77e30e48", func := "scarfjoint/scarfjointlaw05.GraphParts", spec := "graphParts", unfollowed := true, recurses := true, apart := false }
def GraphPartsSaid : Prop := graphPartsRow.holds Try.pinned (OpenSpec.ofChange graphPartsSpec)

/-- ITS FALSE NEIGHBOUR: 'it returns false'. Refute it at one input. -/
def graphPartsWrong : ChangeSpec := { name := "graphParts", fn := fun _ => fun
  | [d1, d2] => { results := [.lit (.bool false)], args := [d1, d2] }
  | _ => none }
def GraphPartsWrongFalsely : Prop := graphPartsRow.holds Try.pinned (OpenSpec.ofChange graphPartsWrong)

/- THE SECOND FORM. 'bulk': how many values and letters a reading holds, each counted each time it is reached (what is shared counts as often as it is met; a slice's spare places count too). A statement '..UptoSaid' is the law's where the arguments, and the package variables that the reading takes, are together of bulk at most 1048576: NARROWER than '..Said'. Prove '..Said' where nothing that the law and all that it calls make is longer than what came in: it says more and counts as full. Else prove '..UptoSaid'. A law counts once. -/
mutual
def uptoBulk {H : Type} : DataW H → Nat
  | .lit (.string bytes) => bytes.length + 1
  | .lit _ => 1
  | .nil => 1
  | .ptr d => uptoBulk d + 1
  | .slice elems spare => uptoBulkAll elems + uptoBulkAll spare + 1
  | .agg parts => uptoBulkAll parts + 1
  | .iface _ d => uptoBulk d + 1
  | .map entries => uptoBulkEntries entries + 1
  | .held _ => 1
def uptoBulkAll {H : Type} : List (DataW H) → Nat
  | [] => 0
  | d :: r => uptoBulk d + uptoBulkAll r
def uptoBulkEntries {H : Type} : List (Lit × DataW H) → Nat
  | [] => 0
  | x :: r => uptoBulkEntry x + uptoBulkEntries r
def uptoBulkEntry {H : Type} : Lit × DataW H → Nat
  | (.string bytes, d) => bytes.length + uptoBulk d + 1
  | (_, d) => uptoBulk d + 1
 end
def uptoSmall : (H : Type) → List (DataW H) → Bool := fun _ ds => decide (uptoBulkAll ds ≤ 1048576)
def OpenSpec.upto (s : _root_.Go.ChangeSpec) : _root_.Go.OpenSpec := { _root_.Go.OpenSpec.ofChange s with cond := some uptoSmall }

/-- 'scarfjointlaw05.GraphRemove', WHERE WHAT IT READS IS OF BULK AT MOST 1048576: true; the input reads as it did. -/
def graphRemoveUptoRow : OpenClaim := { program := "ytfkkngepnnkloaa", sum := "f3bdca1de7af754407500dd7a55a82185d234875a062c5baec92a90c77e30e48", func := "scarfjoint/scarfjointlaw05.GraphRemove", spec := "graphRemove", unfollowed := true, recurses := true, apart := false, narrowed := true }
def GraphRemoveUptoSaid : Prop := graphRemoveUptoRow.holds Try.pinned (OpenSpec.upto graphRemoveSpec)

/-- 'scarfjointlaw05.GraphIncident', WHERE WHAT IT READS IS OF BULK AT MOST 1048576: true; the input reads as it did. -/
def graphIncidentUptoRow : OpenClaim := { program := "ytfkkngepnnkloaa", sum := "f3bdca1de7af754407500dd7a55a82185d234875a062c5baec92a90c77e30e48", func := "scarfjoint/scarfjointlaw05.GraphIncident", spec := "graphIncident", unfollowed := true, recurses := true, apart := false, narrowed := true }
def GraphIncidentUptoSaid : Prop := graphIncidentUptoRow.holds Try.pinned (OpenSpec.upto graphIncidentSpec)

/-- 'scarfjointlaw05.GraphAdd', WHERE WHAT IT READS IS OF BULK AT MOST 1048576: true; the input reads as it did. -/
def graphAddUptoRow : OpenClaim := { program := "ytfkkngepnnkloaa", sum := "f3bdca1de7af754407500dd7a55a82185d234875a062c5baec92a90c77e30e48", func := "scarfjoint/scarfjointlaw05.GraphAdd", spec := "graphAdd", unfollowed := true, recurses := true, apart := false, narrowed := true }
def GraphAddUptoSaid : Prop := graphAddUptoRow.holds Try.pinned (OpenSpec.upto graphAddSpec)

/-- 'scarfjointlaw05.GraphEdge', WHERE WHAT IT READS IS OF BULK AT MOST 1048576: true; the input reads as it did. -/
def graphEdgeUptoRow : OpenClaim := { program := "ytfkkngepnnkloaa", sum := "f3bdca1de7af754407500dd7a55a82185d234875a062c5baec92a90c77e30e48", func := "scarfjoint/scarfjointlaw05.GraphEdge", spec := "graphEdge", unfollowed := true, recurses := true, apart := false, narrowed := true }
def GraphEdgeUptoSaid : Prop := graphEdgeUptoRow.holds Try.pinned (OpenSpec.upto graphEdgeSpec)

/-- 'scarfjointlaw05.GraphUnion', WHERE WHAT IT READS IS OF BULK AT MOST 1048576: true; the input reads as it did. -/
def graphUnionUptoRow : OpenClaim := { program := "ytfkkngepnnkloaa", sum := "f3bdca1de7af754407500dd7a55a82185d234875a062c5baec92a90c77e30e48", func := "scarfjoint/scarfjointlaw05.GraphUnion", spec := "graphUnion", unfollowed := true, recurses := true, apart := false, narrowed := true }
def GraphUnionUptoSaid : Prop := graphUnionUptoRow.holds Try.pinned (OpenSpec.upto graphUnionSpec)

/-- 'scarfjointlaw05.GraphBack', WHERE WHAT IT READS IS OF BULK AT MOST 1048576: true; the input reads as it did. -/
def graphBackUptoRow : OpenClaim := { program := "ytfkkngepnnkloaa", sum := "f3bdca1de7af754407500dd7a55a82185d234875a062c5baec92a90c77e30e48", func := "scarfjoint/scarfjointlaw05.GraphBack", spec := "graphBack", unfollowed := true, recurses := true, apart := false, narrowed := true }
def GraphBackUptoSaid : Prop := graphBackUptoRow.holds Try.pinned (OpenSpec.upto graphBackSpec)

/-- 'scarfjointlaw05.GraphParts', WHERE WHAT IT READS IS OF BULK AT MOST 1048576: true; the input reads as it did. -/
def graphPartsUptoRow : OpenClaim := { program := "ytfkkngepnnkloaa", sum := "f3bdca1de7af754407500dd7a55a82185d234875a062c5baec92a90c77e30e48", func := "scarfjoint/scarfjointlaw05.GraphParts", spec := "graphParts", unfollowed := true, recurses := true, apart := false, narrowed := true }
def GraphPartsUptoSaid : Prop := graphPartsUptoRow.holds Try.pinned (OpenSpec.upto graphPartsSpec)

end Rows
end Go.Proofs.Ytfkkngepnnkloaa
