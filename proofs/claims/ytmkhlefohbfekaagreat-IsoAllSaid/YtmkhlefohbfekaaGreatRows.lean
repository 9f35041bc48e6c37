/-
  No cell of these rows narrows 'for every input' (looked for: loops, veiled, ifaces, maps, wideKeys, modest, calm, conditions, laid).
  DERIVED. THE GIVEN ROWS OF THIS SEAT. 4 by the template 'for every input the law returns true; each argument reads behind the call as it read before'; 0 by the template 'total and deterministic' (their statements: YtmkhlefohbfekaaGreatTotals.lean).
  GIVEN WITH THE SEED: the statements are not yours to turn. If you find one false, say at which input.
  Laid BY PROGRAM, IN A SANDBOX (cutbox-rows.mjs): the forced cells as the released guide's own fill.sh prints them over the translation c89d66e7536e8235… (all of the seat's roots in one cut). By AI agents, Wed Nov 11 2026. No macro, syntax, notation, axiom, sorry.
-/
import Derived.Test.YtmkhlefohbfekaaGreatChecked
import GoSem.Claim
import GoSem.ClaimJoined
import GoSem.ClaimMapViews
import Derived.JoinedTies
import Derived.KernelRfl
namespace Go.Proofs.YtmkhlefohbfekaaGreat
/- THE CELL 'sum', in the pinned program and in every row, IS THE sha256 OF THE DUMP (.gsa) THAT YtmkhlefohbfekaaGreatProg.lean LOADS. Nothing in Lean hashes anything: it is a label: what it is worth is what the hold of that sum in a sandbox is worth. -/
noncomputable def Tryz.pinned : Pinned := { name := "ytmkhlefohbfekaagreat", sum := "c89d66e7536e82352c0759fb2e5c36e3738219b47fd4ee5b77c18abcf4de80a2", checked := Tryz.checked }
namespace Rows
def none {H : Type} : Left H := { results := [], args := [] }

/-- 'scarfjointlaw08.IsoFind': WHATEVER THE INPUT: true; the input reads as it did. -/
def isoFindSpec : ChangeSpec := { name := "isoFind", fn := fun _ => fun
  | [d1, d2] => { results := [.lit (.bool true)], args := [d1, d2] }
  | _ => none }
def isoFindRow : OpenClaim := { program := "ytmkhlefohbfekaagreat", sum := "c89d66e7536e82352c0759fb2e5c36e3738219b47fd4ee5b77c18abcf4de80a2", func := "scarfjoint/scarfjointlaw08.IsoFind", spec := "isoFind", unfollowed := true, recurses := true, apart := false }
def IsoFindSaid : Prop := isoFindRow.holds Tryz.pinned (OpenSpec.ofChange isoFindSpec)

/-- ITS FALSE NEIGHBOUR: 'it returns false'. Refute it at one input. -/
def isoFindWrong : ChangeSpec := { name := "isoFind", fn := fun _ => fun
  | [d1, d2] => { results := [.lit (.bool false)], args := [d1, d2] }
  | _ => none }
def IsoFindWrongFalsely : Prop := isoFindRow.holds Tryz.pinned (OpenSpec.ofChange isoFindWrong)

/-- 'scarfjointlaw08.IsoReason': WHATEVER THE INPUT: true; the input reads as it did. -/
def isoReasonSpec : ChangeSpec := { name := "isoReason", fn := fun _ => fun
  | [d1, d2] => { results := [.lit (.bool true)], args := [d1, d2] }
  | _ => none }
def isoReasonRow : OpenClaim := { program := "ytmkhlefohbfekaagreat", sum := "c89d66e7536e82352c0759fb2e5c36e3738219b47fd4ee5b77c18abcf4de80a2", func := "scarfjoint/scarfjointlaw08.IsoReason", spec := "isoReason", unfollowed := true, recurses := true, apart := false }
def IsoReasonSaid : Prop := isoReasonRow.holds Tryz.pinned (OpenSpec.ofChange isoReasonSpec)

/-- ITS FALSE NEIGHBOUR: 'it returns false'. Refute it at one input. -/
def isoReasonWrong : ChangeSpec := { name := "isoReason", fn := fun _ => fun
  | [d1, d2] => { results := [.lit (.bool false)], args := [d1, d2] }
  | _ => none }
def IsoReasonWrongFalsely : Prop := isoReasonRow.holds Tryz.pinned (OpenSpec.ofChange isoReasonWrong)

/-- 'scarfjointlaw08.IsoChecks': WHATEVER THE INPUT: true; the input reads as it did. -/
def isoChecksSpec : ChangeSpec := { name := "isoChecks", fn := fun _ => fun
  | [d1, d2, d3] => { results := [.lit (.bool true)], args := [d1, d2, d3] }
  | _ => none }
def isoChecksRow : OpenClaim := { program := "ytmkhlefohbfekaagreat", sum := "c89d66e7536e82352c0759fb2e5c36e3738219b47fd4ee5b77c18abcf4de80a2", func := "scarfjoint/scarfjointlaw08.IsoChecks", spec := "isoChecks", unfollowed := true, recurses := true, apart := false }
def IsoChecksSaid : Prop := isoChecksRow.holds Tryz.pinned (OpenSpec.ofChange isoChecksSpec)

/-- ITS FALSE NEIGHBOUR: 'it returns false'. Refute it at one input. -/
def isoChecksWrong : ChangeSpec := { name := "isoChecks", fn := fun _ => fun
  | [d1, d2, d3] => { results := [.lit (.bool false)], args := [d1, d2, d3] }
  | _ => none }
def IsoChecksWrongFalsely : Prop := isoChecksRow.holds Tryz.pinned (OpenSpec.ofChange isoChecksWrong)

/-- 'scarfjointlaw08.IsoAll': WHATEVER THE INPUT: true; the input reads as it did. -/
def isoAllSpec : ChangeSpec := { name := "isoAll", fn := fun _ => fun
  | [d1, d2] => { results := [.lit (.bool true)], args := [d1, d2] }
  | _ => none }
def isoAllRow : OpenClaim := { program := "ytmkhlefohbfekaagreat", sum := "c89d66e7536e82352c0759fb2e5c36e3738219b47fd4ee5b77c18abcf4de80a2", func := "scarfjoint/scarfjointlaw08.IsoAll", spec := "isoAll", unfollowed := true, recurses := true, apart := false }
def IsoAllSaid : Prop := isoAllRow.holds Tryz.pinned (OpenSpec.ofChange isoAllSpec)

/-- ITS FALSE NEIGHBOUR: 'it returns false'. Refute it at one input. -/
def isoAllWrong : ChangeSpec := { name := "isoAll", fn := fun _ => fun
  | [d1, d2] => { results := [.lit (.bool false)], args := [d1, d2] }
  | _ => none }
def IsoAllWrongFalsely : Prop := isoAllRow.holds Tryz.pinned (OpenSpec.ofChange isoAllWrong)

/- THE SECOND FORM. 'bulk': how many values and letters a reading holds, each counted each time it is reached (what is shared counts as often as it is met; a slice's spare places count too). A statement '..UptoSaid' is the law's where the arguments, and the package variables that the reading takes, are together of bulk at most 1048576: NARROWER than '..Said'. Prove '..Said' where nothing that the law and all that it calls make is longer than what came in: it says more and counts as full. Else prove '..UptoSaid'. A law counts once. -/
mutual
def uptoBulk {H : Type} : DataW H → Nat
  | .lit (.string bytes) => bytes.length + 1
  | .lit _ => 1
  | .nil => 1
  | .ptr d => uptoBulk d + 1
  | .slice elems spare => uptoBulkAll elems + uptoBulkAll spare + 1
  | .agg parts => uptoBulkAll parts + 1
  | .iface _ d => uptoBulk d + 1
  | .map entries => uptoBulkEntries entries + 1
  | .held _ => 1
def uptoBulkAll {H : Type} : List (DataW H) → Nat
  | [] => 0
  | d :: r => uptoBulk d + uptoBulkAll r
def uptoBulkEntries {H : Type} : List (Lit × DataW H) → Nat
  | [] => 0
  | x :: r => uptoBulkEntry x + uptoBulkEntries r
def uptoBulkEntry {H : Type} : Lit × DataW H → Nat
  | (.string bytes, d) => bytes.length + uptoBulk d + 1
  | (_, d) => uptoBulk d + 1
 end
def uptoSmall : (H : Type) → List (DataW H) → Bool := fun _ ds => decide (uptoBulkAll ds ≤ 1048576)
def OpenSpec.upto (s : _root_.Go.ChangeSpec) : _root_.Go.OpenSpec := { _root_.Go.OpenSpec.ofChange s with cond := some uptoSmall }

/-- 'scarfjointlaw08.IsoFind', WHERE WHAT IT READS IS OF BULK AT MOST 1048576: true; the input reads as it did. -/
def isoFindUptoRow : OpenClaim := { program := "ytmkhlefohbfekaagreat", sum := "c89d66e7536e82352c0759fb2e5c36e3738219b47fd4ee5b77c18abcf4de80a2", func := "scarfjoint/scarfjointlaw08.IsoFind", spec := "isoFind", unfollowed := true, recurses := true, apart := false, narrowed := true }
def IsoFindUptoSaid : Prop := isoFindUptoRow.holds Tryz.pinned (OpenSpec.upto isoFindSpec)

/-- 'scarfjointlaw08.IsoReason', WHERE WHAT IT READS IS OF BULK AT MOST 1048576: true; the input reads as it did. -/
def isoReasonUptoRow : OpenClaim := { program := "ytmkhlefohbfekaagreat", sum := "c89d66e7536e82352c0759fb2e5c36e3738219b47fd4ee5b77c18abcf4de80a2", func := "scarfjoint/scarfjointlaw08.IsoReason", spec := "isoReason", unfollowed := true, recurses := true, apart := false, narrowed := true }
def IsoReasonUptoSaid : Prop := isoReasonUptoRow.holds Tryz.pinned (OpenSpec.upto isoReasonSpec)

/-- 'scarfjointlaw08.IsoChecks', WHERE WHAT IT READS IS OF BULK AT MOST 1048576: true; the input reads as it did. -/
def isoChecksUptoRow : OpenClaim := { program := "ytmkhlefohbfekaagreat", sum := "c89d66e7536e82352c0759fb2e5c36e3738219b47fd4ee5b77c18abcf4de80a2", func := "scarfjoint/scarfjointlaw08.IsoChecks", spec := "isoChecks", unfollowed := true, recurses := true, apart := false, narrowed := true }
def IsoChecksUptoSaid : Prop := isoChecksUptoRow.holds Tryz.pinned (OpenSpec.upto isoChecksSpec)

/-- 'scarfjointlaw08.IsoAll', WHERE WHAT IT READS IS OF BULK AT MOST 1048576: true; the input reads as it did. -/
def isoAllUptoRow : OpenClaim := { program := "ytmkhlefohbfekaagreat", sum := "c89d66e7536e82352c0759fb2e5c36e3738219b47fd4ee5b77c18abcf4de80a2", func := "scarfjoint/scarfjointlaw08.IsoAll", spec := "isoAll", unfollowed := true, recurses := true, apart := false, narrowed := true }
def IsoAllUptoSaid : Prop := isoAllUptoRow.holds Tryz.pinned (OpenSpec.upto isoAllSpec)

end Rows
end Go.Proofs.YtmkhlefohbfekaaGreat
