/-
  No cell of these rows narrows 'for every input' (looked for: loops, veiled, ifaces, maps, wideKeys, modest, calm, conditions, laid).
  DERIVED. THE GIVEN ROWS OF THIS SEAT. 4 by the template 'for every input the law returns true; each argument reads behind the call as it read before'; 0 by the template 'total and deterministic' (their statements: YtmkhlefohbfekaaTotals.lean).
  GIVEN WITH THE SEED: the statements are not yours to turn. If you find one false, say at which input.
  Laid BY PROGRAM, IN A SANDBOX (cutbox-rows.mjs): the forced cells as the released guide's own fill.sh prints them over the translation dc728a900366592a… (all of the seat's roots in one cut). By AI agents, Wed Nov 11 2026. No macro, syntax, notation, axiom, sorry.
-/
import Derived.Test.YtmkhlefohbfekaaChecked
import GoSem.Claim
import GoSem.ClaimJoined
import GoSem.ClaimMapViews
import Derived.JoinedTies
import Derived.KernelRfl
namespace Go.Proofs.Ytmkhlefohbfekaa
/- THE CELL 'sum', in the pinned program and in every row, IS THE sha256 OF THE DUMP (.gsa) THAT YtmkhlefohbfekaaProg.lean LOADS. Nothing in Lean hashes anything: it is a label: what it is worth is what the hold of that sum in a sandbox is worth. -/
noncomputable def Try.pinned : Pinned := { name := "ytmkhlefohbfekaa", sum := "dc728a900366592aa791ec5128e7a32283c357e54239a8a603b5ce8827faa6fc", checked := Try.checked }
namespace Rows
def none {H : Type} : Left H := { results := [], args := [] }

/-- 'scarfjointlaw08.IsoRefine': WHATEVER THE INPUT: true; the input reads as it did. -/
def isoRefineSpec : ChangeSpec := { name := "isoRefine", fn := fun _ => fun
  | [d] => { results := [.lit (.bool true)], args := [d] }
  | _ => none }
def isoRefineRow : OpenClaim := { program := "ytmkhlefohbfekaa", sum := "dc728a900366592aa791ec5128e7a32283c357e54239a8a603b5ce8827faa6fc", func := "scarfjoint/scarfjointlaw08.IsoRefine", spec := "isoRefine", unfollowed := true, recurses := true, apart := false }
def IsoRefineSaid : Prop := isoRefineRow.holds Try.pinned (OpenSpec.ofChange isoRefineSpec)

/-- ITS FALSE NEIGHBOUR: 'it returns false'. Refute it at one input. -/
def isoRefineWrong : ChangeSpec := { name := "isoRefine", fn := fun _ => fun
  | [d] => { results := [.lit (.bool false)], args := [d] }
  | _ => none }
def IsoRefineWrongFalsely : Prop := isoRefineRow.holds Try.pinned (OpenSpec.ofChange isoRefineWrong)

/-- 'scarfjointlaw08.IsoOrbits': WHATEVER THE INPUT: true; the input reads as it did. -/
def isoOrbitsSpec : ChangeSpec := { name := "isoOrbits", fn := fun _ => fun
  | [d] => { results := [.lit (.bool true)], args := [d] }
  | _ => none }
def isoOrbitsRow : OpenClaim := { program := "ytmkhlefohbfekaa", sum := "dc728a900366592aa791ec5128e7a32283c357e54239a8a603b5ce8827faa6fc", func := "scarfjoint/scarfjointlaw08.IsoOrbits", spec := "isoOrbits", unfollowed := true, recurses := true, apart := false }
def IsoOrbitsSaid : Prop := isoOrbitsRow.holds Try.pinned (OpenSpec.ofChange isoOrbitsSpec)

/-- ITS FALSE NEIGHBOUR: 'it returns false'. Refute it at one input. -/
def isoOrbitsWrong : ChangeSpec := { name := "isoOrbits", fn := fun _ => fun
  | [d] => { results := [.lit (.bool false)], args := [d] }
  | _ => none }
def IsoOrbitsWrongFalsely : Prop := isoOrbitsRow.holds Try.pinned (OpenSpec.ofChange isoOrbitsWrong)

/-- 'scarfjointlaw08.IsoCounts': WHATEVER THE INPUT: true; the input reads as it did. -/
def isoCountsSpec : ChangeSpec := { name := "isoCounts", fn := fun _ => fun
  | [d1, d2] => { results := [.lit (.bool true)], args := [d1, d2] }
  | _ => none }
def isoCountsRow : OpenClaim := { program := "ytmkhlefohbfekaa", sum := "dc728a900366592aa791ec5128e7a32283c357e54239a8a603b5ce8827faa6fc", func := "scarfjoint/scarfjointlaw08.IsoCounts", spec := "isoCounts", unfollowed := true, recurses := true, apart := false }
def IsoCountsSaid : Prop := isoCountsRow.holds Try.pinned (OpenSpec.ofChange isoCountsSpec)

/-- ITS FALSE NEIGHBOUR: 'it returns false'. Refute it at one input. -/
def isoCountsWrong : ChangeSpec := { name := "isoCounts", fn := fun _ => fun
  | [d1, d2] => { results := [.lit (.bool false)], args := [d1, d2] }
  | _ => none }
def IsoCountsWrongFalsely : Prop := isoCountsRow.holds Try.pinned (OpenSpec.ofChange isoCountsWrong)

/-- 'scarfjointlaw08.IsoColours': WHATEVER THE INPUT: true; the input reads as it did. -/
def isoColoursSpec : ChangeSpec := { name := "isoColours", fn := fun _ => fun
  | [d1, d2] => { results := [.lit (.bool true)], args := [d1, d2] }
  | _ => none }
def isoColoursRow : OpenClaim := { program := "ytmkhlefohbfekaa", sum := "dc728a900366592aa791ec5128e7a32283c357e54239a8a603b5ce8827faa6fc", func := "scarfjoint/scarfjointlaw08.IsoColours", spec := "isoColours", unfollowed := true, recurses := true, apart := false }
def IsoColoursSaid : Prop := isoColoursRow.holds Try.pinned (OpenSpec.ofChange isoColoursSpec)

/-- ITS FALSE NEIGHBOUR: 'it returns false'. Refute it at one input. -/
def isoColoursWrong : ChangeSpec := { name := "isoColours", fn := fun _ => fun
  | [d1, d2] => { results := [.lit (.bool false)], args := [d1, d2] }
  | _ => none }
def IsoColoursWrongFalsely : Prop := isoColoursRow.holds Try.pinned (OpenSpec.ofChange isoColoursWrong)

/- THE SECOND FORM. 'bulk': how many values and letters a reading holds, each counted each time it is reached (what is shared counts as often as it is met; a slice's spare places count too). A statement '..UptoSaid' is the law's where the arguments, and the package variables that the reading takes, are together of bulk at most 1048576: NARROWER than '..Said'. Prove '..Said' where nothing that the law and all that it calls make is longer than what came in: it says more and counts as full. Else prove '..UptoSaid'. A law counts once. -/
mutual
def uptoBulk {H : Type} : DataW H → Nat
  | .lit (.string bytes) => bytes.length + 1
  | .lit _ => 1
  | .nil => 1
  | .ptr d => uptoBulk d + 1
  | .slice elems spare => uptoBulkAll elems + uptoBulkAll spare + 1
  | .agg parts => uptoBulkAll parts + 1
  | .iface _ d => uptoBulk d + 1
  | .map entries => uptoBulkEntries entries + 1
  | .held _ => 1
def uptoBulkAll {H : Type} : List (DataW H) → Nat
  | [] => 0
  | d :: r => uptoBulk d + uptoBulkAll r
def uptoBulkEntries {H : Type} : List (Lit × DataW H) → Nat
  | [] => 0
  | x :: r => uptoBulkEntry x + uptoBulkEntries r
def uptoBulkEntry {H : Type} : Lit × DataW H → Nat
  | (.string bytes, d) => bytes.length + uptoBulk d + 1
  | (_, d) => uptoBulk d + 1
 end
def uptoSmall : (H : Type) → List (DataW H) → Bool := fun _ ds => decide (uptoBulkAll ds ≤ 1048576)
def OpenSpec.upto (s : _root_.Go.ChangeSpec) : _root_.Go.OpenSpec := { _root_.Go.OpenSpec.ofChange s with cond := some uptoSmall }

/-- 'scarfjointlaw08.IsoRefine', WHERE WHAT IT READS IS OF BULK AT MOST 1048576: true; the input reads as it did. -/
def isoRefineUptoRow : OpenClaim := { program := "ytmkhlefohbfekaa", sum := "dc728a900366592aa791ec5128e7a32283c357e54239a8a603b5ce8827faa6fc", func := "scarfjoint/scarfjointlaw08.IsoRefine", spec := "isoRefine", unfollowed := true, recurses := true, apart := false, narrowed := true }
def IsoRefineUptoSaid : Prop := isoRefineUptoRow.holds Try.pinned (OpenSpec.upto isoRefineSpec)

/-- 'scarfjointlaw08.IsoOrbits', WHERE WHAT IT READS IS OF BULK AT MOST 1048576: true; the input reads as it did. -/
def isoOrbitsUptoRow : OpenClaim := { program := "ytmkhlefohbfekaa", sum := "dc728a900366592aa791ec5128e7a32283c357e54239a8a603b5ce8827faa6fc", func := "scarfjoint/scarfjointlaw08.IsoOrbits", spec := "isoOrbits", unfollowed := true, recurses := true, apart := false, narrowed := true }
def IsoOrbitsUptoSaid : Prop := isoOrbitsUptoRow.holds Try.pinned (OpenSpec.upto isoOrbitsSpec)

/-- 'scarfjointlaw08.IsoCounts', WHERE WHAT IT READS IS OF BULK AT MOST 1048576: true; the input reads as it did. -/
def isoCountsUptoRow : OpenClaim := { program := "ytmkhlefohbfekaa", sum := "dc728a900366592aa791ec5128e7a32283c357e54239a8a603b5ce8827faa6fc", func := "scarfjoint/scarfjointlaw08.IsoCounts", spec := "isoCounts", unfollowed := true, recurses := true, apart := false, narrowed := true }
def IsoCountsUptoSaid : Prop := isoCountsUptoRow.holds Try.pinned (OpenSpec.upto isoCountsSpec)

/-- 'scarfjointlaw08.IsoColours', WHERE WHAT IT READS IS OF BULK AT MOST 1048576: true; the input reads as it did. -/
def isoColoursUptoRow : OpenClaim := { program := "ytmkhlefohbfekaa", sum := "dc728a900366592aa791ec5128e7a32283c357e54239a8a603b5ce8827faa6fc", func := "scarfjoint/scarfjointlaw08.IsoColours", spec := "isoColours", unfollowed := true, recurses := true, apart := false, narrowed := true }
def IsoColoursUptoSaid : Prop := isoColoursUptoRow.holds Try.pinned (OpenSpec.upto isoColoursSpec)

end Rows
end Go.Proofs.Ytmkhlefohbfekaa
