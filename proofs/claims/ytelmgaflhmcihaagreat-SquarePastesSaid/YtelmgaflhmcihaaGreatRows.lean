/-
  No cell of these rows narrows 'for every input' (looked for: loops, veiled, ifaces, maps, wideKeys, modest, calm, conditions, laid).
  DERIVED. THE GIVEN ROWS OF THIS SEAT. 8 by the template 'for every input the law returns true; each argument reads behind the call as it read before'; 0 by the template 'total and deterministic' (their statements: YtelmgaflhmcihaaGreatTotals.lean).
  GIVEN WITH THE SEED: the statements are not yours to turn. If you find one false, say at which input.
  Laid BY PROGRAM, IN A SANDBOX (cutbox-rows.mjs): the forced cells as the released guide's own fill.sh prints them over the translation e49cd70dfe219755… (all of the seat's roots in one cut). By AI agents, Wed Nov 11 2026. No macro, syntax, notation, axiom, sorry.
-/
import Derived.Test.YtelmgaflhmcihaaGreatChecked
import GoSem.Claim
import GoSem.ClaimJoined
import GoSem.ClaimMapViews
import Derived.JoinedTies
import Derived.KernelRfl
namespace Go.Proofs.YtelmgaflhmcihaaGreat
/- THE CELL 'sum', in the pinned program and in every row, IS THE sha256 OF THE DUMP (.gsa) THAT YtelmgaflhmcihaaGreatProg.lean LOADS. Nothing in Lean hashes anything: it is a label: what it is worth is what the hold of that sum in a sandbox is worth. -/
noncomputable def Tryz.pinned : Pinned := { name := "ytelmgaflhmcihaagreat", sum := "e49cd70dfe219755e2a26847d1554af67620d9f2343da66b3836aa324cfad986", checked := Tryz.checked }
namespace Rows
def none {H : Type} : Left H := { results := [], args := [] }

/-- 'scarfjointlaw14.SquareInitial': WHATEVER THE INPUT: true; the input reads as it did. -/
def squareInitialSpec : ChangeSpec := { name := "squareInitial", fn := fun _ => fun
  | [d1, d2, d3] => { results := [.lit (.bool true)], args := [d1, d2, d3] }
  | _ => none }
def squareInitialRow : OpenClaim := { program := "ytelmgaflhmcihaagreat", sum := "e49cd70dfe219755e2a26847d1554af67620d9f2343da66b3836aa324cfad986", func := "scarfjoint/scarfjointlaw14.SquareInitial", spec := "squareInitial", unfollowed := true, recurses := true, apart := false }
def SquareInitialSaid : Prop := squareInitialRow.holds Tryz.pinned (OpenSpec.ofChange squareInitialSpec)

/-- ITS FALSE NEIGHBOUR: 'it returns false'. Refute it at one input. -/
def squareInitialWrong : ChangeSpec := { name := "squareInitial", fn := fun _ => fun
  | [d1, d2, d3] => { results := [.lit (.bool false)], args := [d1, d2, d3] }
  | _ => none }
def SquareInitialWrongFalsely : Prop := squareInitialRow.holds Tryz.pinned (OpenSpec.ofChange squareInitialWrong)

/-- 'scarfjointlaw14.SquareGlues': WHATEVER THE INPUT: true; the input reads as it did. -/
def squareGluesSpec : ChangeSpec := { name := "squareGlues", fn := fun _ => fun
  | [d1, d2] => { results := [.lit (.bool true)], args := [d1, d2] }
  | _ => none }
def squareGluesRow : OpenClaim := { program := "ytelmgaflhmcihaagreat", sum := "e49cd70dfe219755e2a26847d1554af67620d9f2343da66b3836aa324cfad986", func := "scarfjoint/scarfjointlaw14.SquareGlues", spec := "squareGlues", unfollowed := true, recurses := true, apart := false }
def SquareGluesSaid : Prop := squareGluesRow.holds Tryz.pinned (OpenSpec.ofChange squareGluesSpec)

/-- ITS FALSE NEIGHBOUR: 'it returns false'. Refute it at one input. -/
def squareGluesWrong : ChangeSpec := { name := "squareGlues", fn := fun _ => fun
  | [d1, d2] => { results := [.lit (.bool false)], args := [d1, d2] }
  | _ => none }
def SquareGluesWrongFalsely : Prop := squareGluesRow.holds Tryz.pinned (OpenSpec.ofChange squareGluesWrong)

/-- 'scarfjointlaw14.SquareBoundary': WHATEVER THE INPUT: true; the input reads as it did. -/
def squareBoundarySpec : ChangeSpec := { name := "squareBoundary", fn := fun _ => fun
  | [d1, d2, d3] => { results := [.lit (.bool true)], args := [d1, d2, d3] }
  | _ => none }
def squareBoundaryRow : OpenClaim := { program := "ytelmgaflhmcihaagreat", sum := "e49cd70dfe219755e2a26847d1554af67620d9f2343da66b3836aa324cfad986", func := "scarfjoint/scarfjointlaw14.SquareBoundary", spec := "squareBoundary", unfollowed := true, recurses := true, apart := false }
def SquareBoundarySaid : Prop := squareBoundaryRow.holds Tryz.pinned (OpenSpec.ofChange squareBoundarySpec)

/-- ITS FALSE NEIGHBOUR: 'it returns false'. Refute it at one input. -/
def squareBoundaryWrong : ChangeSpec := { name := "squareBoundary", fn := fun _ => fun
  | [d1, d2, d3] => { results := [.lit (.bool false)], args := [d1, d2, d3] }
  | _ => none }
def SquareBoundaryWrongFalsely : Prop := squareBoundaryRow.holds Tryz.pinned (OpenSpec.ofChange squareBoundaryWrong)

/-- 'scarfjointlaw14.SquareKind': WHATEVER THE INPUT: true; the input reads as it did. -/
def squareKindSpec : ChangeSpec := { name := "squareKind", fn := fun _ => fun
  | [d] => { results := [.lit (.bool true)], args := [d] }
  | _ => none }
def squareKindRow : OpenClaim := { program := "ytelmgaflhmcihaagreat", sum := "e49cd70dfe219755e2a26847d1554af67620d9f2343da66b3836aa324cfad986", func := "scarfjoint/scarfjointlaw14.SquareKind", spec := "squareKind", unfollowed := true, recurses := true, apart := false }
def SquareKindSaid : Prop := squareKindRow.holds Tryz.pinned (OpenSpec.ofChange squareKindSpec)

/-- ITS FALSE NEIGHBOUR: 'it returns false'. Refute it at one input. -/
def squareKindWrong : ChangeSpec := { name := "squareKind", fn := fun _ => fun
  | [d] => { results := [.lit (.bool false)], args := [d] }
  | _ => none }
def SquareKindWrongFalsely : Prop := squareKindRow.holds Tryz.pinned (OpenSpec.ofChange squareKindWrong)

/-- 'scarfjointlaw14.SquarePaste': WHATEVER THE INPUT: true; the input reads as it did. -/
def squarePasteSpec : ChangeSpec := { name := "squarePaste", fn := fun _ => fun
  | [d1, d2] => { results := [.lit (.bool true)], args := [d1, d2] }
  | _ => none }
def squarePasteRow : OpenClaim := { program := "ytelmgaflhmcihaagreat", sum := "e49cd70dfe219755e2a26847d1554af67620d9f2343da66b3836aa324cfad986", func := "scarfjoint/scarfjointlaw14.SquarePaste", spec := "squarePaste", unfollowed := true, recurses := true, apart := false }
def SquarePasteSaid : Prop := squarePasteRow.holds Tryz.pinned (OpenSpec.ofChange squarePasteSpec)

/-- ITS FALSE NEIGHBOUR: 'it returns false'. Refute it at one input. -/
def squarePasteWrong : ChangeSpec := { name := "squarePaste", fn := fun _ => fun
  | [d1, d2] => { results := [.lit (.bool false)], args := [d1, d2] }
  | _ => none }
def SquarePasteWrongFalsely : Prop := squarePasteRow.holds Tryz.pinned (OpenSpec.ofChange squarePasteWrong)

/-- 'scarfjointlaw14.SquarePastes': WHATEVER THE INPUT: true; the input reads as it did. -/
def squarePastesSpec : ChangeSpec := { name := "squarePastes", fn := fun _ => fun
  | [d1, d2, d3] => { results := [.lit (.bool true)], args := [d1, d2, d3] }
  | _ => none }
def squarePastesRow : OpenClaim := { program := "ytelmgaflhmcihaagreat", sum := "e49cd70dfe219755e2a26847d1554af67620d9f2343da66b3836aa324cfad986", func := "scarfjoint/scarfjointlaw14.SquarePastes", spec := "squarePastes", unfollowed := true, recurses := true, apart := false }
def SquarePastesSaid : Prop := squarePastesRow.holds Tryz.pinned (OpenSpec.ofChange squarePastesSpec)

/-- ITS FALSE NEIGHBOUR: 'it returns false'. Refute it at one input. -/
def squarePastesWrong : ChangeSpec := { name := "squarePastes", fn := fun _ => fun
  | [d1, d2, d3] => { results := [.lit (.bool false)], args := [d1, d2, d3] }
  | _ => none }
def SquarePastesWrongFalsely : Prop := squarePastesRow.holds Tryz.pinned (OpenSpec.ofChange squarePastesWrong)

/-- 'scarfjointlaw14.SquareLift': WHATEVER THE INPUT: true; the input reads as it did. -/
def squareLiftSpec : ChangeSpec := { name := "squareLift", fn := fun _ => fun
  | [d1, d2, d3] => { results := [.lit (.bool true)], args := [d1, d2, d3] }
  | _ => none }
def squareLiftRow : OpenClaim := { program := "ytelmgaflhmcihaagreat", sum := "e49cd70dfe219755e2a26847d1554af67620d9f2343da66b3836aa324cfad986", func := "scarfjoint/scarfjointlaw14.SquareLift", spec := "squareLift", unfollowed := true, recurses := true, apart := false }
def SquareLiftSaid : Prop := squareLiftRow.holds Tryz.pinned (OpenSpec.ofChange squareLiftSpec)

/-- ITS FALSE NEIGHBOUR: 'it returns false'. Refute it at one input. -/
def squareLiftWrong : ChangeSpec := { name := "squareLift", fn := fun _ => fun
  | [d1, d2, d3] => { results := [.lit (.bool false)], args := [d1, d2, d3] }
  | _ => none }
def SquareLiftWrongFalsely : Prop := squareLiftRow.holds Tryz.pinned (OpenSpec.ofChange squareLiftWrong)

/-- 'scarfjointlaw14.SquareLifts': WHATEVER THE INPUT: true; the input reads as it did. -/
def squareLiftsSpec : ChangeSpec := { name := "squareLifts", fn := fun _ => fun
  | [d1, d2, d3] => { results := [.lit (.bool true)], args := [d1, d2, d3] }
  | _ => none }
def squareLiftsRow : OpenClaim := { program := "ytelmgaflhmcihaagreat", sum := "e49cd70dfe219755e2a26847d1554af67620d9f2343da66b3836aa324cfad986", func := "scarfjoint/scarfjointlaw14.SquareLifts", spec := "squareLifts", unfollowed := true, recurses := true, apart := false }
def SquareLiftsSaid : Prop := squareLiftsRow.holds Tryz.pinned (OpenSpec.ofChange squareLiftsSpec)

/-- ITS FALSE NEIGHBOUR: 'it returns false'. Refute it at one input. -/
def squareLiftsWrong : ChangeSpec := { name := "squareLifts", fn := fun _ => fun
  | [d1, d2, d3] => { results := [.lit (.bool false)], args := [d1, d2, d3] }
  | _ => none }
def SquareLiftsWrongFalsely : Prop := squareLiftsRow.holds Tryz.pinned (OpenSpec.ofChange squareLiftsWrong)

/- THE SECOND FORM. 'bulk': how many values and letters a reading holds, each counted each time it is reached (what is shared counts as often as it is met; a slice's spare places count too). A statement '..UptoSaid' is the law's where the arguments, and the package variables that the reading takes, are together of bulk at most 1048576: NARROWER than '..Said'. Prove '..Said' where nothing that the law and all that it calls make is longer than what came in: it says more and counts as full. Else prove '..UptoSaid'. A law counts once. -/
mutual
def uptoBulk {H : Type} : DataW H → Nat
  | .lit (.string bytes) => bytes.length + 1
  | .lit _ => 1
  | .nil => 1
  | .ptr d => uptoBulk d + 1
  | .slice elems spare => uptoBulkAll elems + uptoBulkAll spare + 1
  | .agg parts => uptoBulkAll parts + 1
  | .iface _ d => uptoBulk d + 1
  | .map entries => uptoBulkEntries entries + 1
  | .held _ => 1
def uptoBulkAll {H : Type} : List (DataW H) → Nat
  | [] => 0
  | d :: r => uptoBulk d + uptoBulkAll r
def uptoBulkEntries {H : Type} : List (Lit × DataW H) → Nat
  | [] => 0
  | x :: r => uptoBulkEntry x + uptoBulkEntries r
def uptoBulkEntry {H : Type} : Lit × DataW H → Nat
  | (.string bytes, d) => bytes.length + uptoBulk d + 1
  | (_, d) => uptoBulk d + 1
 end
def uptoSmall : (H : Type) → List (DataW H) → Bool := fun _ ds => decide (uptoBulkAll ds ≤ 1048576)
def OpenSpec.upto (s : _root_.Go.ChangeSpec) : _root_.Go.OpenSpec := { _root_.Go.OpenSpec.ofChange s with cond := some uptoSmall }

/-- 'scarfjointlaw14.SquareInitial', WHERE WHAT IT READS IS OF BULK AT MOST 1048576: true; the input reads as it did. -/
def squareInitialUptoRow : OpenClaim := { program := "ytelmgaflhmcihaagreat", sum := "e49cd70dfe219755e2a26847d1554af67620d9f2343da66b3836aa324cfad986", func := "scarfjoint/scarfjointlaw14.SquareInitial", spec := "squareInitial", unfollowed := true, recurses := true, apart := false, narrowed := true }
def SquareInitialUptoSaid : Prop := squareInitialUptoRow.holds Tryz.pinned (OpenSpec.upto squareInitialSpec)

/-- 'scarfjointlaw14.SquareGlues', WHERE WHAT IT READS IS OF BULK AT MOST 1048576: true; the input reads as it did. -/
def squareGluesUptoRow : OpenClaim := { program := "ytelmgaflhmcihaagreat", sum := "e49cd70dfe219755e2a26847d1554af67620d9f2343da66b3836aa324cfad986", func := "scarfjoint/scarfjointlaw14.SquareGlues", spec := "squareGlues", unfollowed := true, recurses := true, apart := false, narrowed := true }
def SquareGluesUptoSaid : Prop := squareGluesUptoRow.holds Tryz.pinned (OpenSpec.upto squareGluesSpec)

/-- 'scarfjointlaw14.SquareBoundary', WHERE WHAT IT READS IS OF BULK AT MOST 1048576: true; the input reads as it did. -/
def squareBoundaryUptoRow : OpenClaim := { program := "ytelmgaflhmcihaagreat", sum := "e49cd70dfe219755e2a26847d1554af67620d9f2343da66b3836aa324cfad986", func := "scarfjoint/scarfjointlaw14.SquareBoundary", spec := "squareBoundary", unfollowed := true, recurses := true, apart := false, narrowed := true }
def SquareBoundaryUptoSaid : Prop := squareBoundaryUptoRow.holds Tryz.pinned (OpenSpec.upto squareBoundarySpec)

/-- 'scarfjointlaw14.SquareKind', WHERE WHAT IT READS IS OF BULK AT MOST 1048576: true; the input reads as it did. -/
def squareKindUptoRow : OpenClaim := { program := "ytelmgaflhmcihaagreat", sum := "e49cd70dfe219755e2a26847d1554af67620d9f2343da66b3836aa324cfad986", func := "scarfjoint/scarfjointlaw14.SquareKind", spec := "squareKind", unfollowed := true, recurses := true, apart := false, narrowed := true }
def SquareKindUptoSaid : Prop := squareKindUptoRow.holds Tryz.pinned (OpenSpec.upto squareKindSpec)

/-- 'scarfjointlaw14.SquarePaste', WHERE WHAT IT READS IS OF BULK AT MOST 1048576: true; the input reads as it did. -/
def squarePasteUptoRow : OpenClaim := { program := "ytelmgaflhmcihaagreat", sum := "e49cd70dfe219755e2a26847d1554af67620d9f2343da66b3836aa324cfad986", func := "scarfjoint/scarfjointlaw14.SquarePaste", spec := "squarePaste", unfollowed := true, recurses := true, apart := false, narrowed := true }
def SquarePasteUptoSaid : Prop := squarePasteUptoRow.holds Tryz.pinned (OpenSpec.upto squarePasteSpec)

/-- 'scarfjointlaw14.SquarePastes', WHERE WHAT IT READS IS OF BULK AT MOST 1048576: true; the input reads as it did. -/
def squarePastesUptoRow : OpenClaim := { program := "ytelmgaflhmcihaagreat", sum := "e49cd70dfe219755e2a26847d1554af67620d9f2343da66b3836aa324cfad986", func := "scarfjoint/scarfjointlaw14.SquarePastes", spec := "squarePastes", unfollowed := true, recurses := true, apart := false, narrowed := true }
def SquarePastesUptoSaid : Prop := squarePastesUptoRow.holds Tryz.pinned (OpenSpec.upto squarePastesSpec)

/-- 'scarfjointlaw14.SquareLift', WHERE WHAT IT READS IS OF BULK AT MOST 1048576: true; the input reads as it did. -/
def squareLiftUptoRow : OpenClaim := { program := "ytelmgaflhmcihaagreat", sum := "e49cd70dfe219755e2a26847d1554af67620d9f2343da66b3836aa324cfad986", func := "scarfjoint/scarfjointlaw14.SquareLift", spec := "squareLift", unfollowed := true, recurses := true, apart := false, narrowed := true }
def SquareLiftUptoSaid : Prop := squareLiftUptoRow.holds Tryz.pinned (OpenSpec.upto squareLiftSpec)

/-- 'scarfjointlaw14.SquareLifts', WHERE WHAT IT READS IS OF BULK AT MOST 1048576: true; the input reads as it did. -/
def squareLiftsUptoRow : OpenClaim := { program := "ytelmgaflhmcihaagreat", sum := "e49cd70dfe219755e2a26847d1554af67620d9f2343da66b3836aa324cfad986", func := "scarfjoint/scarfjointlaw14.SquareLifts", spec := "squareLifts", unfollowed := true, recurses := true, apart := false, narrowed := true }
def SquareLiftsUptoSaid : Prop := squareLiftsUptoRow.holds Tryz.pinned (OpenSpec.upto squareLiftsSpec)

end Rows
end Go.Proofs.YtelmgaflhmcihaaGreat
