/-
  No cell of these rows narrows 'for every input' (looked for: loops, veiled, ifaces, maps, wideKeys, modest, calm, conditions, laid).
  DERIVED. THE GIVEN ROWS OF THIS SEAT. 8 by the template 'for every input the law returns true; each argument reads behind the call as it read before'; 0 by the template 'total and deterministic' (their statements: YtbpjoianghehmaaTotals.lean).
  GIVEN WITH THE SEED: the statements are not yours to turn. If you find one false, say at which input.
  Laid BY PROGRAM, IN A SANDBOX (cutbox-rows.mjs): the forced cells as the released guide's own fill.sh prints them over the translation 22d7a31d1b87f64c… (all of the seat's roots in one cut). By AI agents, Wed Nov 11 2026. No macro, syntax, notation, axiom, sorry.
-/
import Derived.Test.YtbpjoianghehmaaChecked
import GoSem.Claim
import GoSem.ClaimJoined
import GoSem.ClaimMapViews
import Derived.JoinedTies
import Derived.KernelRfl
namespace Go.Proofs.Ytbpjoianghehmaa
/- THE CELL 'sum', in the pinned program and in every row, IS THE sha256 OF THE DUMP (.gsa) THAT YtbpjoianghehmaaProg.lean LOADS. Nothing in Lean hashes anything: it is a label: what it is worth is what the hold of that sum in a sandbox is worth. -/
noncomputable def Try.pinned : Pinned := { name := "ytbpjoianghehmaa", sum := "22d7a31d1b87f64c1882f4d892a197d530a5a17f85543c32e1f763c4b56b927d", checked := Try.checked }
namespace Rows
def none {H : Type} : Left H := { results := [], args := [] }

/-- 'scarfjointlaw07.SubgraphClose': WHATEVER THE INPUT: true; the input reads as it did. -/
def subgraphCloseSpec : ChangeSpec := { name := "subgraphClose", fn := fun _ => fun
  | [d1, d2, d3] => { results := [.lit (.bool true)], args := [d1, d2, d3] }
  | _ => none }
def subgraphCloseRow : OpenClaim := { program := "ytbpjoianghehmaa", sum := "22d7a31d1b87f64c1882f4d892a197d530a5a17f85543c32e1f763c4b56b927d", func := "scarfjoint/scarfjointlaw07.SubgraphClose", spec := "subgraphClose", unfollowed := true, recurses := true, apart := false }
def SubgraphCloseSaid : Prop := subgraphCloseRow.holds Try.pinned (OpenSpec.ofChange subgraphCloseSpec)

/-- ITS FALSE NEIGHBOUR: 'it returns false'. Refute it at one input. -/
def subgraphCloseWrong : ChangeSpec := { name := "subgraphClose", fn := fun _ => fun
  | [d1, d2, d3] => { results := [.lit (.bool false)], args := [d1, d2, d3] }
  | _ => none }
def SubgraphCloseWrongFalsely : Prop := subgraphCloseRow.holds Try.pinned (OpenSpec.ofChange subgraphCloseWrong)

/-- 'scarfjointlaw07.SubgraphBoundary': WHATEVER THE INPUT: true; the input reads as it did. -/
def subgraphBoundarySpec : ChangeSpec := { name := "subgraphBoundary", fn := fun _ => fun
  | [d1, d2] => { results := [.lit (.bool true)], args := [d1, d2] }
  | _ => none }
def subgraphBoundaryRow : OpenClaim := { program := "ytbpjoianghehmaa", sum := "22d7a31d1b87f64c1882f4d892a197d530a5a17f85543c32e1f763c4b56b927d", func := "scarfjoint/scarfjointlaw07.SubgraphBoundary", spec := "subgraphBoundary", unfollowed := true, recurses := true, apart := false }
def SubgraphBoundarySaid : Prop := subgraphBoundaryRow.holds Try.pinned (OpenSpec.ofChange subgraphBoundarySpec)

/-- ITS FALSE NEIGHBOUR: 'it returns false'. Refute it at one input. -/
def subgraphBoundaryWrong : ChangeSpec := { name := "subgraphBoundary", fn := fun _ => fun
  | [d1, d2] => { results := [.lit (.bool false)], args := [d1, d2] }
  | _ => none }
def SubgraphBoundaryWrongFalsely : Prop := subgraphBoundaryRow.holds Try.pinned (OpenSpec.ofChange subgraphBoundaryWrong)

/-- 'scarfjointlaw07.SubgraphAll': WHATEVER THE INPUT: true; the input reads as it did. -/
def subgraphAllSpec : ChangeSpec := { name := "subgraphAll", fn := fun _ => fun
  | [d] => { results := [.lit (.bool true)], args := [d] }
  | _ => none }
def subgraphAllRow : OpenClaim := { program := "ytbpjoianghehmaa", sum := "22d7a31d1b87f64c1882f4d892a197d530a5a17f85543c32e1f763c4b56b927d", func := "scarfjoint/scarfjointlaw07.SubgraphAll", spec := "subgraphAll", unfollowed := true, recurses := true, apart := false }
def SubgraphAllSaid : Prop := subgraphAllRow.holds Try.pinned (OpenSpec.ofChange subgraphAllSpec)

/-- ITS FALSE NEIGHBOUR: 'it returns false'. Refute it at one input. -/
def subgraphAllWrong : ChangeSpec := { name := "subgraphAll", fn := fun _ => fun
  | [d] => { results := [.lit (.bool false)], args := [d] }
  | _ => none }
def SubgraphAllWrongFalsely : Prop := subgraphAllRow.holds Try.pinned (OpenSpec.ofChange subgraphAllWrong)

/-- 'scarfjointlaw07.SubgraphValid': WHATEVER THE INPUT: true; the input reads as it did. -/
def subgraphValidSpec : ChangeSpec := { name := "subgraphValid", fn := fun _ => fun
  | [d1, d2] => { results := [.lit (.bool true)], args := [d1, d2] }
  | _ => none }
def subgraphValidRow : OpenClaim := { program := "ytbpjoianghehmaa", sum := "22d7a31d1b87f64c1882f4d892a197d530a5a17f85543c32e1f763c4b56b927d", func := "scarfjoint/scarfjointlaw07.SubgraphValid", spec := "subgraphValid", unfollowed := true, recurses := true, apart := false }
def SubgraphValidSaid : Prop := subgraphValidRow.holds Try.pinned (OpenSpec.ofChange subgraphValidSpec)

/-- ITS FALSE NEIGHBOUR: 'it returns false'. Refute it at one input. -/
def subgraphValidWrong : ChangeSpec := { name := "subgraphValid", fn := fun _ => fun
  | [d1, d2] => { results := [.lit (.bool false)], args := [d1, d2] }
  | _ => none }
def SubgraphValidWrongFalsely : Prop := subgraphValidRow.holds Try.pinned (OpenSpec.ofChange subgraphValidWrong)

/-- 'scarfjointlaw07.SubgraphJoin': WHATEVER THE INPUT: true; the input reads as it did. -/
def subgraphJoinSpec : ChangeSpec := { name := "subgraphJoin", fn := fun _ => fun
  | [d1, d2, d3] => { results := [.lit (.bool true)], args := [d1, d2, d3] }
  | _ => none }
def subgraphJoinRow : OpenClaim := { program := "ytbpjoianghehmaa", sum := "22d7a31d1b87f64c1882f4d892a197d530a5a17f85543c32e1f763c4b56b927d", func := "scarfjoint/scarfjointlaw07.SubgraphJoin", spec := "subgraphJoin", unfollowed := true, recurses := true, apart := false }
def SubgraphJoinSaid : Prop := subgraphJoinRow.holds Try.pinned (OpenSpec.ofChange subgraphJoinSpec)

/-- ITS FALSE NEIGHBOUR: 'it returns false'. Refute it at one input. -/
def subgraphJoinWrong : ChangeSpec := { name := "subgraphJoin", fn := fun _ => fun
  | [d1, d2, d3] => { results := [.lit (.bool false)], args := [d1, d2, d3] }
  | _ => none }
def SubgraphJoinWrongFalsely : Prop := subgraphJoinRow.holds Try.pinned (OpenSpec.ofChange subgraphJoinWrong)

/-- 'scarfjointlaw07.SubgraphExtract': WHATEVER THE INPUT: true; the input reads as it did. -/
def subgraphExtractSpec : ChangeSpec := { name := "subgraphExtract", fn := fun _ => fun
  | [d1, d2] => { results := [.lit (.bool true)], args := [d1, d2] }
  | _ => none }
def subgraphExtractRow : OpenClaim := { program := "ytbpjoianghehmaa", sum := "22d7a31d1b87f64c1882f4d892a197d530a5a17f85543c32e1f763c4b56b927d", func := "scarfjoint/scarfjointlaw07.SubgraphExtract", spec := "subgraphExtract", unfollowed := true, recurses := true, apart := false }
def SubgraphExtractSaid : Prop := subgraphExtractRow.holds Try.pinned (OpenSpec.ofChange subgraphExtractSpec)

/-- ITS FALSE NEIGHBOUR: 'it returns false'. Refute it at one input. -/
def subgraphExtractWrong : ChangeSpec := { name := "subgraphExtract", fn := fun _ => fun
  | [d1, d2] => { results := [.lit (.bool false)], args := [d1, d2] }
  | _ => none }
def SubgraphExtractWrongFalsely : Prop := subgraphExtractRow.holds Try.pinned (OpenSpec.ofChange subgraphExtractWrong)

/-- 'scarfjointlaw07.SubgraphImage': WHATEVER THE INPUT: true; the input reads as it did. -/
def subgraphImageSpec : ChangeSpec := { name := "subgraphImage", fn := fun _ => fun
  | [d1, d2] => { results := [.lit (.bool true)], args := [d1, d2] }
  | _ => none }
def subgraphImageRow : OpenClaim := { program := "ytbpjoianghehmaa", sum := "22d7a31d1b87f64c1882f4d892a197d530a5a17f85543c32e1f763c4b56b927d", func := "scarfjoint/scarfjointlaw07.SubgraphImage", spec := "subgraphImage", unfollowed := true, recurses := true, apart := false }
def SubgraphImageSaid : Prop := subgraphImageRow.holds Try.pinned (OpenSpec.ofChange subgraphImageSpec)

/-- ITS FALSE NEIGHBOUR: 'it returns false'. Refute it at one input. -/
def subgraphImageWrong : ChangeSpec := { name := "subgraphImage", fn := fun _ => fun
  | [d1, d2] => { results := [.lit (.bool false)], args := [d1, d2] }
  | _ => none }
def SubgraphImageWrongFalsely : Prop := subgraphImageRow.holds Try.pinned (OpenSpec.ofChange subgraphImageWrong)

/-- 'scarfjointlaw07.SubgraphAdjoint': WHATEVER THE INPUT: true; the input reads as it did. -/
def subgraphAdjointSpec : ChangeSpec := { name := "subgraphAdjoint", fn := fun _ => fun
  | [d1, d2, d3] => { results := [.lit (.bool true)], args := [d1, d2, d3] }
  | _ => none }
def subgraphAdjointRow : OpenClaim := { program := "ytbpjoianghehmaa", sum := "22d7a31d1b87f64c1882f4d892a197d530a5a17f85543c32e1f763c4b56b927d", func := "scarfjoint/scarfjointlaw07.SubgraphAdjoint", spec := "subgraphAdjoint", unfollowed := true, recurses := true, apart := false }
def SubgraphAdjointSaid : Prop := subgraphAdjointRow.holds Try.pinned (OpenSpec.ofChange subgraphAdjointSpec)

/-- ITS FALSE NEIGHBOUR: 'it returns false'. Refute it at one input. -/
def subgraphAdjointWrong : ChangeSpec := { name := "subgraphAdjoint", fn := fun _ => fun
  | [d1, d2, d3] => { results := [.lit (.bool false)], args := [d1, d2, d3] }
  | _ => none }
def SubgraphAdjointWrongFalsely : Prop := subgraphAdjointRow.holds Try.pinned (OpenSpec.ofChange subgraphAdjointWrong)

/- THE SECOND FORM. 'bulk': how many values and letters a reading holds, each counted each time it is reached (what is shared counts as often as it is met; a slice's spare places count too). A statement '..UptoSaid' is the law's where the arguments, and the package variables that the reading takes, are together of bulk at most 1048576: NARROWER than '..Said'. Prove '..Said' where nothing that the law and all that it calls make is longer than what came in: it says more and counts as full. Else prove '..UptoSaid'. A law counts once. -/
mutual
def uptoBulk {H : Type} : DataW H → Nat
  | .lit (.string bytes) => bytes.length + 1
  | .lit _ => 1
  | .nil => 1
  | .ptr d => uptoBulk d + 1
  | .slice elems spare => uptoBulkAll elems + uptoBulkAll spare + 1
  | .agg parts => uptoBulkAll parts + 1
  | .iface _ d => uptoBulk d + 1
  | .map entries => uptoBulkEntries entries + 1
  | .held _ => 1
def uptoBulkAll {H : Type} : List (DataW H) → Nat
  | [] => 0
  | d :: r => uptoBulk d + uptoBulkAll r
def uptoBulkEntries {H : Type} : List (Lit × DataW H) → Nat
  | [] => 0
  | x :: r => uptoBulkEntry x + uptoBulkEntries r
def uptoBulkEntry {H : Type} : Lit × DataW H → Nat
  | (.string bytes, d) => bytes.length + uptoBulk d + 1
  | (_, d) => uptoBulk d + 1
 end
def uptoSmall : (H : Type) → List (DataW H) → Bool := fun _ ds => decide (uptoBulkAll ds ≤ 1048576)
def OpenSpec.upto (s : _root_.Go.ChangeSpec) : _root_.Go.OpenSpec := { _root_.Go.OpenSpec.ofChange s with cond := some uptoSmall }

/-- 'scarfjointlaw07.SubgraphClose', WHERE WHAT IT READS IS OF BULK AT MOST 1048576: true; the input reads as it did. -/
def subgraphCloseUptoRow : OpenClaim := { program := "ytbpjoianghehmaa", sum := "22d7a31d1b87f64c1882f4d892a197d530a5a17f85543c32e1f763c4b56b927d", func := "scarfjoint/scarfjointlaw07.SubgraphClose", spec := "subgraphClose", unfollowed := true, recurses := true, apart := false, narrowed := true }
def SubgraphCloseUptoSaid : Prop := subgraphCloseUptoRow.holds Try.pinned (OpenSpec.upto subgraphCloseSpec)

/-- 'scarfjointlaw07.SubgraphBoundary', WHERE WHAT IT READS IS OF BULK AT MOST 1048576: true; the input reads as it did. -/
def subgraphBoundaryUptoRow : OpenClaim := { program := "ytbpjoianghehmaa", sum := "22d7a31d1b87f64c1882f4d892a197d530a5a17f85543c32e1f763c4b56b927d", func := "scarfjoint/scarfjointlaw07.SubgraphBoundary", spec := "subgraphBoundary", unfollowed := true, recurses := true, apart := false, narrowed := true }
def SubgraphBoundaryUptoSaid : Prop := subgraphBoundaryUptoRow.holds Try.pinned (OpenSpec.upto subgraphBoundarySpec)

/-- 'scarfjointlaw07.SubgraphAll', WHERE WHAT IT READS IS OF BULK AT MOST 1048576: true; the input reads as it did. -/
def subgraphAllUptoRow : OpenClaim := { program := "ytbpjoianghehmaa", sum := "22d7a31d1b87f64c1882f4d892a197d530a5a17f85543c32e1f763c4b56b927d", func := "scarfjoint/scarfjointlaw07.SubgraphAll", spec := "subgraphAll", unfollowed := true, recurses := true, apart := false, narrowed := true }
def SubgraphAllUptoSaid : Prop := subgraphAllUptoRow.holds Try.pinned (OpenSpec.upto subgraphAllSpec)

/-- 'scarfjointlaw07.SubgraphValid', WHERE WHAT IT READS IS OF BULK AT MOST 1048576: true; the input reads as it did. -/
def subgraphValidUptoRow : OpenClaim := { program := "ytbpjoianghehmaa", sum := "22d7a31d1b87f64c1882f4d892a197d530a5a17f85543c32e1f763c4b56b927d", func := "scarfjoint/scarfjointlaw07.SubgraphValid", spec := "subgraphValid", unfollowed := true, recurses := true, apart := false, narrowed := true }
def SubgraphValidUptoSaid : Prop := subgraphValidUptoRow.holds Try.pinned (OpenSpec.upto subgraphValidSpec)

/-- 'scarfjointlaw07.SubgraphJoin', WHERE WHAT IT READS IS OF BULK AT MOST 1048576: true; the input reads as it did. -/
def subgraphJoinUptoRow : OpenClaim := { program := "ytbpjoianghehmaa", sum := "22d7a31d1b87f64c1882f4d892a197d530a5a17f85543c32e1f763c4b56b927d", func := "scarfjoint/scarfjointlaw07.SubgraphJoin", spec := "subgraphJoin", unfollowed := true, recurses := true, apart := false, narrowed := true }
def SubgraphJoinUptoSaid : Prop := subgraphJoinUptoRow.holds Try.pinned (OpenSpec.upto subgraphJoinSpec)

/-- 'scarfjointlaw07.SubgraphExtract', WHERE WHAT IT READS IS OF BULK AT MOST 1048576: true; the input reads as it did. -/
def subgraphExtractUptoRow : OpenClaim := { program := "ytbpjoianghehmaa", sum := "22d7a31d1b87f64c1882f4d892a197d530a5a17f85543c32e1f763c4b56b927d", func := "scarfjoint/scarfjointlaw07.SubgraphExtract", spec := "subgraphExtract", unfollowed := true, recurses := true, apart := false, narrowed := true }
def SubgraphExtractUptoSaid : Prop := subgraphExtractUptoRow.holds Try.pinned (OpenSpec.upto subgraphExtractSpec)

/-- 'scarfjointlaw07.SubgraphImage', WHERE WHAT IT READS IS OF BULK AT MOST 1048576: true; the input reads as it did. -/
def subgraphImageUptoRow : OpenClaim := { program := "ytbpjoianghehmaa", sum := "22d7a31d1b87f64c1882f4d892a197d530a5a17f85543c32e1f763c4b56b927d", func := "scarfjoint/scarfjointlaw07.SubgraphImage", spec := "subgraphImage", unfollowed := true, recurses := true, apart := false, narrowed := true }
def SubgraphImageUptoSaid : Prop := subgraphImageUptoRow.holds Try.pinned (OpenSpec.upto subgraphImageSpec)

/-- 'scarfjointlaw07.SubgraphAdjoint', WHERE WHAT IT READS IS OF BULK AT MOST 1048576: true; the input reads as it did. -/
def subgraphAdjointUptoRow : OpenClaim := { program := "ytbpjoianghehmaa", sum := "22d7a31d1b87f64c1882f4d892a197d530a5a17f85543c32e1f763c4b56b927d", func := "scarfjoint/scarfjointlaw07.SubgraphAdjoint", spec := "subgraphAdjoint", unfollowed := true, recurses := true, apart := false, narrowed := true }
def SubgraphAdjointUptoSaid : Prop := subgraphAdjointUptoRow.holds Try.pinned (OpenSpec.upto subgraphAdjointSpec)

end Rows
end Go.Proofs.Ytbpjoianghehmaa
