/-
  No cell of these rows narrows 'for every input' (looked for: loops, veiled, ifaces, maps, wideKeys, modest, calm, conditions, laid).
  DERIVED. THE GIVEN ROWS OF THIS SEAT. 7 by the template 'for every input the law returns true; each argument reads behind the call as it read before'; 0 by the template 'total and deterministic' (their statements: YtgmojdpklekldaaTotals.lean).
  GIVEN WITH THE SEED: the statements are not yours to turn. If you find one false, say at which input.
  Laid BY PROGRAM, IN A SANDBOX (cutbox-rows.mjs): the forced cells as the released guide's own fill.sh prints them over the translation 0e057641fc47cb5a… (all of the seat's roots in one cut). By AI agents, Wed Nov 11 2026. No macro, syntax, notation, axiom, sorry.
-/
import Derived.Test.YtgmojdpklekldaaChecked
import GoSem.Claim
import GoSem.ClaimJoined
import GoSem.ClaimMapViews
import Derived.JoinedTies
import Derived.KernelRfl
namespace Go.Proofs.Ytgmojdpklekldaa
/- THE CELL 'sum', in the pinned program and in every row, IS THE sha256 OF THE DUMP (.gsa) THAT YtgmojdpklekldaaProg.lean LOADS. Nothing in Lean hashes anything: it is a label: what it is worth is what the hold of that sum in a sandbox is worth. -/
noncomputable def Try.pinned : Pinned := { name := "ytgmojdpklekldaa", sum := "0e057641fc47cb5a7ca75bcf42c14102380d10a114ac2f633a6ebd3454a5727f", checked := Try.checked }
namespace Rows
def none {H : Type} : Left H := { results := [], args := [] }

/-- 'scarfjointlaw06.MorphismValid': WHATEVER THE INPUT: true; the input reads as it did. -/
def morphismValidSpec : ChangeSpec := { name := "morphismValid", fn := fun _ => fun
  | [d1, d2] => { results := [.lit (.bool true)], args := [d1, d2] }
  | _ => none }
def morphismValidRow : OpenClaim := { program := "ytgmojdpklekldaa", sum := "0e057641fc47cb5a7ca75bcf42c14102380d10a114ac2f633a6ebd3454a5727f", func := "scarfjoint/scarfjointlaw06.MorphismValid", spec := "morphismValid", unfollowed := true, recurses := true, apart := false }
def MorphismValidSaid : Prop := morphismValidRow.holds Try.pinned (OpenSpec.ofChange morphismValidSpec)

/-- ITS FALSE NEIGHBOUR: 'it returns false'. Refute it at one input. -/
def morphismValidWrong : ChangeSpec := { name := "morphismValid", fn := fun _ => fun
  | [d1, d2] => { results := [.lit (.bool false)], args := [d1, d2] }
  | _ => none }
def MorphismValidWrongFalsely : Prop := morphismValidRow.holds Try.pinned (OpenSpec.ofChange morphismValidWrong)

/-- 'scarfjointlaw06.MorphismAll': WHATEVER THE INPUT: true; the input reads as it did. -/
def morphismAllSpec : ChangeSpec := { name := "morphismAll", fn := fun _ => fun
  | [d1, d2] => { results := [.lit (.bool true)], args := [d1, d2] }
  | _ => none }
def morphismAllRow : OpenClaim := { program := "ytgmojdpklekldaa", sum := "0e057641fc47cb5a7ca75bcf42c14102380d10a114ac2f633a6ebd3454a5727f", func := "scarfjoint/scarfjointlaw06.MorphismAll", spec := "morphismAll", unfollowed := true, recurses := true, apart := false }
def MorphismAllSaid : Prop := morphismAllRow.holds Try.pinned (OpenSpec.ofChange morphismAllSpec)

/-- ITS FALSE NEIGHBOUR: 'it returns false'. Refute it at one input. -/
def morphismAllWrong : ChangeSpec := { name := "morphismAll", fn := fun _ => fun
  | [d1, d2] => { results := [.lit (.bool false)], args := [d1, d2] }
  | _ => none }
def MorphismAllWrongFalsely : Prop := morphismAllRow.holds Try.pinned (OpenSpec.ofChange morphismAllWrong)

/-- 'scarfjointlaw06.MorphismSame': WHATEVER THE INPUT: true; the input reads as it did. -/
def morphismSameSpec : ChangeSpec := { name := "morphismSame", fn := fun _ => fun
  | [d1, d2, d3] => { results := [.lit (.bool true)], args := [d1, d2, d3] }
  | _ => none }
def morphismSameRow : OpenClaim := { program := "ytgmojdpklekldaa", sum := "0e057641fc47cb5a7ca75bcf42c14102380d10a114ac2f633a6ebd3454a5727f", func := "scarfjoint/scarfjointlaw06.MorphismSame", spec := "morphismSame", unfollowed := true, recurses := true, apart := false }
def MorphismSameSaid : Prop := morphismSameRow.holds Try.pinned (OpenSpec.ofChange morphismSameSpec)

/-- ITS FALSE NEIGHBOUR: 'it returns false'. Refute it at one input. -/
def morphismSameWrong : ChangeSpec := { name := "morphismSame", fn := fun _ => fun
  | [d1, d2, d3] => { results := [.lit (.bool false)], args := [d1, d2, d3] }
  | _ => none }
def MorphismSameWrongFalsely : Prop := morphismSameRow.holds Try.pinned (OpenSpec.ofChange morphismSameWrong)

/-- 'scarfjointlaw06.MorphismCompose': WHATEVER THE INPUT: true; the input reads as it did. -/
def morphismComposeSpec : ChangeSpec := { name := "morphismCompose", fn := fun _ => fun
  | [d1, d2, d3] => { results := [.lit (.bool true)], args := [d1, d2, d3] }
  | _ => none }
def morphismComposeRow : OpenClaim := { program := "ytgmojdpklekldaa", sum := "0e057641fc47cb5a7ca75bcf42c14102380d10a114ac2f633a6ebd3454a5727f", func := "scarfjoint/scarfjointlaw06.MorphismCompose", spec := "morphismCompose", unfollowed := true, recurses := true, apart := false }
def MorphismComposeSaid : Prop := morphismComposeRow.holds Try.pinned (OpenSpec.ofChange morphismComposeSpec)

/-- ITS FALSE NEIGHBOUR: 'it returns false'. Refute it at one input. -/
def morphismComposeWrong : ChangeSpec := { name := "morphismCompose", fn := fun _ => fun
  | [d1, d2, d3] => { results := [.lit (.bool false)], args := [d1, d2, d3] }
  | _ => none }
def MorphismComposeWrongFalsely : Prop := morphismComposeRow.holds Try.pinned (OpenSpec.ofChange morphismComposeWrong)

/-- 'scarfjointlaw06.MorphismKinds': WHATEVER THE INPUT: true; the input reads as it did. -/
def morphismKindsSpec : ChangeSpec := { name := "morphismKinds", fn := fun _ => fun
  | [d1, d2, d3] => { results := [.lit (.bool true)], args := [d1, d2, d3] }
  | _ => none }
def morphismKindsRow : OpenClaim := { program := "ytgmojdpklekldaa", sum := "0e057641fc47cb5a7ca75bcf42c14102380d10a114ac2f633a6ebd3454a5727f", func := "scarfjoint/scarfjointlaw06.MorphismKinds", spec := "morphismKinds", unfollowed := true, recurses := true, apart := false }
def MorphismKindsSaid : Prop := morphismKindsRow.holds Try.pinned (OpenSpec.ofChange morphismKindsSpec)

/-- ITS FALSE NEIGHBOUR: 'it returns false'. Refute it at one input. -/
def morphismKindsWrong : ChangeSpec := { name := "morphismKinds", fn := fun _ => fun
  | [d1, d2, d3] => { results := [.lit (.bool false)], args := [d1, d2, d3] }
  | _ => none }
def MorphismKindsWrongFalsely : Prop := morphismKindsRow.holds Try.pinned (OpenSpec.ofChange morphismKindsWrong)

/-- 'scarfjointlaw06.MorphismAssociative': WHATEVER THE INPUT: true; the input reads as it did. -/
def morphismAssociativeSpec : ChangeSpec := { name := "morphismAssociative", fn := fun _ => fun
  | [d1, d2, d3] => { results := [.lit (.bool true)], args := [d1, d2, d3] }
  | _ => none }
def morphismAssociativeRow : OpenClaim := { program := "ytgmojdpklekldaa", sum := "0e057641fc47cb5a7ca75bcf42c14102380d10a114ac2f633a6ebd3454a5727f", func := "scarfjoint/scarfjointlaw06.MorphismAssociative", spec := "morphismAssociative", unfollowed := true, recurses := true, apart := false }
def MorphismAssociativeSaid : Prop := morphismAssociativeRow.holds Try.pinned (OpenSpec.ofChange morphismAssociativeSpec)

/-- ITS FALSE NEIGHBOUR: 'it returns false'. Refute it at one input. -/
def morphismAssociativeWrong : ChangeSpec := { name := "morphismAssociative", fn := fun _ => fun
  | [d1, d2, d3] => { results := [.lit (.bool false)], args := [d1, d2, d3] }
  | _ => none }
def MorphismAssociativeWrongFalsely : Prop := morphismAssociativeRow.holds Try.pinned (OpenSpec.ofChange morphismAssociativeWrong)

/-- 'scarfjointlaw06.MorphismInverse': WHATEVER THE INPUT: true; the input reads as it did. -/
def morphismInverseSpec : ChangeSpec := { name := "morphismInverse", fn := fun _ => fun
  | [d1, d2] => { results := [.lit (.bool true)], args := [d1, d2] }
  | _ => none }
def morphismInverseRow : OpenClaim := { program := "ytgmojdpklekldaa", sum := "0e057641fc47cb5a7ca75bcf42c14102380d10a114ac2f633a6ebd3454a5727f", func := "scarfjoint/scarfjointlaw06.MorphismInverse", spec := "morphismInverse", unfollowed := true, recurses := true, apart := false }
def MorphismInverseSaid : Prop := morphismInverseRow.holds Try.pinned (OpenSpec.ofChange morphismInverseSpec)

/-- ITS FALSE NEIGHBOUR: 'it returns false'. Refute it at one input. -/
def morphismInverseWrong : ChangeSpec := { name := "morphismInverse", fn := fun _ => fun
  | [d1, d2] => { results := [.lit (.bool false)], args := [d1, d2] }
  | _ => none }
def MorphismInverseWrongFalsely : Prop := morphismInverseRow.holds Try.pinned (OpenSpec.ofChange morphismInverseWrong)

/- THE SECOND FORM. 'bulk': how many values and letters a reading holds, each counted each time it is reached (what is shared counts as often as it is met; a slice's spare places count too). A statement '..UptoSaid' is the law's where the arguments, and the package variables that the reading takes, are together of bulk at most 1048576: NARROWER than '..Said'. Prove '..Said' where nothing that the law and all that it calls make is longer than what came in: it says more and counts as full. Else prove '..UptoSaid'. A law counts once. -/
mutual
def uptoBulk {H : Type} : DataW H → Nat
  | .lit (.string bytes) => bytes.length + 1
  | .lit _ => 1
  | .nil => 1
  | .ptr d => uptoBulk d + 1
  | .slice elems spare => uptoBulkAll elems + uptoBulkAll spare + 1
  | .agg parts => uptoBulkAll parts + 1
  | .iface _ d => uptoBulk d + 1
  | .map entries => uptoBulkEntries entries + 1
  | .held _ => 1
def uptoBulkAll {H : Type} : List (DataW H) → Nat
  | [] => 0
  | d :: r => uptoBulk d + uptoBulkAll r
def uptoBulkEntries {H : Type} : List (Lit × DataW H) → Nat
  | [] => 0
  | x :: r => uptoBulkEntry x + uptoBulkEntries r
def uptoBulkEntry {H : Type} : Lit × DataW H → Nat
  | (.string bytes, d) => bytes.length + uptoBulk d + 1
  | (_, d) => uptoBulk d + 1
 end
def uptoSmall : (H : Type) → List (DataW H) → Bool := fun _ ds => decide (uptoBulkAll ds ≤ 1048576)
def OpenSpec.upto (s : _root_.Go.ChangeSpec) : _root_.Go.OpenSpec := { _root_.Go.OpenSpec.ofChange s with cond := some uptoSmall }

/-- 'scarfjointlaw06.MorphismValid', WHERE WHAT IT READS IS OF BULK AT MOST 1048576: true; the input reads as it did. -/
def morphismValidUptoRow : OpenClaim := { program := "ytgmojdpklekldaa", sum := "0e057641fc47cb5a7ca75bcf42c14102380d10a114ac2f633a6ebd3454a5727f", func := "scarfjoint/scarfjointlaw06.MorphismValid", spec := "morphismValid", unfollowed := true, recurses := true, apart := false, narrowed := true }
def MorphismValidUptoSaid : Prop := morphismValidUptoRow.holds Try.pinned (OpenSpec.upto morphismValidSpec)

/-- 'scarfjointlaw06.MorphismAll', WHERE WHAT IT READS IS OF BULK AT MOST 1048576: true; the input reads as it did. -/
def morphismAllUptoRow : OpenClaim := { program := "ytgmojdpklekldaa", sum := "0e057641fc47cb5a7ca75bcf42c14102380d10a114ac2f633a6ebd3454a5727f", func := "scarfjoint/scarfjointlaw06.MorphismAll", spec := "morphismAll", unfollowed := true, recurses := true, apart := false, narrowed := true }
def MorphismAllUptoSaid : Prop := morphismAllUptoRow.holds Try.pinned (OpenSpec.upto morphismAllSpec)

/-- 'scarfjointlaw06.MorphismSame', WHERE WHAT IT READS IS OF BULK AT MOST 1048576: true; the input reads as it did. -/
def morphismSameUptoRow : OpenClaim := { program := "ytgmojdpklekldaa", sum := "0e057641fc47cb5a7ca75bcf42c14102380d10a114ac2f633a6ebd3454a5727f", func := "scarfjoint/scarfjointlaw06.MorphismSame", spec := "morphismSame", unfollowed := true, recurses := true, apart := false, narrowed := true }
def MorphismSameUptoSaid : Prop := morphismSameUptoRow.holds Try.pinned (OpenSpec.upto morphismSameSpec)

/-- 'scarfjointlaw06.MorphismCompose', WHERE WHAT IT READS IS OF BULK AT MOST 1048576: true; the input reads as it did. -/
def morphismComposeUptoRow : OpenClaim := { program := "ytgmojdpklekldaa", sum := "0e057641fc47cb5a7ca75bcf42c14102380d10a114ac2f633a6ebd3454a5727f", func := "scarfjoint/scarfjointlaw06.MorphismCompose", spec := "morphismCompose", unfollowed := true, recurses := true, apart := false, narrowed := true }
def MorphismComposeUptoSaid : Prop := morphismComposeUptoRow.holds Try.pinned (OpenSpec.upto morphismComposeSpec)

/-- 'scarfjointlaw06.MorphismKinds', WHERE WHAT IT READS IS OF BULK AT MOST 1048576: true; the input reads as it did. -/
def morphismKindsUptoRow : OpenClaim := { program := "ytgmojdpklekldaa", sum := "0e057641fc47cb5a7ca75bcf42c14102380d10a114ac2f633a6ebd3454a5727f", func := "scarfjoint/scarfjointlaw06.MorphismKinds", spec := "morphismKinds", unfollowed := true, recurses := true, apart := false, narrowed := true }
def MorphismKindsUptoSaid : Prop := morphismKindsUptoRow.holds Try.pinned (OpenSpec.upto morphismKindsSpec)

/-- 'scarfjointlaw06.MorphismAssociative', WHERE WHAT IT READS IS OF BULK AT MOST 1048576: true; the input reads as it did. -/
def morphismAssociativeUptoRow : OpenClaim := { program := "ytgmojdpklekldaa", sum := "0e057641fc47cb5a7ca75bcf42c14102380d10a114ac2f633a6ebd3454a5727f", func := "scarfjoint/scarfjointlaw06.MorphismAssociative", spec := "morphismAssociative", unfollowed := true, recurses := true, apart := false, narrowed := true }
def MorphismAssociativeUptoSaid : Prop := morphismAssociativeUptoRow.holds Try.pinned (OpenSpec.upto morphismAssociativeSpec)

/-- 'scarfjointlaw06.MorphismInverse', WHERE WHAT IT READS IS OF BULK AT MOST 1048576: true; the input reads as it did. -/
def morphismInverseUptoRow : OpenClaim := { program := "ytgmojdpklekldaa", sum := "0e057641fc47cb5a7ca75bcf42c14102380d10a114ac2f633a6ebd3454a5727f", func := "scarfjoint/scarfjointlaw06.MorphismInverse", spec := "morphismInverse", unfollowed := true, recurses := true, apart := false, narrowed := true }
def MorphismInverseUptoSaid : Prop := morphismInverseUptoRow.holds Try.pinned (OpenSpec.upto morphismInverseSpec)

end Rows
end Go.Proofs.Ytgmojdpklekldaa
