/-
  No cell of these rows narrows 'for every input' (looked for: loops, veiled, ifaces, maps, wideKeys, modest, calm, conditions, laid).
  DERIVED. THE GIVEN ROWS OF THIS SEAT. 7 by the template 'for every input the law returns true; each argument reads behind the call as it read before'; 0 by the template 'total and deterministic' (their statements: YtpdjpdfkacpnnaaTotals.lean).
  GIVEN WITH THE SEED: the statements are not yours to turn. If you find one false, say at which input.
  Laid BY PROGRAM, IN A SANDBOX (cutbox-rows.mjs): the forced cells as the released guide's own fill.sh prints them over the translation 283b1e11cee305d4… (all of the seat's roots in one cut). By AI agents, Wed Nov 11 2026. No macro, syntax, notation, axiom, sorry.
-/
import Derived.Test.YtpdjpdfkacpnnaaChecked
import GoSem.Claim
import GoSem.ClaimJoined
import GoSem.ClaimMapViews
import Derived.JoinedTies
import Derived.KernelRfl
namespace Go.Proofs.Ytpdjpdfkacpnnaa
/- THE CELL 'sum', in the pinned program and in every row, IS THE sha256 OF THE DUMP (.gsa) THAT YtpdjpdfkacpnnaaProg.lean LOADS. Nothing in Lean hashes anything: it is a label: what it is worth is what the hold of that sum in a sandbox is worth. -/
noncomputable def Try.pinned : Pinned := { name := "ytpdjpdfkacpnnaa", sum := "283b1e11cee305d402ba1b7f5bd26137528c1d1b3c582faaf0f0d09ed02120fe", checked := Try.checked }
namespace Rows
def none {H : Type} : Left H := { results := [], args := [] }

/-- 'scarfjointlaw10.PushoutCoequalizer': WHATEVER THE INPUT: true; the input reads as it did. -/
def pushoutCoequalizerSpec : ChangeSpec := { name := "pushoutCoequalizer", fn := fun _ => fun
  | [d1, d2] => { results := [.lit (.bool true)], args := [d1, d2] }
  | _ => none }
def pushoutCoequalizerRow : OpenClaim := { program := "ytpdjpdfkacpnnaa", sum := "283b1e11cee305d402ba1b7f5bd26137528c1d1b3c582faaf0f0d09ed02120fe", func := "scarfjoint/scarfjointlaw10.PushoutCoequalizer", spec := "pushoutCoequalizer", unfollowed := true, recurses := true, apart := false }
def PushoutCoequalizerSaid : Prop := pushoutCoequalizerRow.holds Try.pinned (OpenSpec.ofChange pushoutCoequalizerSpec)

/-- ITS FALSE NEIGHBOUR: 'it returns false'. Refute it at one input. -/
def pushoutCoequalizerWrong : ChangeSpec := { name := "pushoutCoequalizer", fn := fun _ => fun
  | [d1, d2] => { results := [.lit (.bool false)], args := [d1, d2] }
  | _ => none }
def PushoutCoequalizerWrongFalsely : Prop := pushoutCoequalizerRow.holds Try.pinned (OpenSpec.ofChange pushoutCoequalizerWrong)

/-- 'scarfjointlaw10.PushoutSeveral': WHATEVER THE INPUT: true; the input reads as it did. -/
def pushoutSeveralSpec : ChangeSpec := { name := "pushoutSeveral", fn := fun _ => fun
  | [d1, d2, d3] => { results := [.lit (.bool true)], args := [d1, d2, d3] }
  | _ => none }
def pushoutSeveralRow : OpenClaim := { program := "ytpdjpdfkacpnnaa", sum := "283b1e11cee305d402ba1b7f5bd26137528c1d1b3c582faaf0f0d09ed02120fe", func := "scarfjoint/scarfjointlaw10.PushoutSeveral", spec := "pushoutSeveral", unfollowed := true, recurses := true, apart := false }
def PushoutSeveralSaid : Prop := pushoutSeveralRow.holds Try.pinned (OpenSpec.ofChange pushoutSeveralSpec)

/-- ITS FALSE NEIGHBOUR: 'it returns false'. Refute it at one input. -/
def pushoutSeveralWrong : ChangeSpec := { name := "pushoutSeveral", fn := fun _ => fun
  | [d1, d2, d3] => { results := [.lit (.bool false)], args := [d1, d2, d3] }
  | _ => none }
def PushoutSeveralWrongFalsely : Prop := pushoutSeveralRow.holds Try.pinned (OpenSpec.ofChange pushoutSeveralWrong)

/-- 'scarfjointlaw10.PushoutMediate': WHATEVER THE INPUT: true; the input reads as it did. -/
def pushoutMediateSpec : ChangeSpec := { name := "pushoutMediate", fn := fun _ => fun
  | [d1, d2] => { results := [.lit (.bool true)], args := [d1, d2] }
  | _ => none }
def pushoutMediateRow : OpenClaim := { program := "ytpdjpdfkacpnnaa", sum := "283b1e11cee305d402ba1b7f5bd26137528c1d1b3c582faaf0f0d09ed02120fe", func := "scarfjoint/scarfjointlaw10.PushoutMediate", spec := "pushoutMediate", unfollowed := true, recurses := true, apart := false }
def PushoutMediateSaid : Prop := pushoutMediateRow.holds Try.pinned (OpenSpec.ofChange pushoutMediateSpec)

/-- ITS FALSE NEIGHBOUR: 'it returns false'. Refute it at one input. -/
def pushoutMediateWrong : ChangeSpec := { name := "pushoutMediate", fn := fun _ => fun
  | [d1, d2] => { results := [.lit (.bool false)], args := [d1, d2] }
  | _ => none }
def PushoutMediateWrongFalsely : Prop := pushoutMediateRow.holds Try.pinned (OpenSpec.ofChange pushoutMediateWrong)

/-- 'scarfjointlaw10.PushoutUnique': WHATEVER THE INPUT: true; the input reads as it did. -/
def pushoutUniqueSpec : ChangeSpec := { name := "pushoutUnique", fn := fun _ => fun
  | [d1, d2] => { results := [.lit (.bool true)], args := [d1, d2] }
  | _ => none }
def pushoutUniqueRow : OpenClaim := { program := "ytpdjpdfkacpnnaa", sum := "283b1e11cee305d402ba1b7f5bd26137528c1d1b3c582faaf0f0d09ed02120fe", func := "scarfjoint/scarfjointlaw10.PushoutUnique", spec := "pushoutUnique", unfollowed := true, recurses := true, apart := false }
def PushoutUniqueSaid : Prop := pushoutUniqueRow.holds Try.pinned (OpenSpec.ofChange pushoutUniqueSpec)

/-- ITS FALSE NEIGHBOUR: 'it returns false'. Refute it at one input. -/
def pushoutUniqueWrong : ChangeSpec := { name := "pushoutUnique", fn := fun _ => fun
  | [d1, d2] => { results := [.lit (.bool false)], args := [d1, d2] }
  | _ => none }
def PushoutUniqueWrongFalsely : Prop := pushoutUniqueRow.holds Try.pinned (OpenSpec.ofChange pushoutUniqueWrong)

/-- 'scarfjointlaw10.PushoutOf': WHATEVER THE INPUT: true; the input reads as it did. -/
def pushoutOfSpec : ChangeSpec := { name := "pushoutOf", fn := fun _ => fun
  | [d] => { results := [.lit (.bool true)], args := [d] }
  | _ => none }
def pushoutOfRow : OpenClaim := { program := "ytpdjpdfkacpnnaa", sum := "283b1e11cee305d402ba1b7f5bd26137528c1d1b3c582faaf0f0d09ed02120fe", func := "scarfjoint/scarfjointlaw10.PushoutOf", spec := "pushoutOf", unfollowed := true, recurses := true, apart := false }
def PushoutOfSaid : Prop := pushoutOfRow.holds Try.pinned (OpenSpec.ofChange pushoutOfSpec)

/-- ITS FALSE NEIGHBOUR: 'it returns false'. Refute it at one input. -/
def pushoutOfWrong : ChangeSpec := { name := "pushoutOf", fn := fun _ => fun
  | [d] => { results := [.lit (.bool false)], args := [d] }
  | _ => none }
def PushoutOfWrongFalsely : Prop := pushoutOfRow.holds Try.pinned (OpenSpec.ofChange pushoutOfWrong)

/-- 'scarfjointlaw10.PushoutKinds': WHATEVER THE INPUT: true; the input reads as it did. -/
def pushoutKindsSpec : ChangeSpec := { name := "pushoutKinds", fn := fun _ => fun
  | [d1, d2, d3] => { results := [.lit (.bool true)], args := [d1, d2, d3] }
  | _ => none }
def pushoutKindsRow : OpenClaim := { program := "ytpdjpdfkacpnnaa", sum := "283b1e11cee305d402ba1b7f5bd26137528c1d1b3c582faaf0f0d09ed02120fe", func := "scarfjoint/scarfjointlaw10.PushoutKinds", spec := "pushoutKinds", unfollowed := true, recurses := true, apart := false }
def PushoutKindsSaid : Prop := pushoutKindsRow.holds Try.pinned (OpenSpec.ofChange pushoutKindsSpec)

/-- ITS FALSE NEIGHBOUR: 'it returns false'. Refute it at one input. -/
def pushoutKindsWrong : ChangeSpec := { name := "pushoutKinds", fn := fun _ => fun
  | [d1, d2, d3] => { results := [.lit (.bool false)], args := [d1, d2, d3] }
  | _ => none }
def PushoutKindsWrongFalsely : Prop := pushoutKindsRow.holds Try.pinned (OpenSpec.ofChange pushoutKindsWrong)

/-- 'scarfjointlaw10.PushoutMore': WHATEVER THE INPUT: true; the input reads as it did. -/
def pushoutMoreSpec : ChangeSpec := { name := "pushoutMore", fn := fun _ => fun
  | [d1, d2, d3] => { results := [.lit (.bool true)], args := [d1, d2, d3] }
  | _ => none }
def pushoutMoreRow : OpenClaim := { program := "ytpdjpdfkacpnnaa", sum := "283b1e11cee305d402ba1b7f5bd26137528c1d1b3c582faaf0f0d09ed02120fe", func := "scarfjoint/scarfjointlaw10.PushoutMore", spec := "pushoutMore", unfollowed := true, recurses := true, apart := false }
def PushoutMoreSaid : Prop := pushoutMoreRow.holds Try.pinned (OpenSpec.ofChange pushoutMoreSpec)

/-- ITS FALSE NEIGHBOUR: 'it returns false'. Refute it at one input. -/
def pushoutMoreWrong : ChangeSpec := { name := "pushoutMore", fn := fun _ => fun
  | [d1, d2, d3] => { results := [.lit (.bool false)], args := [d1, d2, d3] }
  | _ => none }
def PushoutMoreWrongFalsely : Prop := pushoutMoreRow.holds Try.pinned (OpenSpec.ofChange pushoutMoreWrong)

/- THE SECOND FORM. 'bulk': how many values and letters a reading holds, each counted each time it is reached (what is shared counts as often as it is met; a slice's spare places count too). A statement '..UptoSaid' is the law's where the arguments, and the package variables that the reading takes, are together of bulk at most 1048576: NARROWER than '..Said'. Prove '..Said' where nothing that the law and all that it calls make is longer than what came in: it says more and counts as full. Else prove '..UptoSaid'. A law counts once. -/
mutual
def uptoBulk {H : Type} : DataW H → Nat
  | .lit (.string bytes) => bytes.length + 1
  | .lit _ => 1
  | .nil => 1
  | .ptr d => uptoBulk d + 1
  | .slice elems spare => uptoBulkAll elems + uptoBulkAll spare + 1
  | .agg parts => uptoBulkAll parts + 1
  | .iface _ d => uptoBulk d + 1
  | .map entries => uptoBulkEntries entries + 1
  | .held _ => 1
def uptoBulkAll {H : Type} : List (DataW H) → Nat
  | [] => 0
  | d :: r => uptoBulk d + uptoBulkAll r
def uptoBulkEntries {H : Type} : List (Lit × DataW H) → Nat
  | [] => 0
  | x :: r => uptoBulkEntry x + uptoBulkEntries r
def uptoBulkEntry {H : Type} : Lit × DataW H → Nat
  | (.string bytes, d) => bytes.length + uptoBulk d + 1
  | (_, d) => uptoBulk d + 1
 end
def uptoSmall : (H : Type) → List (DataW H) → Bool := fun _ ds => decide (uptoBulkAll ds ≤ 1048576)
def OpenSpec.upto (s : _root_.Go.ChangeSpec) : _root_.Go.OpenSpec := { _root_.Go.OpenSpec.ofChange s with cond := some uptoSmall }

/-- 'scarfjointlaw10.PushoutCoequalizer', WHERE WHAT IT READS IS OF BULK AT MOST 1048576: true; the input reads as it did. -/
def pushoutCoequalizerUptoRow : OpenClaim := { program := "ytpdjpdfkacpnnaa", sum := "283b1e11cee305d402ba1b7f5bd26137528c1d1b3c582faaf0f0d09ed02120fe", func := "scarfjoint/scarfjointlaw10.PushoutCoequalizer", spec := "pushoutCoequalizer", unfollowed := true, recurses := true, apart := false, narrowed := true }
def PushoutCoequalizerUptoSaid : Prop := pushoutCoequalizerUptoRow.holds Try.pinned (OpenSpec.upto pushoutCoequalizerSpec)

/-- 'scarfjointlaw10.PushoutSeveral', WHERE WHAT IT READS IS OF BULK AT MOST 1048576: true; the input reads as it did. -/
def pushoutSeveralUptoRow : OpenClaim := { program := "ytpdjpdfkacpnnaa", sum := "283b1e11cee305d402ba1b7f5bd26137528c1d1b3c582faaf0f0d09ed02120fe", func := "scarfjoint/scarfjointlaw10.PushoutSeveral", spec := "pushoutSeveral", unfollowed := true, recurses := true, apart := false, narrowed := true }
def PushoutSeveralUptoSaid : Prop := pushoutSeveralUptoRow.holds Try.pinned (OpenSpec.upto pushoutSeveralSpec)

/-- 'scarfjointlaw10.PushoutMediate', WHERE WHAT IT READS IS OF BULK AT MOST 1048576: true; the input reads as it did. -/
def pushoutMediateUptoRow : OpenClaim := { program := "ytpdjpdfkacpnnaa", sum := "283b1e11cee305d402ba1b7f5bd26137528c1d1b3c582faaf0f0d09ed02120fe", func := "scarfjoint/scarfjointlaw10.PushoutMediate", spec := "pushoutMediate", unfollowed := true, recurses := true, apart := false, narrowed := true }
def PushoutMediateUptoSaid : Prop := pushoutMediateUptoRow.holds Try.pinned (OpenSpec.upto pushoutMediateSpec)

/-- 'scarfjointlaw10.PushoutUnique', WHERE WHAT IT READS IS OF BULK AT MOST 1048576: true; the input reads as it did. -/
def pushoutUniqueUptoRow : OpenClaim := { program := "ytpdjpdfkacpnnaa", sum := "283b1e11cee305d402ba1b7f5bd26137528c1d1b3c582faaf0f0d09ed02120fe", func := "scarfjoint/scarfjointlaw10.PushoutUnique", spec := "pushoutUnique", unfollowed := true, recurses := true, apart := false, narrowed := true }
def PushoutUniqueUptoSaid : Prop := pushoutUniqueUptoRow.holds Try.pinned (OpenSpec.upto pushoutUniqueSpec)

/-- 'scarfjointlaw10.PushoutOf', WHERE WHAT IT READS IS OF BULK AT MOST 1048576: true; the input reads as it did. -/
def pushoutOfUptoRow : OpenClaim := { program := "ytpdjpdfkacpnnaa", sum := "283b1e11cee305d402ba1b7f5bd26137528c1d1b3c582faaf0f0d09ed02120fe", func := "scarfjoint/scarfjointlaw10.PushoutOf", spec := "pushoutOf", unfollowed := true, recurses := true, apart := false, narrowed := true }
def PushoutOfUptoSaid : Prop := pushoutOfUptoRow.holds Try.pinned (OpenSpec.upto pushoutOfSpec)

/-- 'scarfjointlaw10.PushoutKinds', WHERE WHAT IT READS IS OF BULK AT MOST 1048576: true; the input reads as it did. -/
def pushoutKindsUptoRow : OpenClaim := { program := "ytpdjpdfkacpnnaa", sum := "283b1e11cee305d402ba1b7f5bd26137528c1d1b3c582faaf0f0d09ed02120fe", func := "scarfjoint/scarfjointlaw10.PushoutKinds", spec := "pushoutKinds", unfollowed := true, recurses := true, apart := false, narrowed := true }
def PushoutKindsUptoSaid : Prop := pushoutKindsUptoRow.holds Try.pinned (OpenSpec.upto pushoutKindsSpec)

/-- 'scarfjointlaw10.PushoutMore', WHERE WHAT IT READS IS OF BULK AT MOST 1048576: true; the input reads as it did. -/
def pushoutMoreUptoRow : OpenClaim := { program := "ytpdjpdfkacpnnaa", sum := "283b1e11cee305d402ba1b7f5bd26137528c1d1b3c582faaf0f0d09ed02120fe", func := "scarfjoint/scarfjointlaw10.PushoutMore", spec := "pushoutMore", unfollowed := true, recurses := true, apart := false, narrowed := true }
def PushoutMoreUptoSaid : Prop := pushoutMoreUptoRow.holds Try.pinned (OpenSpec.upto pushoutMoreSpec)

end Rows
end Go.Proofs.Ytpdjpdfkacpnnaa
