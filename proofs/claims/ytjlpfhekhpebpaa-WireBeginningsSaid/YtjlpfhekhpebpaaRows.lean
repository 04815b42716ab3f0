/-
  No cell of these rows narrows 'for every input' (looked for: loops, veiled, ifaces, maps, wideKeys, modest, calm, conditions, laid).
  DERIVED. THE GIVEN ROWS OF THIS SEAT. 7 by the template 'for every input the law returns true; each argument reads behind the call as it read before'; 0 by the template 'total and deterministic' (their statements: YtjlpfhekhpebpaaTotals.lean).
  GIVEN WITH THE SEED: the statements are not yours to turn. If you find one false, say at which input.
  Laid BY PROGRAM, IN A SANDBOX (cutbox-rows.mjs): the forced cells as the released guide's own fill.sh prints them over the translation 930148b9c2859f2e… (all of the seat's roots in one cut). By AI agents, Wed Nov 11 2026. No macro, syntax, notation, axiom, sorry.
-/
import Derived.Test.YtjlpfhekhpebpaaChecked
import GoSem.Claim
import GoSem.ClaimJoined
import GoSem.ClaimMapViews
import Derived.JoinedTies
import Derived.KernelRfl
namespace Go.Proofs.Ytjlpfhekhpebpaa
/- THE CELL 'sum', in the pinned program and in every row, IS THE sha256 OF THE DUMP (.gsa) THAT YtjlpfhekhpebpaaProg.lean LOADS. Nothing in Lean hashes anything: it is a label: what it is worth is what the hold of that sum in a sandbox is worth. -/
noncomputable def Try.pinned : Pinned := { name := "ytjlpfhekhpebpaa", sum := "930148b9c2859f2edb3ffc59acba66ede79625fcdfc66e5c10b8408c3657dc22", checked := Try.checked }
namespace Rows
def none {H : Type} : Left H := { results := [], args := [] }

/-- 'slotmeshlaw04.WireMatchesReference': WHATEVER THE INPUT: true; the input reads as it did. -/
def wireMatchesReferenceSpec : ChangeSpec := { name := "wireMatchesReference", fn := fun _ => fun
  | [d1, d2, d3, d4, d5] => { results := [.lit (.bool true)], args := [d1, d2, d3, d4, d5] }
  | _ => none }
def wireMatchesReferenceRow : OpenClaim := { program := "ytjlpfhekhpebpaa", sum := "930148b9c2859f2edb3ffc59acba66ede79625fcdfc66e5c10b8408c3657dc22", func := "slotmesh/slotmeshlaw04.WireMatchesReference", spec := "wireMatchesReference", unfollowed := true, recurses := true, apart := false }
def WireMatchesReferenceSaid : Prop := wireMatchesReferenceRow.holds Try.pinned (OpenSpec.ofChange wireMatchesReferenceSpec)

/-- ITS FALSE NEIGHBOUR: 'it returns false'. Refute it at one input. -/
def wireMatchesReferenceWrong : ChangeSpec := { name := "wireMatchesReference", fn := fun _ => fun
  | [d1, d2, d3, d4, d5] => { results := [.lit (.bool false)], args := [d1, d2, d3, d4, d5] }
  | _ => none }
def WireMatchesReferenceWrongFalsely : Prop := wireMatchesReferenceRow.holds Try.pinned (OpenSpec.ofChange wireMatchesReferenceWrong)

/-- 'slotmeshlaw04.WireNumbers': WHATEVER THE INPUT: true; the input reads as it did. -/
def wireNumbersSpec : ChangeSpec := { name := "wireNumbers", fn := fun _ => fun
  | [d1, d2, d3, d4] => { results := [.lit (.bool true)], args := [d1, d2, d3, d4] }
  | _ => none }
def wireNumbersRow : OpenClaim := { program := "ytjlpfhekhpebpaa", sum := "930148b9c2859f2edb3ffc59acba66ede79625fcdfc66e5c10b8408c3657dc22", func := "slotmesh/slotmeshlaw04.WireNumbers", spec := "wireNumbers", unfollowed := true, recurses := true, apart := false }
def WireNumbersSaid : Prop := wireNumbersRow.holds Try.pinned (OpenSpec.ofChange wireNumbersSpec)

/-- ITS FALSE NEIGHBOUR: 'it returns false'. Refute it at one input. -/
def wireNumbersWrong : ChangeSpec := { name := "wireNumbers", fn := fun _ => fun
  | [d1, d2, d3, d4] => { results := [.lit (.bool false)], args := [d1, d2, d3, d4] }
  | _ => none }
def WireNumbersWrongFalsely : Prop := wireNumbersRow.holds Try.pinned (OpenSpec.ofChange wireNumbersWrong)

/-- 'slotmeshlaw04.WireBytes': WHATEVER THE INPUT: true; the input reads as it did. -/
def wireBytesSpec : ChangeSpec := { name := "wireBytes", fn := fun _ => fun
  | [d1, d2, d3, d4] => { results := [.lit (.bool true)], args := [d1, d2, d3, d4] }
  | _ => none }
def wireBytesRow : OpenClaim := { program := "ytjlpfhekhpebpaa", sum := "930148b9c2859f2edb3ffc59acba66ede79625fcdfc66e5c10b8408c3657dc22", func := "slotmesh/slotmeshlaw04.WireBytes", spec := "wireBytes", unfollowed := true, recurses := true, apart := false }
def WireBytesSaid : Prop := wireBytesRow.holds Try.pinned (OpenSpec.ofChange wireBytesSpec)

/-- ITS FALSE NEIGHBOUR: 'it returns false'. Refute it at one input. -/
def wireBytesWrong : ChangeSpec := { name := "wireBytes", fn := fun _ => fun
  | [d1, d2, d3, d4] => { results := [.lit (.bool false)], args := [d1, d2, d3, d4] }
  | _ => none }
def WireBytesWrongFalsely : Prop := wireBytesRow.holds Try.pinned (OpenSpec.ofChange wireBytesWrong)

/-- 'slotmeshlaw04.WireFrames': WHATEVER THE INPUT: true; the input reads as it did. -/
def wireFramesSpec : ChangeSpec := { name := "wireFrames", fn := fun _ => fun
  | [d1, d2] => { results := [.lit (.bool true)], args := [d1, d2] }
  | _ => none }
def wireFramesRow : OpenClaim := { program := "ytjlpfhekhpebpaa", sum := "930148b9c2859f2edb3ffc59acba66ede79625fcdfc66e5c10b8408c3657dc22", func := "slotmesh/slotmeshlaw04.WireFrames", spec := "wireFrames", unfollowed := true, recurses := true, apart := false }
def WireFramesSaid : Prop := wireFramesRow.holds Try.pinned (OpenSpec.ofChange wireFramesSpec)

/-- ITS FALSE NEIGHBOUR: 'it returns false'. Refute it at one input. -/
def wireFramesWrong : ChangeSpec := { name := "wireFrames", fn := fun _ => fun
  | [d1, d2] => { results := [.lit (.bool false)], args := [d1, d2] }
  | _ => none }
def WireFramesWrongFalsely : Prop := wireFramesRow.holds Try.pinned (OpenSpec.ofChange wireFramesWrong)

/-- 'slotmeshlaw04.WireEnds': WHATEVER THE INPUT: true; the input reads as it did. -/
def wireEndsSpec : ChangeSpec := { name := "wireEnds", fn := fun _ => fun
  | [d1, d2, d3] => { results := [.lit (.bool true)], args := [d1, d2, d3] }
  | _ => none }
def wireEndsRow : OpenClaim := { program := "ytjlpfhekhpebpaa", sum := "930148b9c2859f2edb3ffc59acba66ede79625fcdfc66e5c10b8408c3657dc22", func := "slotmesh/slotmeshlaw04.WireEnds", spec := "wireEnds", unfollowed := true, recurses := true, apart := false }
def WireEndsSaid : Prop := wireEndsRow.holds Try.pinned (OpenSpec.ofChange wireEndsSpec)

/-- ITS FALSE NEIGHBOUR: 'it returns false'. Refute it at one input. -/
def wireEndsWrong : ChangeSpec := { name := "wireEnds", fn := fun _ => fun
  | [d1, d2, d3] => { results := [.lit (.bool false)], args := [d1, d2, d3] }
  | _ => none }
def WireEndsWrongFalsely : Prop := wireEndsRow.holds Try.pinned (OpenSpec.ofChange wireEndsWrong)

/-- 'slotmeshlaw04.WireTwoFrames': WHATEVER THE INPUT: true; the input reads as it did. -/
def wireTwoFramesSpec : ChangeSpec := { name := "wireTwoFrames", fn := fun _ => fun
  | [d1, d2] => { results := [.lit (.bool true)], args := [d1, d2] }
  | _ => none }
def wireTwoFramesRow : OpenClaim := { program := "ytjlpfhekhpebpaa", sum := "930148b9c2859f2edb3ffc59acba66ede79625fcdfc66e5c10b8408c3657dc22", func := "slotmesh/slotmeshlaw04.WireTwoFrames", spec := "wireTwoFrames", unfollowed := true, recurses := true, apart := false }
def WireTwoFramesSaid : Prop := wireTwoFramesRow.holds Try.pinned (OpenSpec.ofChange wireTwoFramesSpec)

/-- ITS FALSE NEIGHBOUR: 'it returns false'. Refute it at one input. -/
def wireTwoFramesWrong : ChangeSpec := { name := "wireTwoFrames", fn := fun _ => fun
  | [d1, d2] => { results := [.lit (.bool false)], args := [d1, d2] }
  | _ => none }
def WireTwoFramesWrongFalsely : Prop := wireTwoFramesRow.holds Try.pinned (OpenSpec.ofChange wireTwoFramesWrong)

/-- 'slotmeshlaw04.WireBeginnings': WHATEVER THE INPUT: true; the input reads as it did. -/
def wireBeginningsSpec : ChangeSpec := { name := "wireBeginnings", fn := fun _ => fun
  | [d1, d2, d3] => { results := [.lit (.bool true)], args := [d1, d2, d3] }
  | _ => none }
def wireBeginningsRow : OpenClaim := { program := "ytjlpfhekhpebpaa", sum := "930148b9c2859f2edb3ffc59acba66ede79625fcdfc66e5c10b8408c3657dc22", func := "slotmesh/slotmeshlaw04.WireBeginnings", spec := "wireBeginnings", unfollowed := true, recurses := true, apart := false }
def WireBeginningsSaid : Prop := wireBeginningsRow.holds Try.pinned (OpenSpec.ofChange wireBeginningsSpec)

/-- ITS FALSE NEIGHBOUR: 'it returns false'. Refute it at one input. -/
def wireBeginningsWrong : ChangeSpec := { name := "wireBeginnings", fn := fun _ => fun
  | [d1, d2, d3] => { results := [.lit (.bool false)], args := [d1, d2, d3] }
  | _ => none }
def WireBeginningsWrongFalsely : Prop := wireBeginningsRow.holds Try.pinned (OpenSpec.ofChange wireBeginningsWrong)

/- THE SECOND FORM. 'bulk': how many values and letters a reading holds, each counted each time it is reached (what is shared counts as often as it is met; a slice's spare places count too). A statement '..UptoSaid' is the law's where the arguments, and the package variables that the reading takes, are together of bulk at most 1048576: NARROWER than '..Said'. Prove '..Said' where nothing that the law and all that it calls make is longer than what came in: it says more and counts as full. Else prove '..UptoSaid'. A law counts once. -/
mutual
def uptoBulk {H : Type} : DataW H → Nat
  | .lit (.string bytes) => bytes.length + 1
  | .lit _ => 1
  | .nil => 1
  | .ptr d => uptoBulk d + 1
  | .slice elems spare => uptoBulkAll elems + uptoBulkAll spare + 1
  | .agg parts => uptoBulkAll parts + 1
  | .iface _ d => uptoBulk d + 1
  | .map entries => uptoBulkEntries entries + 1
  | .held _ => 1
def uptoBulkAll {H : Type} : List (DataW H) → Nat
  | [] => 0
  | d :: r => uptoBulk d + uptoBulkAll r
def uptoBulkEntries {H : Type} : List (Lit × DataW H) → Nat
  | [] => 0
  | x :: r => uptoBulkEntry x + uptoBulkEntries r
def uptoBulkEntry {H : Type} : Lit × DataW H → Nat
  | (.string bytes, d) => bytes.length + uptoBulk d + 1
  | (_, d) => uptoBulk d + 1
 end
def uptoSmall : (H : Type) → List (DataW H) → Bool := fun _ ds => decide (uptoBulkAll ds ≤ 1048576)
def OpenSpec.upto (s : _root_.Go.ChangeSpec) : _root_.Go.OpenSpec := { _root_.Go.OpenSpec.ofChange s with cond := some uptoSmall }

/-- 'slotmeshlaw04.WireMatchesReference', WHERE WHAT IT READS IS OF BULK AT MOST 1048576: true; the input reads as it did. -/
def wireMatchesReferenceUptoRow : OpenClaim := { program := "ytjlpfhekhpebpaa", sum := "930148b9c2859f2edb3ffc59acba66ede79625fcdfc66e5c10b8408c3657dc22", func := "slotmesh/slotmeshlaw04.WireMatchesReference", spec := "wireMatchesReference", unfollowed := true, recurses := true, apart := false, narrowed := true }
def WireMatchesReferenceUptoSaid : Prop := wireMatchesReferenceUptoRow.holds Try.pinned (OpenSpec.upto wireMatchesReferenceSpec)

/-- 'slotmeshlaw04.WireNumbers', WHERE WHAT IT READS IS OF BULK AT MOST 1048576: true; the input reads as it did. -/
def wireNumbersUptoRow : OpenClaim := { program := "ytjlpfhekhpebpaa", sum := "930148b9c2859f2edb3ffc59acba66ede79625fcdfc66e5c10b8408c3657dc22", func := "slotmesh/slotmeshlaw04.WireNumbers", spec := "wireNumbers", unfollowed := true, recurses := true, apart := false, narrowed := true }
def WireNumbersUptoSaid : Prop := wireNumbersUptoRow.holds Try.pinned (OpenSpec.upto wireNumbersSpec)

/-- 'slotmeshlaw04.WireBytes', WHERE WHAT IT READS IS OF BULK AT MOST 1048576: true; the input reads as it did. -/
def wireBytesUptoRow : OpenClaim := { program := "ytjlpfhekhpebpaa", sum := "930148b9c2859f2edb3ffc59acba66ede79625fcdfc66e5c10b8408c3657dc22", func := "slotmesh/slotmeshlaw04.WireBytes", spec := "wireBytes", unfollowed := true, recurses := true, apart := false, narrowed := true }
def WireBytesUptoSaid : Prop := wireBytesUptoRow.holds Try.pinned (OpenSpec.upto wireBytesSpec)

/-- 'slotmeshlaw04.WireFrames', WHERE WHAT IT READS IS OF BULK AT MOST 1048576: true; the input reads as it did. -/
def wireFramesUptoRow : OpenClaim := { program := "ytjlpfhekhpebpaa", sum := "930148b9c2859f2edb3ffc59acba66ede79625fcdfc66e5c10b8408c3657dc22", func := "slotmesh/slotmeshlaw04.WireFrames", spec := "wireFrames", unfollowed := true, recurses := true, apart := false, narrowed := true }
def WireFramesUptoSaid : Prop := wireFramesUptoRow.holds Try.pinned (OpenSpec.upto wireFramesSpec)

/-- 'slotmeshlaw04.WireEnds', WHERE WHAT IT READS IS OF BULK AT MOST 1048576: true; the input reads as it did. -/
def wireEndsUptoRow : OpenClaim := { program := "ytjlpfhekhpebpaa", sum := "930148b9c2859f2edb3ffc59acba66ede79625fcdfc66e5c10b8408c3657dc22", func := "slotmesh/slotmeshlaw04.WireEnds", spec := "wireEnds", unfollowed := true, recurses := true, apart := false, narrowed := true }
def WireEndsUptoSaid : Prop := wireEndsUptoRow.holds Try.pinned (OpenSpec.upto wireEndsSpec)

/-- 'slotmeshlaw04.WireTwoFrames', WHERE WHAT IT READS IS OF BULK AT MOST 1048576: true; the input reads as it did. -/
def wireTwoFramesUptoRow : OpenClaim := { program := "ytjlpfhekhpebpaa", sum := "930148b9c2859f2edb3ffc59acba66ede79625fcdfc66e5c10b8408c3657dc22", func := "slotmesh/slotmeshlaw04.WireTwoFrames", spec := "wireTwoFrames", unfollowed := true, recurses := true, apart := false, narrowed := true }
def WireTwoFramesUptoSaid : Prop := wireTwoFramesUptoRow.holds Try.pinned (OpenSpec.upto wireTwoFramesSpec)

/-- 'slotmeshlaw04.WireBeginnings', WHERE WHAT IT READS IS OF BULK AT MOST 1048576: true; the input reads as it did. -/
def wireBeginningsUptoRow : OpenClaim := { program := "ytjlpfhekhpebpaa", sum := "930148b9c2859f2edb3ffc59acba66ede79625fcdfc66e5c10b8408c3657dc22", func := "slotmesh/slotmeshlaw04.WireBeginnings", spec := "wireBeginnings", unfollowed := true, recurses := true, apart := false, narrowed := true }
def WireBeginningsUptoSaid : Prop := wireBeginningsUptoRow.holds Try.pinned (OpenSpec.upto wireBeginningsSpec)

end Rows
end Go.Proofs.Ytjlpfhekhpebpaa
