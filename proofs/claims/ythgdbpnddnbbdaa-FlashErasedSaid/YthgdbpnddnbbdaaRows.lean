/-
  No cell of these rows narrows 'for every input' (looked for: loops, veiled, ifaces, maps, wideKeys, modest, calm, conditions, laid).
  DERIVED. THE GIVEN ROWS OF THIS SEAT. 7 by the template 'for every input the law returns true; each argument reads behind the call as it read before'; 0 by the template 'total and deterministic' (their statements: YthgdbpnddnbbdaaTotals.lean).
  GIVEN WITH THE SEED: the statements are not yours to turn. If you find one false, say at which input.
  Laid BY PROGRAM, IN A SANDBOX (cutbox-rows.mjs): the forced cells as the released guide's own fill.sh prints them over the translation d900cce22f4f0d9b… (all of the seat's roots in one cut). By AI agents, Wed Nov 11 2026. No macro, syntax, notation, axiom, sorry.
-/
import Derived.Test.YthgdbpnddnbbdaaChecked
import GoSem.Claim
import GoSem.ClaimJoined
import GoSem.ClaimMapViews
import Derived.JoinedTies
import Derived.KernelRfl
namespace Go.Proofs.Ythgdbpnddnbbdaa
/- THE CELL 'sum', in the pinned program and in every row, IS THE sha256 OF THE DUMP (.gsa) THAT YthgdbpnddnbbdaaProg.lean LOADS. Nothing in Lean hashes anything: it is a label: what it is worth is what the hold of that sum in a sandbox is worth. -/
noncomputable def Try.pinned : Pinned := { name := "ythgdbpnddnbbdaa", sum := "d900cce22f4f0d9b699b3de526da90229eaec4e3f5d80a2a11fcfa9987428dbc", checked := Try.checked }
namespace Rows
def none {H : Type} : Left H := { results := [], args := [] }

/-- 'slotmeshlaw23.FlashMatchesReference': WHATEVER THE INPUT: true; the input reads as it did. -/
def flashMatchesReferenceSpec : ChangeSpec := { name := "flashMatchesReference", fn := fun _ => fun
  | [d1, d2, d3, d4, d5] => { results := [.lit (.bool true)], args := [d1, d2, d3, d4, d5] }
  | _ => none }
def flashMatchesReferenceRow : OpenClaim := { program := "ythgdbpnddnbbdaa", sum := "d900cce22f4f0d9b699b3de526da90229eaec4e3f5d80a2a11fcfa9987428dbc", func := "slotmesh/slotmeshlaw23.FlashMatchesReference", spec := "flashMatchesReference", inPlace := ["internal/bytealg.MakeNoZero"], unfollowed := true, recurses := true, apart := false }
def FlashMatchesReferenceSaid : Prop := flashMatchesReferenceRow.holds Try.pinned (OpenSpec.ofChange flashMatchesReferenceSpec)

/-- ITS FALSE NEIGHBOUR: 'it returns false'. Refute it at one input. -/
def flashMatchesReferenceWrong : ChangeSpec := { name := "flashMatchesReference", fn := fun _ => fun
  | [d1, d2, d3, d4, d5] => { results := [.lit (.bool false)], args := [d1, d2, d3, d4, d5] }
  | _ => none }
def FlashMatchesReferenceWrongFalsely : Prop := flashMatchesReferenceRow.holds Try.pinned (OpenSpec.ofChange flashMatchesReferenceWrong)

/-- 'slotmeshlaw23.FlashSteps': WHATEVER THE INPUT: true; the input reads as it did. -/
def flashStepsSpec : ChangeSpec := { name := "flashSteps", fn := fun _ => fun
  | [d1, d2, d3, d4] => { results := [.lit (.bool true)], args := [d1, d2, d3, d4] }
  | _ => none }
def flashStepsRow : OpenClaim := { program := "ythgdbpnddnbbdaa", sum := "d900cce22f4f0d9b699b3de526da90229eaec4e3f5d80a2a11fcfa9987428dbc", func := "slotmesh/slotmeshlaw23.FlashSteps", spec := "flashSteps", inPlace := ["internal/bytealg.MakeNoZero"], unfollowed := true, recurses := true, apart := false }
def FlashStepsSaid : Prop := flashStepsRow.holds Try.pinned (OpenSpec.ofChange flashStepsSpec)

/-- ITS FALSE NEIGHBOUR: 'it returns false'. Refute it at one input. -/
def flashStepsWrong : ChangeSpec := { name := "flashSteps", fn := fun _ => fun
  | [d1, d2, d3, d4] => { results := [.lit (.bool false)], args := [d1, d2, d3, d4] }
  | _ => none }
def FlashStepsWrongFalsely : Prop := flashStepsRow.holds Try.pinned (OpenSpec.ofChange flashStepsWrong)

/-- 'slotmeshlaw23.FlashErased': WHATEVER THE INPUT: true; the input reads as it did. -/
def flashErasedSpec : ChangeSpec := { name := "flashErased", fn := fun _ => fun
  | [d1, d2, d3, d4] => { results := [.lit (.bool true)], args := [d1, d2, d3, d4] }
  | _ => none }
def flashErasedRow : OpenClaim := { program := "ythgdbpnddnbbdaa", sum := "d900cce22f4f0d9b699b3de526da90229eaec4e3f5d80a2a11fcfa9987428dbc", func := "slotmesh/slotmeshlaw23.FlashErased", spec := "flashErased", inPlace := ["internal/bytealg.MakeNoZero"], unfollowed := true, recurses := true, apart := false }
def FlashErasedSaid : Prop := flashErasedRow.holds Try.pinned (OpenSpec.ofChange flashErasedSpec)

/-- ITS FALSE NEIGHBOUR: 'it returns false'. Refute it at one input. -/
def flashErasedWrong : ChangeSpec := { name := "flashErased", fn := fun _ => fun
  | [d1, d2, d3, d4] => { results := [.lit (.bool false)], args := [d1, d2, d3, d4] }
  | _ => none }
def FlashErasedWrongFalsely : Prop := flashErasedRow.holds Try.pinned (OpenSpec.ofChange flashErasedWrong)

/-- 'slotmeshlaw23.FlashAgain': WHATEVER THE INPUT: true; the input reads as it did. -/
def flashAgainSpec : ChangeSpec := { name := "flashAgain", fn := fun _ => fun
  | [d1, d2, d3, d4] => { results := [.lit (.bool true)], args := [d1, d2, d3, d4] }
  | _ => none }
def flashAgainRow : OpenClaim := { program := "ythgdbpnddnbbdaa", sum := "d900cce22f4f0d9b699b3de526da90229eaec4e3f5d80a2a11fcfa9987428dbc", func := "slotmesh/slotmeshlaw23.FlashAgain", spec := "flashAgain", inPlace := ["internal/bytealg.MakeNoZero"], unfollowed := true, recurses := true, apart := false }
def FlashAgainSaid : Prop := flashAgainRow.holds Try.pinned (OpenSpec.ofChange flashAgainSpec)

/-- ITS FALSE NEIGHBOUR: 'it returns false'. Refute it at one input. -/
def flashAgainWrong : ChangeSpec := { name := "flashAgain", fn := fun _ => fun
  | [d1, d2, d3, d4] => { results := [.lit (.bool false)], args := [d1, d2, d3, d4] }
  | _ => none }
def FlashAgainWrongFalsely : Prop := flashAgainRow.holds Try.pinned (OpenSpec.ofChange flashAgainWrong)

/-- 'slotmeshlaw23.FlashOrder': WHATEVER THE INPUT: true; the input reads as it did. -/
def flashOrderSpec : ChangeSpec := { name := "flashOrder", fn := fun _ => fun
  | [d1, d2, d3, d4, d5] => { results := [.lit (.bool true)], args := [d1, d2, d3, d4, d5] }
  | _ => none }
def flashOrderRow : OpenClaim := { program := "ythgdbpnddnbbdaa", sum := "d900cce22f4f0d9b699b3de526da90229eaec4e3f5d80a2a11fcfa9987428dbc", func := "slotmesh/slotmeshlaw23.FlashOrder", spec := "flashOrder", inPlace := ["internal/bytealg.MakeNoZero"], unfollowed := true, recurses := true, apart := false }
def FlashOrderSaid : Prop := flashOrderRow.holds Try.pinned (OpenSpec.ofChange flashOrderSpec)

/-- ITS FALSE NEIGHBOUR: 'it returns false'. Refute it at one input. -/
def flashOrderWrong : ChangeSpec := { name := "flashOrder", fn := fun _ => fun
  | [d1, d2, d3, d4, d5] => { results := [.lit (.bool false)], args := [d1, d2, d3, d4, d5] }
  | _ => none }
def FlashOrderWrongFalsely : Prop := flashOrderRow.holds Try.pinned (OpenSpec.ofChange flashOrderWrong)

/-- 'slotmeshlaw23.FlashErasing': WHATEVER THE INPUT: true; the input reads as it did. -/
def flashErasingSpec : ChangeSpec := { name := "flashErasing", fn := fun _ => fun
  | [d1, d2, d3] => { results := [.lit (.bool true)], args := [d1, d2, d3] }
  | _ => none }
def flashErasingRow : OpenClaim := { program := "ythgdbpnddnbbdaa", sum := "d900cce22f4f0d9b699b3de526da90229eaec4e3f5d80a2a11fcfa9987428dbc", func := "slotmesh/slotmeshlaw23.FlashErasing", spec := "flashErasing", inPlace := ["internal/bytealg.MakeNoZero"], unfollowed := true, recurses := true, apart := false }
def FlashErasingSaid : Prop := flashErasingRow.holds Try.pinned (OpenSpec.ofChange flashErasingSpec)

/-- ITS FALSE NEIGHBOUR: 'it returns false'. Refute it at one input. -/
def flashErasingWrong : ChangeSpec := { name := "flashErasing", fn := fun _ => fun
  | [d1, d2, d3] => { results := [.lit (.bool false)], args := [d1, d2, d3] }
  | _ => none }
def FlashErasingWrongFalsely : Prop := flashErasingRow.holds Try.pinned (OpenSpec.ofChange flashErasingWrong)

/-- 'slotmeshlaw23.FlashParts': WHATEVER THE INPUT: true; the input reads as it did. -/
def flashPartsSpec : ChangeSpec := { name := "flashParts", fn := fun _ => fun
  | [d1, d2, d3, d4] => { results := [.lit (.bool true)], args := [d1, d2, d3, d4] }
  | _ => none }
def flashPartsRow : OpenClaim := { program := "ythgdbpnddnbbdaa", sum := "d900cce22f4f0d9b699b3de526da90229eaec4e3f5d80a2a11fcfa9987428dbc", func := "slotmesh/slotmeshlaw23.FlashParts", spec := "flashParts", inPlace := ["internal/bytealg.MakeNoZero"], unfollowed := true, recurses := true, apart := false }
def FlashPartsSaid : Prop := flashPartsRow.holds Try.pinned (OpenSpec.ofChange flashPartsSpec)

/-- ITS FALSE NEIGHBOUR: 'it returns false'. Refute it at one input. -/
def flashPartsWrong : ChangeSpec := { name := "flashParts", fn := fun _ => fun
  | [d1, d2, d3, d4] => { results := [.lit (.bool false)], args := [d1, d2, d3, d4] }
  | _ => none }
def FlashPartsWrongFalsely : Prop := flashPartsRow.holds Try.pinned (OpenSpec.ofChange flashPartsWrong)

/- THE SECOND FORM. 'bulk': how many values and letters a reading holds, each counted each time it is reached (what is shared counts as often as it is met; a slice's spare places count too). A statement '..UptoSaid' is the law's where the arguments, and the package variables that the reading takes, are together of bulk at most 1048576: NARROWER than '..Said'. Prove '..Said' where nothing that the law and all that it calls make is longer than what came in: it says more and counts as full. Else prove '..UptoSaid'. A law counts once. -/
mutual
def uptoBulk {H : Type} : DataW H → Nat
  | .lit (.string bytes) => bytes.length + 1
  | .lit _ => 1
  | .nil => 1
  | .ptr d => uptoBulk d + 1
  | .slice elems spare => uptoBulkAll elems + uptoBulkAll spare + 1
  | .agg parts => uptoBulkAll parts + 1
  | .iface _ d => uptoBulk d + 1
  | .map entries => uptoBulkEntries entries + 1
  | .held _ => 1
def uptoBulkAll {H : Type} : List (DataW H) → Nat
  | [] => 0
  | d :: r => uptoBulk d + uptoBulkAll r
def uptoBulkEntries {H : Type} : List (Lit × DataW H) → Nat
  | [] => 0
  | x :: r => uptoBulkEntry x + uptoBulkEntries r
def uptoBulkEntry {H : Type} : Lit × DataW H → Nat
  | (.string bytes, d) => bytes.length + uptoBulk d + 1
  | (_, d) => uptoBulk d + 1
 end
def uptoSmall : (H : Type) → List (DataW H) → Bool := fun _ ds => decide (uptoBulkAll ds ≤ 1048576)
def OpenSpec.upto (s : _root_.Go.ChangeSpec) : _root_.Go.OpenSpec := { _root_.Go.OpenSpec.ofChange s with cond := some uptoSmall }

/-- 'slotmeshlaw23.FlashMatchesReference', WHERE WHAT IT READS IS OF BULK AT MOST 1048576: true; the input reads as it did. -/
def flashMatchesReferenceUptoRow : OpenClaim := { program := "ythgdbpnddnbbdaa", sum := "d900cce22f4f0d9b699b3de526da90229eaec4e3f5d80a2a11fcfa9987428dbc", func := "slotmesh/slotmeshlaw23.FlashMatchesReference", spec := "flashMatchesReference", inPlace := ["internal/bytealg.MakeNoZero"], unfollowed := true, recurses := true, apart := false, narrowed := true }
def FlashMatchesReferenceUptoSaid : Prop := flashMatchesReferenceUptoRow.holds Try.pinned (OpenSpec.upto flashMatchesReferenceSpec)

/-- 'slotmeshlaw23.FlashSteps', WHERE WHAT IT READS IS OF BULK AT MOST 1048576: true; the input reads as it did. -/
def flashStepsUptoRow : OpenClaim := { program := "ythgdbpnddnbbdaa", sum := "d900cce22f4f0d9b699b3de526da90229eaec4e3f5d80a2a11fcfa9987428dbc", func := "slotmesh/slotmeshlaw23.FlashSteps", spec := "flashSteps", inPlace := ["internal/bytealg.MakeNoZero"], unfollowed := true, recurses := true, apart := false, narrowed := true }
def FlashStepsUptoSaid : Prop := flashStepsUptoRow.holds Try.pinned (OpenSpec.upto flashStepsSpec)

/-- 'slotmeshlaw23.FlashErased', WHERE WHAT IT READS IS OF BULK AT MOST 1048576: true; the input reads as it did. -/
def flashErasedUptoRow : OpenClaim := { program := "ythgdbpnddnbbdaa", sum := "d900cce22f4f0d9b699b3de526da90229eaec4e3f5d80a2a11fcfa9987428dbc", func := "slotmesh/slotmeshlaw23.FlashErased", spec := "flashErased", inPlace := ["internal/bytealg.MakeNoZero"], unfollowed := true, recurses := true, apart := false, narrowed := true }
def FlashErasedUptoSaid : Prop := flashErasedUptoRow.holds Try.pinned (OpenSpec.upto flashErasedSpec)

/-- 'slotmeshlaw23.FlashAgain', WHERE WHAT IT READS IS OF BULK AT MOST 1048576: true; the input reads as it did. -/
def flashAgainUptoRow : OpenClaim := { program := "ythgdbpnddnbbdaa", sum := "d900cce22f4f0d9b699b3de526da90229eaec4e3f5d80a2a11fcfa9987428dbc", func := "slotmesh/slotmeshlaw23.FlashAgain", spec := "flashAgain", inPlace := ["internal/bytealg.MakeNoZero"], unfollowed := true, recurses := true, apart := false, narrowed := true }
def FlashAgainUptoSaid : Prop := flashAgainUptoRow.holds Try.pinned (OpenSpec.upto flashAgainSpec)

/-- 'slotmeshlaw23.FlashOrder', WHERE WHAT IT READS IS OF BULK AT MOST 1048576: true; the input reads as it did. -/
def flashOrderUptoRow : OpenClaim := { program := "ythgdbpnddnbbdaa", sum := "d900cce22f4f0d9b699b3de526da90229eaec4e3f5d80a2a11fcfa9987428dbc", func := "slotmesh/slotmeshlaw23.FlashOrder", spec := "flashOrder", inPlace := ["internal/bytealg.MakeNoZero"], unfollowed := true, recurses := true, apart := false, narrowed := true }
def FlashOrderUptoSaid : Prop := flashOrderUptoRow.holds Try.pinned (OpenSpec.upto flashOrderSpec)

/-- 'slotmeshlaw23.FlashErasing', WHERE WHAT IT READS IS OF BULK AT MOST 1048576: true; the input reads as it did. -/
def flashErasingUptoRow : OpenClaim := { program := "ythgdbpnddnbbdaa", sum := "d900cce22f4f0d9b699b3de526da90229eaec4e3f5d80a2a11fcfa9987428dbc", func := "slotmesh/slotmeshlaw23.FlashErasing", spec := "flashErasing", inPlace := ["internal/bytealg.MakeNoZero"], unfollowed := true, recurses := true, apart := false, narrowed := true }
def FlashErasingUptoSaid : Prop := flashErasingUptoRow.holds Try.pinned (OpenSpec.upto flashErasingSpec)

/-- 'slotmeshlaw23.FlashParts', WHERE WHAT IT READS IS OF BULK AT MOST 1048576: true; the input reads as it did. -/
def flashPartsUptoRow : OpenClaim := { program := "ythgdbpnddnbbdaa", sum := "d900cce22f4f0d9b699b3de526da90229eaec4e3f5d80a2a11fcfa9987428dbc", func := "slotmesh/slotmeshlaw23.FlashParts", spec := "flashParts", inPlace := ["internal/bytealg.MakeNoZero"], unfollowed := true, recurses := true, apart := false, narrowed := true }
def FlashPartsUptoSaid : Prop := flashPartsUptoRow.holds Try.pinned (OpenSpec.upto flashPartsSpec)

end Rows
end Go.Proofs.Ythgdbpnddnbbdaa
