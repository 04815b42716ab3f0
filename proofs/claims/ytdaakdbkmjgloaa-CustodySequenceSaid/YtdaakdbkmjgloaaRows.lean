/-
  No cell of these rows narrows 'for every input' (looked for: loops, veiled, ifaces, maps, wideKeys, modest, calm, conditions, laid).
  DERIVED. THE GIVEN ROWS OF THIS SEAT. 4 by the template 'for every input the law returns true; each argument reads behind the call as it read before'; 0 by the template 'total and deterministic' (their statements: YtdaakdbkmjgloaaTotals.lean).
  GIVEN WITH THE SEED: the statements are not yours to turn. If you find one false, say at which input.
  Laid BY PROGRAM, IN A SANDBOX (cutbox-rows.mjs): the forced cells as the released guide's own fill.sh prints them over the translation 90200038e9b907a0… (all of the seat's roots in one cut). By AI agents, Wed Nov 11 2026. No macro, syntax, notation, axiom, sorry.
-/
import Derived.Test.YtdaakdbkmjgloaaChecked
import GoSem.Claim
import GoSem.ClaimJoined
import GoSem.ClaimMapViews
import Derived.JoinedTies
import Derived.KernelRfl
namespace Go.Proofs.Ytdaakdbkmjgloaa
/- THE CELL 'sum', in the pinned program and in every row, IS THE sha256 OF THE DUMP (.gsa) THAT YtdaakdbkmjgloaaProg.lean LOADS. Nothing in Lean hashes anything: it is a label: what it is worth is what the hold of that sum in a sandbox is worth. -/
noncomputable def Try.pinned : Pinned := { name := "ytdaakdbkmjgloaa", sum := "90200038e9b907a01f7734d9bde92ceec240017679e2ba61426ff988c505f23c", checked := Try.checked }
namespace Rows
def none {H : Type} : Left H := { results := [], args := [] }

/-- 'slotmeshlaw25.CustodyTorn': WHATEVER THE INPUT: true; the input reads as it did. -/
def custodyTornSpec : ChangeSpec := { name := "custodyTorn", fn := fun _ => fun
  | [d1, d2, d3, d4] => { results := [.lit (.bool true)], args := [d1, d2, d3, d4] }
  | _ => none }
def custodyTornRow : OpenClaim := { program := "ytdaakdbkmjgloaa", sum := "90200038e9b907a01f7734d9bde92ceec240017679e2ba61426ff988c505f23c", func := "slotmesh/slotmeshlaw25.CustodyTorn", spec := "custodyTorn", inPlace := ["internal/bytealg.MakeNoZero", "internal/reflectlite.TypeOf"], unfollowed := true, recurses := true, apart := false }
def CustodyTornSaid : Prop := custodyTornRow.holds Try.pinned (OpenSpec.ofChange custodyTornSpec)

/-- ITS FALSE NEIGHBOUR: 'it returns false'. Refute it at one input. -/
def custodyTornWrong : ChangeSpec := { name := "custodyTorn", fn := fun _ => fun
  | [d1, d2, d3, d4] => { results := [.lit (.bool false)], args := [d1, d2, d3, d4] }
  | _ => none }
def CustodyTornWrongFalsely : Prop := custodyTornRow.holds Try.pinned (OpenSpec.ofChange custodyTornWrong)

/-- 'slotmeshlaw25.CustodySequence': WHATEVER THE INPUT: true; the input reads as it did. -/
def custodySequenceSpec : ChangeSpec := { name := "custodySequence", fn := fun _ => fun
  | [d1, d2] => { results := [.lit (.bool true)], args := [d1, d2] }
  | _ => none }
def custodySequenceRow : OpenClaim := { program := "ytdaakdbkmjgloaa", sum := "90200038e9b907a01f7734d9bde92ceec240017679e2ba61426ff988c505f23c", func := "slotmesh/slotmeshlaw25.CustodySequence", spec := "custodySequence", inPlace := ["internal/bytealg.MakeNoZero", "internal/reflectlite.TypeOf"], unfollowed := true, recurses := true, apart := false }
def CustodySequenceSaid : Prop := custodySequenceRow.holds Try.pinned (OpenSpec.ofChange custodySequenceSpec)

/-- ITS FALSE NEIGHBOUR: 'it returns false'. Refute it at one input. -/
def custodySequenceWrong : ChangeSpec := { name := "custodySequence", fn := fun _ => fun
  | [d1, d2] => { results := [.lit (.bool false)], args := [d1, d2] }
  | _ => none }
def CustodySequenceWrongFalsely : Prop := custodySequenceRow.holds Try.pinned (OpenSpec.ofChange custodySequenceWrong)

/-- 'slotmeshlaw25.CustodyNumbers': WHATEVER THE INPUT: true; the input reads as it did. -/
def custodyNumbersSpec : ChangeSpec := { name := "custodyNumbers", fn := fun _ => fun
  | [d1, d2] => { results := [.lit (.bool true)], args := [d1, d2] }
  | _ => none }
def custodyNumbersRow : OpenClaim := { program := "ytdaakdbkmjgloaa", sum := "90200038e9b907a01f7734d9bde92ceec240017679e2ba61426ff988c505f23c", func := "slotmesh/slotmeshlaw25.CustodyNumbers", spec := "custodyNumbers", inPlace := ["internal/bytealg.MakeNoZero", "internal/reflectlite.TypeOf"], unfollowed := true, recurses := true, apart := false }
def CustodyNumbersSaid : Prop := custodyNumbersRow.holds Try.pinned (OpenSpec.ofChange custodyNumbersSpec)

/-- ITS FALSE NEIGHBOUR: 'it returns false'. Refute it at one input. -/
def custodyNumbersWrong : ChangeSpec := { name := "custodyNumbers", fn := fun _ => fun
  | [d1, d2] => { results := [.lit (.bool false)], args := [d1, d2] }
  | _ => none }
def CustodyNumbersWrongFalsely : Prop := custodyNumbersRow.holds Try.pinned (OpenSpec.ofChange custodyNumbersWrong)

/-- 'slotmeshlaw25.CustodyOthers': WHATEVER THE INPUT: true; the input reads as it did. -/
def custodyOthersSpec : ChangeSpec := { name := "custodyOthers", fn := fun _ => fun
  | [d1, d2, d3, d4, d5] => { results := [.lit (.bool true)], args := [d1, d2, d3, d4, d5] }
  | _ => none }
def custodyOthersRow : OpenClaim := { program := "ytdaakdbkmjgloaa", sum := "90200038e9b907a01f7734d9bde92ceec240017679e2ba61426ff988c505f23c", func := "slotmesh/slotmeshlaw25.CustodyOthers", spec := "custodyOthers", inPlace := ["internal/bytealg.MakeNoZero", "internal/reflectlite.TypeOf"], unfollowed := true, recurses := true, apart := false }
def CustodyOthersSaid : Prop := custodyOthersRow.holds Try.pinned (OpenSpec.ofChange custodyOthersSpec)

/-- ITS FALSE NEIGHBOUR: 'it returns false'. Refute it at one input. -/
def custodyOthersWrong : ChangeSpec := { name := "custodyOthers", fn := fun _ => fun
  | [d1, d2, d3, d4, d5] => { results := [.lit (.bool false)], args := [d1, d2, d3, d4, d5] }
  | _ => none }
def CustodyOthersWrongFalsely : Prop := custodyOthersRow.holds Try.pinned (OpenSpec.ofChange custodyOthersWrong)

/- THE SECOND FORM. 'bulk': how many values and letters a reading holds, each counted each time it is reached (what is shared counts as often as it is met; a slice's spare places count too). A statement '..UptoSaid' is the law's where the arguments, and the package variables that the reading takes, are together of bulk at most 1048576: NARROWER than '..Said'. Prove '..Said' where nothing that the law and all that it calls make is longer than what came in: it says more and counts as full. Else prove '..UptoSaid'. A law counts once. -/
mutual
def uptoBulk {H : Type} : DataW H → Nat
  | .lit (.string bytes) => bytes.length + 1
  | .lit _ => 1
  | .nil => 1
  | .ptr d => uptoBulk d + 1
  | .slice elems spare => uptoBulkAll elems + uptoBulkAll spare + 1
  | .agg parts => uptoBulkAll parts + 1
  | .iface _ d => uptoBulk d + 1
  | .map entries => uptoBulkEntries entries + 1
  | .held _ => 1
def uptoBulkAll {H : Type} : List (DataW H) → Nat
  | [] => 0
  | d :: r => uptoBulk d + uptoBulkAll r
def uptoBulkEntries {H : Type} : List (Lit × DataW H) → Nat
  | [] => 0
  | x :: r => uptoBulkEntry x + uptoBulkEntries r
def uptoBulkEntry {H : Type} : Lit × DataW H → Nat
  | (.string bytes, d) => bytes.length + uptoBulk d + 1
  | (_, d) => uptoBulk d + 1
 end
def uptoSmall : (H : Type) → List (DataW H) → Bool := fun _ ds => decide (uptoBulkAll ds ≤ 1048576)
def OpenSpec.upto (s : _root_.Go.ChangeSpec) : _root_.Go.OpenSpec := { _root_.Go.OpenSpec.ofChange s with cond := some uptoSmall }

/-- 'slotmeshlaw25.CustodyTorn', WHERE WHAT IT READS IS OF BULK AT MOST 1048576: true; the input reads as it did. -/
def custodyTornUptoRow : OpenClaim := { program := "ytdaakdbkmjgloaa", sum := "90200038e9b907a01f7734d9bde92ceec240017679e2ba61426ff988c505f23c", func := "slotmesh/slotmeshlaw25.CustodyTorn", spec := "custodyTorn", inPlace := ["internal/bytealg.MakeNoZero", "internal/reflectlite.TypeOf"], unfollowed := true, recurses := true, apart := false, narrowed := true }
def CustodyTornUptoSaid : Prop := custodyTornUptoRow.holds Try.pinned (OpenSpec.upto custodyTornSpec)

/-- 'slotmeshlaw25.CustodySequence', WHERE WHAT IT READS IS OF BULK AT MOST 1048576: true; the input reads as it did. -/
def custodySequenceUptoRow : OpenClaim := { program := "ytdaakdbkmjgloaa", sum := "90200038e9b907a01f7734d9bde92ceec240017679e2ba61426ff988c505f23c", func := "slotmesh/slotmeshlaw25.CustodySequence", spec := "custodySequence", inPlace := ["internal/bytealg.MakeNoZero", "internal/reflectlite.TypeOf"], unfollowed := true, recurses := true, apart := false, narrowed := true }
def CustodySequenceUptoSaid : Prop := custodySequenceUptoRow.holds Try.pinned (OpenSpec.upto custodySequenceSpec)

/-- 'slotmeshlaw25.CustodyNumbers', WHERE WHAT IT READS IS OF BULK AT MOST 1048576: true; the input reads as it did. -/
def custodyNumbersUptoRow : OpenClaim := { program := "ytdaakdbkmjgloaa", sum := "90200038e9b907a01f7734d9bde92ceec240017679e2ba61426ff988c505f23c", func := "slotmesh/slotmeshlaw25.CustodyNumbers", spec := "custodyNumbers", inPlace := ["internal/bytealg.MakeNoZero", "internal/reflectlite.TypeOf"], unfollowed := true, recurses := true, apart := false, narrowed := true }
def CustodyNumbersUptoSaid : Prop := custodyNumbersUptoRow.holds Try.pinned (OpenSpec.upto custodyNumbersSpec)

/-- 'slotmeshlaw25.CustodyOthers', WHERE WHAT IT READS IS OF BULK AT MOST 1048576: true; the input reads as it did. -/
def custodyOthersUptoRow : OpenClaim := { program := "ytdaakdbkmjgloaa", sum := "90200038e9b907a01f7734d9bde92ceec240017679e2ba61426ff988c505f23c", func := "slotmesh/slotmeshlaw25.CustodyOthers", spec := "custodyOthers", inPlace := ["internal/bytealg.MakeNoZero", "internal/reflectlite.TypeOf"], unfollowed := true, recurses := true, apart := false, narrowed := true }
def CustodyOthersUptoSaid : Prop := custodyOthersUptoRow.holds Try.pinned (OpenSpec.upto custodyOthersSpec)

end Rows
end Go.Proofs.Ytdaakdbkmjgloaa
