/-
  No cell of these rows narrows 'for every input' (looked for: loops, veiled, ifaces, maps, wideKeys, modest, calm, conditions, laid).
  DERIVED. THE GIVEN ROWS OF THIS SEAT. 7 by the template 'for every input the law returns true; each argument reads behind the call as it read before'; 0 by the template 'total and deterministic' (their statements: YtdblighgcpabnaaTotals.lean).
  GIVEN WITH THE SEED: the statements are not yours to turn. If you find one false, say at which input.
  Laid BY PROGRAM, IN A SANDBOX (cutbox-rows.mjs): the forced cells as the released guide's own fill.sh prints them over the translation e08e362c4f173591… (all of the seat's roots in one cut). By AI agents, Wed Nov 11 2026. No macro, syntax, notation, axiom, sorry.
-/
import Derived.Test.YtdblighgcpabnaaChecked
import GoSem.Claim
import GoSem.ClaimJoined
import GoSem.ClaimMapViews
import Derived.JoinedTies
import Derived.KernelRfl
namespace Go.Proofs.Ytdblighgcpabnaa
/- THE CELL 'sum', in the pinned program and in every row, IS THE sha256 OF THE DUMP (.gsa) THAT YtdblighgcpabnaaProg.lean LOADS. Nothing in Lean hashes anything: it is a label: what it is worth is what the hold of that sum in a sandbox is worth. -/
noncomputable def Try.pinned : Pinned := { name := "ytdblighgcpabnaa", sum := "e08e362c4f17359162bf813900f5a34d9bd6071a75a12e233e0ee6c350590021", checked := Try.checked }
namespace Rows
def none {H : Type} : Left H := { results := [], args := [] }

/-- 'slotmeshlaw38.BootMatchesReference': WHATEVER THE INPUT: true; the input reads as it did. -/
def bootMatchesReferenceSpec : ChangeSpec := { name := "bootMatchesReference", fn := fun _ => fun
  | [d1, d2, d3, d4] => { results := [.lit (.bool true)], args := [d1, d2, d3, d4] }
  | _ => none }
def bootMatchesReferenceRow : OpenClaim := { program := "ytdblighgcpabnaa", sum := "e08e362c4f17359162bf813900f5a34d9bd6071a75a12e233e0ee6c350590021", func := "slotmesh/slotmeshlaw38.BootMatchesReference", spec := "bootMatchesReference", inPlace := ["internal/bytealg.MakeNoZero"], unfollowed := true, recurses := true, apart := false }
def BootMatchesReferenceSaid : Prop := bootMatchesReferenceRow.holds Try.pinned (OpenSpec.ofChange bootMatchesReferenceSpec)

/-- ITS FALSE NEIGHBOUR: 'it returns false'. Refute it at one input. -/
def bootMatchesReferenceWrong : ChangeSpec := { name := "bootMatchesReference", fn := fun _ => fun
  | [d1, d2, d3, d4] => { results := [.lit (.bool false)], args := [d1, d2, d3, d4] }
  | _ => none }
def BootMatchesReferenceWrongFalsely : Prop := bootMatchesReferenceRow.holds Try.pinned (OpenSpec.ofChange bootMatchesReferenceWrong)

/-- 'slotmeshlaw38.BootOldOrNew': WHATEVER THE INPUT: true; the input reads as it did. -/
def bootOldOrNewSpec : ChangeSpec := { name := "bootOldOrNew", fn := fun _ => fun
  | [d1, d2, d3] => { results := [.lit (.bool true)], args := [d1, d2, d3] }
  | _ => none }
def bootOldOrNewRow : OpenClaim := { program := "ytdblighgcpabnaa", sum := "e08e362c4f17359162bf813900f5a34d9bd6071a75a12e233e0ee6c350590021", func := "slotmesh/slotmeshlaw38.BootOldOrNew", spec := "bootOldOrNew", inPlace := ["internal/bytealg.MakeNoZero"], unfollowed := true, recurses := true, apart := false }
def BootOldOrNewSaid : Prop := bootOldOrNewRow.holds Try.pinned (OpenSpec.ofChange bootOldOrNewSpec)

/-- ITS FALSE NEIGHBOUR: 'it returns false'. Refute it at one input. -/
def bootOldOrNewWrong : ChangeSpec := { name := "bootOldOrNew", fn := fun _ => fun
  | [d1, d2, d3] => { results := [.lit (.bool false)], args := [d1, d2, d3] }
  | _ => none }
def BootOldOrNewWrongFalsely : Prop := bootOldOrNewRow.holds Try.pinned (OpenSpec.ofChange bootOldOrNewWrong)

/-- 'slotmeshlaw38.BootStarting': WHATEVER THE INPUT: true; the input reads as it did. -/
def bootStartingSpec : ChangeSpec := { name := "bootStarting", fn := fun _ => fun
  | [d1, d2, d3, d4] => { results := [.lit (.bool true)], args := [d1, d2, d3, d4] }
  | _ => none }
def bootStartingRow : OpenClaim := { program := "ytdblighgcpabnaa", sum := "e08e362c4f17359162bf813900f5a34d9bd6071a75a12e233e0ee6c350590021", func := "slotmesh/slotmeshlaw38.BootStarting", spec := "bootStarting", inPlace := ["internal/bytealg.MakeNoZero"], unfollowed := true, recurses := true, apart := false }
def BootStartingSaid : Prop := bootStartingRow.holds Try.pinned (OpenSpec.ofChange bootStartingSpec)

/-- ITS FALSE NEIGHBOUR: 'it returns false'. Refute it at one input. -/
def bootStartingWrong : ChangeSpec := { name := "bootStarting", fn := fun _ => fun
  | [d1, d2, d3, d4] => { results := [.lit (.bool false)], args := [d1, d2, d3, d4] }
  | _ => none }
def BootStartingWrongFalsely : Prop := bootStartingRow.holds Try.pinned (OpenSpec.ofChange bootStartingWrong)

/-- 'slotmeshlaw38.BootAgain': WHATEVER THE INPUT: true; the input reads as it did. -/
def bootAgainSpec : ChangeSpec := { name := "bootAgain", fn := fun _ => fun
  | [d1, d2, d3, d4, d5] => { results := [.lit (.bool true)], args := [d1, d2, d3, d4, d5] }
  | _ => none }
def bootAgainRow : OpenClaim := { program := "ytdblighgcpabnaa", sum := "e08e362c4f17359162bf813900f5a34d9bd6071a75a12e233e0ee6c350590021", func := "slotmesh/slotmeshlaw38.BootAgain", spec := "bootAgain", inPlace := ["internal/bytealg.MakeNoZero"], unfollowed := true, recurses := true, apart := false }
def BootAgainSaid : Prop := bootAgainRow.holds Try.pinned (OpenSpec.ofChange bootAgainSpec)

/-- ITS FALSE NEIGHBOUR: 'it returns false'. Refute it at one input. -/
def bootAgainWrong : ChangeSpec := { name := "bootAgain", fn := fun _ => fun
  | [d1, d2, d3, d4, d5] => { results := [.lit (.bool false)], args := [d1, d2, d3, d4, d5] }
  | _ => none }
def BootAgainWrongFalsely : Prop := bootAgainRow.holds Try.pinned (OpenSpec.ofChange bootAgainWrong)

/-- 'slotmeshlaw38.BootMarks': WHATEVER THE INPUT: true; the input reads as it did. -/
def bootMarksSpec : ChangeSpec := { name := "bootMarks", fn := fun _ => fun
  | [d1, d2, d3] => { results := [.lit (.bool true)], args := [d1, d2, d3] }
  | _ => none }
def bootMarksRow : OpenClaim := { program := "ytdblighgcpabnaa", sum := "e08e362c4f17359162bf813900f5a34d9bd6071a75a12e233e0ee6c350590021", func := "slotmesh/slotmeshlaw38.BootMarks", spec := "bootMarks", inPlace := ["internal/bytealg.MakeNoZero"], unfollowed := true, recurses := true, apart := false }
def BootMarksSaid : Prop := bootMarksRow.holds Try.pinned (OpenSpec.ofChange bootMarksSpec)

/-- ITS FALSE NEIGHBOUR: 'it returns false'. Refute it at one input. -/
def bootMarksWrong : ChangeSpec := { name := "bootMarks", fn := fun _ => fun
  | [d1, d2, d3] => { results := [.lit (.bool false)], args := [d1, d2, d3] }
  | _ => none }
def BootMarksWrongFalsely : Prop := bootMarksRow.holds Try.pinned (OpenSpec.ofChange bootMarksWrong)

/-- 'slotmeshlaw38.BootDamage': WHATEVER THE INPUT: true; the input reads as it did. -/
def bootDamageSpec : ChangeSpec := { name := "bootDamage", fn := fun _ => fun
  | [d1, d2, d3, d4] => { results := [.lit (.bool true)], args := [d1, d2, d3, d4] }
  | _ => none }
def bootDamageRow : OpenClaim := { program := "ytdblighgcpabnaa", sum := "e08e362c4f17359162bf813900f5a34d9bd6071a75a12e233e0ee6c350590021", func := "slotmesh/slotmeshlaw38.BootDamage", spec := "bootDamage", inPlace := ["internal/bytealg.MakeNoZero"], unfollowed := true, recurses := true, apart := false }
def BootDamageSaid : Prop := bootDamageRow.holds Try.pinned (OpenSpec.ofChange bootDamageSpec)

/-- ITS FALSE NEIGHBOUR: 'it returns false'. Refute it at one input. -/
def bootDamageWrong : ChangeSpec := { name := "bootDamage", fn := fun _ => fun
  | [d1, d2, d3, d4] => { results := [.lit (.bool false)], args := [d1, d2, d3, d4] }
  | _ => none }
def BootDamageWrongFalsely : Prop := bootDamageRow.holds Try.pinned (OpenSpec.ofChange bootDamageWrong)

/-- 'slotmeshlaw38.BootRest': WHATEVER THE INPUT: true; the input reads as it did. -/
def bootRestSpec : ChangeSpec := { name := "bootRest", fn := fun _ => fun
  | [d1, d2, d3] => { results := [.lit (.bool true)], args := [d1, d2, d3] }
  | _ => none }
def bootRestRow : OpenClaim := { program := "ytdblighgcpabnaa", sum := "e08e362c4f17359162bf813900f5a34d9bd6071a75a12e233e0ee6c350590021", func := "slotmesh/slotmeshlaw38.BootRest", spec := "bootRest", inPlace := ["internal/bytealg.MakeNoZero"], unfollowed := true, recurses := true, apart := false }
def BootRestSaid : Prop := bootRestRow.holds Try.pinned (OpenSpec.ofChange bootRestSpec)

/-- ITS FALSE NEIGHBOUR: 'it returns false'. Refute it at one input. -/
def bootRestWrong : ChangeSpec := { name := "bootRest", fn := fun _ => fun
  | [d1, d2, d3] => { results := [.lit (.bool false)], args := [d1, d2, d3] }
  | _ => none }
def BootRestWrongFalsely : Prop := bootRestRow.holds Try.pinned (OpenSpec.ofChange bootRestWrong)

/- THE SECOND FORM. 'bulk': how many values and letters a reading holds, each counted each time it is reached (what is shared counts as often as it is met; a slice's spare places count too). A statement '..UptoSaid' is the law's where the arguments, and the package variables that the reading takes, are together of bulk at most 1048576: NARROWER than '..Said'. Prove '..Said' where nothing that the law and all that it calls make is longer than what came in: it says more and counts as full. Else prove '..UptoSaid'. A law counts once. -/
mutual
def uptoBulk {H : Type} : DataW H → Nat
  | .lit (.string bytes) => bytes.length + 1
  | .lit _ => 1
  | .nil => 1
  | .ptr d => uptoBulk d + 1
  | .slice elems spare => uptoBulkAll elems + uptoBulkAll spare + 1
  | .agg parts => uptoBulkAll parts + 1
  | .iface _ d => uptoBulk d + 1
  | .map entries => uptoBulkEntries entries + 1
  | .held _ => 1
def uptoBulkAll {H : Type} : List (DataW H) → Nat
  | [] => 0
  | d :: r => uptoBulk d + uptoBulkAll r
def uptoBulkEntries {H : Type} : List (Lit × DataW H) → Nat
  | [] => 0
  | x :: r => uptoBulkEntry x + uptoBulkEntries r
def uptoBulkEntry {H : Type} : Lit × DataW H → Nat
  | (.string bytes, d) => bytes.length + uptoBulk d + 1
  | (_, d) => uptoBulk d + 1
 end
def uptoSmall : (H : Type) → List (DataW H) → Bool := fun _ ds => decide (uptoBulkAll ds ≤ 1048576)
def OpenSpec.upto (s : _root_.Go.ChangeSpec) : _root_.Go.OpenSpec := { _root_.Go.OpenSpec.ofChange s with cond := some uptoSmall }

/-- 'slotmeshlaw38.BootMatchesReference', WHERE WHAT IT READS IS OF BULK AT MOST 1048576: true; the input reads as it did. -/
def bootMatchesReferenceUptoRow : OpenClaim := { program := "ytdblighgcpabnaa", sum := "e08e362c4f17359162bf813900f5a34d9bd6071a75a12e233e0ee6c350590021", func := "slotmesh/slotmeshlaw38.BootMatchesReference", spec := "bootMatchesReference", inPlace := ["internal/bytealg.MakeNoZero"], unfollowed := true, recurses := true, apart := false, narrowed := true }
def BootMatchesReferenceUptoSaid : Prop := bootMatchesReferenceUptoRow.holds Try.pinned (OpenSpec.upto bootMatchesReferenceSpec)

/-- 'slotmeshlaw38.BootOldOrNew', WHERE WHAT IT READS IS OF BULK AT MOST 1048576: true; the input reads as it did. -/
def bootOldOrNewUptoRow : OpenClaim := { program := "ytdblighgcpabnaa", sum := "e08e362c4f17359162bf813900f5a34d9bd6071a75a12e233e0ee6c350590021", func := "slotmesh/slotmeshlaw38.BootOldOrNew", spec := "bootOldOrNew", inPlace := ["internal/bytealg.MakeNoZero"], unfollowed := true, recurses := true, apart := false, narrowed := true }
def BootOldOrNewUptoSaid : Prop := bootOldOrNewUptoRow.holds Try.pinned (OpenSpec.upto bootOldOrNewSpec)

/-- 'slotmeshlaw38.BootStarting', WHERE WHAT IT READS IS OF BULK AT MOST 1048576: true; the input reads as it did. -/
def bootStartingUptoRow : OpenClaim := { program := "ytdblighgcpabnaa", sum := "e08e362c4f17359162bf813900f5a34d9bd6071a75a12e233e0ee6c350590021", func := "slotmesh/slotmeshlaw38.BootStarting", spec := "bootStarting", inPlace := ["internal/bytealg.MakeNoZero"], unfollowed := true, recurses := true, apart := false, narrowed := true }
def BootStartingUptoSaid : Prop := bootStartingUptoRow.holds Try.pinned (OpenSpec.upto bootStartingSpec)

/-- 'slotmeshlaw38.BootAgain', WHERE WHAT IT READS IS OF BULK AT MOST 1048576: true; the input reads as it did. -/
def bootAgainUptoRow : OpenClaim := { program := "ytdblighgcpabnaa", sum := "e08e362c4f17359162bf813900f5a34d9bd6071a75a12e233e0ee6c350590021", func := "slotmesh/slotmeshlaw38.BootAgain", spec := "bootAgain", inPlace := ["internal/bytealg.MakeNoZero"], unfollowed := true, recurses := true, apart := false, narrowed := true }
def BootAgainUptoSaid : Prop := bootAgainUptoRow.holds Try.pinned (OpenSpec.upto bootAgainSpec)

/-- 'slotmeshlaw38.BootMarks', WHERE WHAT IT READS IS OF BULK AT MOST 1048576: true; the input reads as it did. -/
def bootMarksUptoRow : OpenClaim := { program := "ytdblighgcpabnaa", sum := "e08e362c4f17359162bf813900f5a34d9bd6071a75a12e233e0ee6c350590021", func := "slotmesh/slotmeshlaw38.BootMarks", spec := "bootMarks", inPlace := ["internal/bytealg.MakeNoZero"], unfollowed := true, recurses := true, apart := false, narrowed := true }
def BootMarksUptoSaid : Prop := bootMarksUptoRow.holds Try.pinned (OpenSpec.upto bootMarksSpec)

/-- 'slotmeshlaw38.BootDamage', WHERE WHAT IT READS IS OF BULK AT MOST 1048576: true; the input reads as it did. -/
def bootDamageUptoRow : OpenClaim := { program := "ytdblighgcpabnaa", sum := "e08e362c4f17359162bf813900f5a34d9bd6071a75a12e233e0ee6c350590021", func := "slotmesh/slotmeshlaw38.BootDamage", spec := "bootDamage", inPlace := ["internal/bytealg.MakeNoZero"], unfollowed := true, recurses := true, apart := false, narrowed := true }
def BootDamageUptoSaid : Prop := bootDamageUptoRow.holds Try.pinned (OpenSpec.upto bootDamageSpec)

/-- 'slotmeshlaw38.BootRest', WHERE WHAT IT READS IS OF BULK AT MOST 1048576: true; the input reads as it did. -/
def bootRestUptoRow : OpenClaim := { program := "ytdblighgcpabnaa", sum := "e08e362c4f17359162bf813900f5a34d9bd6071a75a12e233e0ee6c350590021", func := "slotmesh/slotmeshlaw38.BootRest", spec := "bootRest", inPlace := ["internal/bytealg.MakeNoZero"], unfollowed := true, recurses := true, apart := false, narrowed := true }
def BootRestUptoSaid : Prop := bootRestUptoRow.holds Try.pinned (OpenSpec.upto bootRestSpec)

end Rows
end Go.Proofs.Ytdblighgcpabnaa
