/-
  No cell of these rows narrows 'for every input' (looked for: loops, veiled, ifaces, maps, wideKeys, modest, calm, conditions, laid).
  DERIVED. THE GIVEN ROWS OF THIS SEAT. 6 by the template 'for every input the law returns true; each argument reads behind the call as it read before'; 0 by the template 'total and deterministic' (their statements: YtnkjoccemfbpcaaTotals.lean).
  GIVEN WITH THE SEED: the statements are not yours to turn. If you find one false, say at which input.
  Laid BY PROGRAM, IN A SANDBOX (cutbox-rows.mjs): the forced cells as the released guide's own fill.sh prints them over the translation 9783aa3c401dbec2… (all of the seat's roots in one cut). By AI agents, Wed Nov 11 2026. No macro, syntax, notation, axiom, sorry.
-/
import Derived.Test.YtnkjoccemfbpcaaChecked
import GoSem.Claim
import GoSem.ClaimJoined
import GoSem.ClaimMapViews
import Derived.JoinedTies
import Derived.KernelRfl
namespace Go.Proofs.Ytnkjoccemfbpcaa
/- THE CELL 'sum', in the pinned program and in every row, IS THE sha256 OF THE DUMP (.gsa) THAT YtnkjoccemfbpcaaProg.lean LOADS. Nothing in Lean hashes anything: it is a label: what it is worth is what the hold of that sum in a sandbox is worth. -/
noncomputable def Try.pinned : Pinned := { name := "ytnkjoccemfbpcaa", sum := "9783aa3c401dbec2457cab9a1fcc33e60ec406c3c39ab2323f0c4a5009f65851", checked := Try.checked }
namespace Rows
def none {H : Type} : Left H := { results := [], args := [] }

/-- 'slotmeshlaw28.SealMatchesReference': WHATEVER THE INPUT: true; the input reads as it did. -/
def sealMatchesReferenceSpec : ChangeSpec := { name := "sealMatchesReference", fn := fun _ => fun
  | [d1, d2, d3, d4] => { results := [.lit (.bool true)], args := [d1, d2, d3, d4] }
  | _ => none }
def sealMatchesReferenceRow : OpenClaim := { program := "ytnkjoccemfbpcaa", sum := "9783aa3c401dbec2457cab9a1fcc33e60ec406c3c39ab2323f0c4a5009f65851", func := "slotmesh/slotmeshlaw28.SealMatchesReference", spec := "sealMatchesReference", unfollowed := true, recurses := true, apart := false }
def SealMatchesReferenceSaid : Prop := sealMatchesReferenceRow.holds Try.pinned (OpenSpec.ofChange sealMatchesReferenceSpec)

/-- ITS FALSE NEIGHBOUR: 'it returns false'. Refute it at one input. -/
def sealMatchesReferenceWrong : ChangeSpec := { name := "sealMatchesReference", fn := fun _ => fun
  | [d1, d2, d3, d4] => { results := [.lit (.bool false)], args := [d1, d2, d3, d4] }
  | _ => none }
def SealMatchesReferenceWrongFalsely : Prop := sealMatchesReferenceRow.holds Try.pinned (OpenSpec.ofChange sealMatchesReferenceWrong)

/-- 'slotmeshlaw28.SealSealing': WHATEVER THE INPUT: true; the input reads as it did. -/
def sealSealingSpec : ChangeSpec := { name := "sealSealing", fn := fun _ => fun
  | [d1, d2, d3] => { results := [.lit (.bool true)], args := [d1, d2, d3] }
  | _ => none }
def sealSealingRow : OpenClaim := { program := "ytnkjoccemfbpcaa", sum := "9783aa3c401dbec2457cab9a1fcc33e60ec406c3c39ab2323f0c4a5009f65851", func := "slotmesh/slotmeshlaw28.SealSealing", spec := "sealSealing", unfollowed := true, recurses := true, apart := false }
def SealSealingSaid : Prop := sealSealingRow.holds Try.pinned (OpenSpec.ofChange sealSealingSpec)

/-- ITS FALSE NEIGHBOUR: 'it returns false'. Refute it at one input. -/
def sealSealingWrong : ChangeSpec := { name := "sealSealing", fn := fun _ => fun
  | [d1, d2, d3] => { results := [.lit (.bool false)], args := [d1, d2, d3] }
  | _ => none }
def SealSealingWrongFalsely : Prop := sealSealingRow.holds Try.pinned (OpenSpec.ofChange sealSealingWrong)

/-- 'slotmeshlaw28.SealReplays': WHATEVER THE INPUT: true; the input reads as it did. -/
def sealReplaysSpec : ChangeSpec := { name := "sealReplays", fn := fun _ => fun
  | [d1, d2, d3, d4] => { results := [.lit (.bool true)], args := [d1, d2, d3, d4] }
  | _ => none }
def sealReplaysRow : OpenClaim := { program := "ytnkjoccemfbpcaa", sum := "9783aa3c401dbec2457cab9a1fcc33e60ec406c3c39ab2323f0c4a5009f65851", func := "slotmesh/slotmeshlaw28.SealReplays", spec := "sealReplays", unfollowed := true, recurses := true, apart := false }
def SealReplaysSaid : Prop := sealReplaysRow.holds Try.pinned (OpenSpec.ofChange sealReplaysSpec)

/-- ITS FALSE NEIGHBOUR: 'it returns false'. Refute it at one input. -/
def sealReplaysWrong : ChangeSpec := { name := "sealReplays", fn := fun _ => fun
  | [d1, d2, d3, d4] => { results := [.lit (.bool false)], args := [d1, d2, d3, d4] }
  | _ => none }
def SealReplaysWrongFalsely : Prop := sealReplaysRow.holds Try.pinned (OpenSpec.ofChange sealReplaysWrong)

/-- 'slotmeshlaw28.SealStrangers': WHATEVER THE INPUT: true; the input reads as it did. -/
def sealStrangersSpec : ChangeSpec := { name := "sealStrangers", fn := fun _ => fun
  | [d1, d2, d3, d4] => { results := [.lit (.bool true)], args := [d1, d2, d3, d4] }
  | _ => none }
def sealStrangersRow : OpenClaim := { program := "ytnkjoccemfbpcaa", sum := "9783aa3c401dbec2457cab9a1fcc33e60ec406c3c39ab2323f0c4a5009f65851", func := "slotmesh/slotmeshlaw28.SealStrangers", spec := "sealStrangers", unfollowed := true, recurses := true, apart := false }
def SealStrangersSaid : Prop := sealStrangersRow.holds Try.pinned (OpenSpec.ofChange sealStrangersSpec)

/-- ITS FALSE NEIGHBOUR: 'it returns false'. Refute it at one input. -/
def sealStrangersWrong : ChangeSpec := { name := "sealStrangers", fn := fun _ => fun
  | [d1, d2, d3, d4] => { results := [.lit (.bool false)], args := [d1, d2, d3, d4] }
  | _ => none }
def SealStrangersWrongFalsely : Prop := sealStrangersRow.holds Try.pinned (OpenSpec.ofChange sealStrangersWrong)

/-- 'slotmeshlaw28.SealKeys': WHATEVER THE INPUT: true; the input reads as it did. -/
def sealKeysSpec : ChangeSpec := { name := "sealKeys", fn := fun _ => fun
  | [d1, d2, d3, d4] => { results := [.lit (.bool true)], args := [d1, d2, d3, d4] }
  | _ => none }
def sealKeysRow : OpenClaim := { program := "ytnkjoccemfbpcaa", sum := "9783aa3c401dbec2457cab9a1fcc33e60ec406c3c39ab2323f0c4a5009f65851", func := "slotmesh/slotmeshlaw28.SealKeys", spec := "sealKeys", unfollowed := true, recurses := true, apart := false }
def SealKeysSaid : Prop := sealKeysRow.holds Try.pinned (OpenSpec.ofChange sealKeysSpec)

/-- ITS FALSE NEIGHBOUR: 'it returns false'. Refute it at one input. -/
def sealKeysWrong : ChangeSpec := { name := "sealKeys", fn := fun _ => fun
  | [d1, d2, d3, d4] => { results := [.lit (.bool false)], args := [d1, d2, d3, d4] }
  | _ => none }
def SealKeysWrongFalsely : Prop := sealKeysRow.holds Try.pinned (OpenSpec.ofChange sealKeysWrong)

/-- 'slotmeshlaw28.SealMoreKeys': WHATEVER THE INPUT: true; the input reads as it did. -/
def sealMoreKeysSpec : ChangeSpec := { name := "sealMoreKeys", fn := fun _ => fun
  | [d1, d2, d3, d4, d5] => { results := [.lit (.bool true)], args := [d1, d2, d3, d4, d5] }
  | _ => none }
def sealMoreKeysRow : OpenClaim := { program := "ytnkjoccemfbpcaa", sum := "9783aa3c401dbec2457cab9a1fcc33e60ec406c3c39ab2323f0c4a5009f65851", func := "slotmesh/slotmeshlaw28.SealMoreKeys", spec := "sealMoreKeys", unfollowed := true, recurses := true, apart := false }
def SealMoreKeysSaid : Prop := sealMoreKeysRow.holds Try.pinned (OpenSpec.ofChange sealMoreKeysSpec)

/-- ITS FALSE NEIGHBOUR: 'it returns false'. Refute it at one input. -/
def sealMoreKeysWrong : ChangeSpec := { name := "sealMoreKeys", fn := fun _ => fun
  | [d1, d2, d3, d4, d5] => { results := [.lit (.bool false)], args := [d1, d2, d3, d4, d5] }
  | _ => none }
def SealMoreKeysWrongFalsely : Prop := sealMoreKeysRow.holds Try.pinned (OpenSpec.ofChange sealMoreKeysWrong)

/- THE SECOND FORM. 'bulk': how many values and letters a reading holds, each counted each time it is reached (what is shared counts as often as it is met; a slice's spare places count too). A statement '..UptoSaid' is the law's where the arguments, and the package variables that the reading takes, are together of bulk at most 1048576: NARROWER than '..Said'. Prove '..Said' where nothing that the law and all that it calls make is longer than what came in: it says more and counts as full. Else prove '..UptoSaid'. A law counts once. -/
mutual
def uptoBulk {H : Type} : DataW H → Nat
  | .lit (.string bytes) => bytes.length + 1
  | .lit _ => 1
  | .nil => 1
  | .ptr d => uptoBulk d + 1
  | .slice elems spare => uptoBulkAll elems + uptoBulkAll spare + 1
  | .agg parts => uptoBulkAll parts + 1
  | .iface _ d => uptoBulk d + 1
  | .map entries => uptoBulkEntries entries + 1
  | .held _ => 1
def uptoBulkAll {H : Type} : List (DataW H) → Nat
  | [] => 0
  | d :: r => uptoBulk d + uptoBulkAll r
def uptoBulkEntries {H : Type} : List (Lit × DataW H) → Nat
  | [] => 0
  | x :: r => uptoBulkEntry x + uptoBulkEntries r
def uptoBulkEntry {H : Type} : Lit × DataW H → Nat
  | (.string bytes, d) => bytes.length + uptoBulk d + 1
  | (_, d) => uptoBulk d + 1
 end
def uptoSmall : (H : Type) → List (DataW H) → Bool := fun _ ds => decide (uptoBulkAll ds ≤ 1048576)
def OpenSpec.upto (s : _root_.Go.ChangeSpec) : _root_.Go.OpenSpec := { _root_.Go.OpenSpec.ofChange s with cond := some uptoSmall }

/-- 'slotmeshlaw28.SealMatchesReference', WHERE WHAT IT READS IS OF BULK AT MOST 1048576: true; the input reads as it did. -/
def sealMatchesReferenceUptoRow : OpenClaim := { program := "ytnkjoccemfbpcaa", sum := "9783aa3c401dbec2457cab9a1fcc33e60ec406c3c39ab2323f0c4a5009f65851", func := "slotmesh/slotmeshlaw28.SealMatchesReference", spec := "sealMatchesReference", unfollowed := true, recurses := true, apart := false, narrowed := true }
def SealMatchesReferenceUptoSaid : Prop := sealMatchesReferenceUptoRow.holds Try.pinned (OpenSpec.upto sealMatchesReferenceSpec)

/-- 'slotmeshlaw28.SealSealing', WHERE WHAT IT READS IS OF BULK AT MOST 1048576: true; the input reads as it did. -/
def sealSealingUptoRow : OpenClaim := { program := "ytnkjoccemfbpcaa", sum := "9783aa3c401dbec2457cab9a1fcc33e60ec406c3c39ab2323f0c4a5009f65851", func := "slotmesh/slotmeshlaw28.SealSealing", spec := "sealSealing", unfollowed := true, recurses := true, apart := false, narrowed := true }
def SealSealingUptoSaid : Prop := sealSealingUptoRow.holds Try.pinned (OpenSpec.upto sealSealingSpec)

/-- 'slotmeshlaw28.SealReplays', WHERE WHAT IT READS IS OF BULK AT MOST 1048576: true; the input reads as it did. -/
def sealReplaysUptoRow : OpenClaim := { program := "ytnkjoccemfbpcaa", sum := "9783aa3c401dbec2457cab9a1fcc33e60ec406c3c39ab2323f0c4a5009f65851", func := "slotmesh/slotmeshlaw28.SealReplays", spec := "sealReplays", unfollowed := true, recurses := true, apart := false, narrowed := true }
def SealReplaysUptoSaid : Prop := sealReplaysUptoRow.holds Try.pinned (OpenSpec.upto sealReplaysSpec)

/-- 'slotmeshlaw28.SealStrangers', WHERE WHAT IT READS IS OF BULK AT MOST 1048576: true; the input reads as it did. -/
def sealStrangersUptoRow : OpenClaim := { program := "ytnkjoccemfbpcaa", sum := "9783aa3c401dbec2457cab9a1fcc33e60ec406c3c39ab2323f0c4a5009f65851", func := "slotmesh/slotmeshlaw28.SealStrangers", spec := "sealStrangers", unfollowed := true, recurses := true, apart := false, narrowed := true }
def SealStrangersUptoSaid : Prop := sealStrangersUptoRow.holds Try.pinned (OpenSpec.upto sealStrangersSpec)

/-- 'slotmeshlaw28.SealKeys', WHERE WHAT IT READS IS OF BULK AT MOST 1048576: true; the input reads as it did. -/
def sealKeysUptoRow : OpenClaim := { program := "ytnkjoccemfbpcaa", sum := "9783aa3c401dbec2457cab9a1fcc33e60ec406c3c39ab2323f0c4a5009f65851", func := "slotmesh/slotmeshlaw28.SealKeys", spec := "sealKeys", unfollowed := true, recurses := true, apart := false, narrowed := true }
def SealKeysUptoSaid : Prop := sealKeysUptoRow.holds Try.pinned (OpenSpec.upto sealKeysSpec)

/-- 'slotmeshlaw28.SealMoreKeys', WHERE WHAT IT READS IS OF BULK AT MOST 1048576: true; the input reads as it did. -/
def sealMoreKeysUptoRow : OpenClaim := { program := "ytnkjoccemfbpcaa", sum := "9783aa3c401dbec2457cab9a1fcc33e60ec406c3c39ab2323f0c4a5009f65851", func := "slotmesh/slotmeshlaw28.SealMoreKeys", spec := "sealMoreKeys", unfollowed := true, recurses := true, apart := false, narrowed := true }
def SealMoreKeysUptoSaid : Prop := sealMoreKeysUptoRow.holds Try.pinned (OpenSpec.upto sealMoreKeysSpec)

end Rows
end Go.Proofs.Ytnkjoccemfbpcaa
