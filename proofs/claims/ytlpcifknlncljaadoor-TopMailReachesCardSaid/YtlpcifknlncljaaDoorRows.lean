/-
  NARROWER THAN 'FOR EVERY INPUT', by the rows' own cells (each row's printed sentence says how): TopKeysInStep: laid · TopMailReaches: laid.
  DERIVED. THE GIVEN ROWS OF THIS SEAT. 2 by the template 'for every input the law returns true; each argument reads behind the call as it read before'; 0 by the template 'total and deterministic' (their statements: YtlpcifknlncljaaDoorTotals.lean).
  GIVEN WITH THE SEED: the statements are not yours to turn. If you find one false, say at which input.
  Laid BY PROGRAM, IN A SANDBOX (cutbox-rows.mjs): the forced cells as the released guide's own fill.sh prints them over the translation 11e4bd0dde68e4a8… (all of the seat's roots in one cut). By AI agents, Wed Nov 11 2026. No macro, syntax, notation, axiom, sorry.
-/
import Derived.Test.YtlpcifknlncljaaDoorChecked
import GoSem.Claim
import GoSem.ClaimJoined
import GoSem.ClaimMapViews
import Derived.JoinedTies
import Derived.KernelRfl
namespace Go.Proofs.YtlpcifknlncljaaDoor
/- THE CELL 'sum', in the pinned program and in every row, IS THE sha256 OF THE DUMP (.gsa) THAT YtlpcifknlncljaaDoorProg.lean LOADS. Nothing in Lean hashes anything: it is a label: what it is worth is what the hold of that sum in a sandbox is worth. -/
noncomputable def Tryd.pinned : Pinned := { name := "ytlpcifknlncljaadoor", sum := "11e4bd0dde68e4a8b4a81c2f8b38d69f363a52f8879c4b727491f05e759830ea", checked := Tryd.checked }
namespace Rows
def none {H : Type} : Left H := { results := [], args := [] }

/- WHAT THE LISTED PACKAGE-LEVEL VARIABLES READ AS WHEN THE CALL BEGINS. Each datum BY PROGRAM (the guide's laid-datum.mjs) off the statement by which the dump's own 'gosem.cut.vars' lays the variable. In a bare row this is a premise. The card (YtlpcifknlncljaaDoorCards.lean) ties it to the program's text. -/
def laid_slotmesh_random_steps {H : Type} : DataW H := .agg [.agg [.lit (.int .i64 30), .lit (.int .u64 13787848793156543929)], .agg [.lit (.int .i64 27), .lit (.int .u64 10723151780598845931)], .agg [.lit (.int .i64 31), .lit (.int .u64 1)]]

/-- 'slotmeshtop.TopKeysInStep': WHATEVER THE INPUT: true; the input reads as it did. -/
def topKeysInStepSpec : ChangeSpec := { name := "topKeysInStep", fn := fun _ => fun
  | [d1, d2] => { results := [.lit (.bool true)], args := [d1, d2] }
  | _ => none }
def topKeysInStepRow : OpenClaim := { program := "ytlpcifknlncljaadoor", sum := "11e4bd0dde68e4a8b4a81c2f8b38d69f363a52f8879c4b727491f05e759830ea", func := "slotmesh/slotmeshtop.TopKeysInStep", spec := "topKeysInStep", unfollowed := true, recurses := true, named := ["slotmesh/random.steps"], apart := false, laid := [("slotmesh/random.steps", laid_slotmesh_random_steps)] }
def TopKeysInStepSaid : Prop := topKeysInStepRow.holds Tryd.pinned (OpenSpec.ofChange topKeysInStepSpec)

/-- ITS FALSE NEIGHBOUR: 'it returns false'. Refute it at one input. -/
def topKeysInStepWrong : ChangeSpec := { name := "topKeysInStep", fn := fun _ => fun
  | [d1, d2] => { results := [.lit (.bool false)], args := [d1, d2] }
  | _ => none }
def TopKeysInStepWrongFalsely : Prop := topKeysInStepRow.holds Tryd.pinned (OpenSpec.ofChange topKeysInStepWrong)

/-- 'slotmeshtop.TopMailReaches': WHATEVER THE INPUT: true; the input reads as it did. -/
def topMailReachesSpec : ChangeSpec := { name := "topMailReaches", fn := fun _ => fun
  | [d1, d2, d3, d4] => { results := [.lit (.bool true)], args := [d1, d2, d3, d4] }
  | _ => none }
def topMailReachesRow : OpenClaim := { program := "ytlpcifknlncljaadoor", sum := "11e4bd0dde68e4a8b4a81c2f8b38d69f363a52f8879c4b727491f05e759830ea", func := "slotmesh/slotmeshtop.TopMailReaches", spec := "topMailReaches", unfollowed := true, recurses := true, named := ["slotmesh/random.steps"], apart := false, laid := [("slotmesh/random.steps", laid_slotmesh_random_steps)] }
def TopMailReachesSaid : Prop := topMailReachesRow.holds Tryd.pinned (OpenSpec.ofChange topMailReachesSpec)

/-- ITS FALSE NEIGHBOUR: 'it returns false'. Refute it at one input. -/
def topMailReachesWrong : ChangeSpec := { name := "topMailReaches", fn := fun _ => fun
  | [d1, d2, d3, d4] => { results := [.lit (.bool false)], args := [d1, d2, d3, d4] }
  | _ => none }
def TopMailReachesWrongFalsely : Prop := topMailReachesRow.holds Tryd.pinned (OpenSpec.ofChange topMailReachesWrong)

/- THE SECOND FORM. 'bulk': how many values and letters a reading holds, each counted each time it is reached (what is shared counts as often as it is met; a slice's spare places count too). A statement '..UptoSaid' is the law's where the arguments, and the package variables that the reading takes, are together of bulk at most 1048576: NARROWER than '..Said'. Prove '..Said' where nothing that the law and all that it calls make is longer than what came in: it says more and counts as full. Else prove '..UptoSaid'. A law counts once. -/
mutual
def uptoBulk {H : Type} : DataW H → Nat
  | .lit (.string bytes) => bytes.length + 1
  | .lit _ => 1
  | .nil => 1
  | .ptr d => uptoBulk d + 1
  | .slice elems spare => uptoBulkAll elems + uptoBulkAll spare + 1
  | .agg parts => uptoBulkAll parts + 1
  | .iface _ d => uptoBulk d + 1
  | .map entries => uptoBulkEntries entries + 1
  | .held _ => 1
def uptoBulkAll {H : Type} : List (DataW H) → Nat
  | [] => 0
  | d :: r => uptoBulk d + uptoBulkAll r
def uptoBulkEntries {H : Type} : List (Lit × DataW H) → Nat
  | [] => 0
  | x :: r => uptoBulkEntry x + uptoBulkEntries r
def uptoBulkEntry {H : Type} : Lit × DataW H → Nat
  | (.string bytes, d) => bytes.length + uptoBulk d + 1
  | (_, d) => uptoBulk d + 1
 end
def uptoSmall : (H : Type) → List (DataW H) → Bool := fun _ ds => decide (uptoBulkAll ds ≤ 1048576)
def OpenSpec.upto (s : _root_.Go.ChangeSpec) : _root_.Go.OpenSpec := { _root_.Go.OpenSpec.ofChange s with cond := some uptoSmall }

/-- 'slotmeshtop.TopKeysInStep', WHERE WHAT IT READS IS OF BULK AT MOST 1048576: true; the input reads as it did. -/
def topKeysInStepUptoRow : OpenClaim := { program := "ytlpcifknlncljaadoor", sum := "11e4bd0dde68e4a8b4a81c2f8b38d69f363a52f8879c4b727491f05e759830ea", func := "slotmesh/slotmeshtop.TopKeysInStep", spec := "topKeysInStep", unfollowed := true, recurses := true, named := ["slotmesh/random.steps"], apart := false, laid := [("slotmesh/random.steps", laid_slotmesh_random_steps)], narrowed := true }
def TopKeysInStepUptoSaid : Prop := topKeysInStepUptoRow.holds Tryd.pinned (OpenSpec.upto topKeysInStepSpec)

/-- 'slotmeshtop.TopMailReaches', WHERE WHAT IT READS IS OF BULK AT MOST 1048576: true; the input reads as it did. -/
def topMailReachesUptoRow : OpenClaim := { program := "ytlpcifknlncljaadoor", sum := "11e4bd0dde68e4a8b4a81c2f8b38d69f363a52f8879c4b727491f05e759830ea", func := "slotmesh/slotmeshtop.TopMailReaches", spec := "topMailReaches", unfollowed := true, recurses := true, named := ["slotmesh/random.steps"], apart := false, laid := [("slotmesh/random.steps", laid_slotmesh_random_steps)], narrowed := true }
def TopMailReachesUptoSaid : Prop := topMailReachesUptoRow.holds Tryd.pinned (OpenSpec.upto topMailReachesSpec)

end Rows
end Go.Proofs.YtlpcifknlncljaaDoor
