/-
  DERIVED. GIVEN WITH THE SEED: THE CARDS: each row of YtlpcifknlncljaaDoorRows.lean that lists a variable, with what it lists TIED to the program's text (the seventh form; the later family's looks); each row that meets fmt, with fmt's text TOLD by the authors' own Lean function (tested against real Go, not proved from fmt's source: count such statements apart). THE CARD IS WHAT COUNTS. Prove the row's statement (the work); the ties are given (YtlpcifknlncljaaDoorTie.lean); close each card by the builder's one call (the guide's Derived/Test/ToyasCard.lean, 'card_holds'). Laid BY PROGRAM, IN A SANDBOX (cutbox-door.mjs). By AI agents, Wed Nov 11 2026. No macro, syntax, notation, axiom, sorry.
-/
import Derived.Test.YtlpcifknlncljaaDoorRows
import GoSem.ClaimSeven
namespace Go.Proofs.YtlpcifknlncljaaDoor
namespace Rows

/-- THE TIED CARD OF 'slotmeshtop.TopKeysInStep'. -/
def topKeysInStepCard : Claim7 := { stood := { row := topKeysInStepRow, standIns := [], harness := (true, "86e86e81f19802ab7ac38010ce72b2899e4da109f49a941e02d8de23171cbd70"), looks := false }, kinds := [], alts := [], laidByText := true, laidKinds := [.data], laidTests := true, laidLooks := .later }
def TopKeysInStepCardSaid : Prop := Claim7.holds Tryd.pinned (.plain (OpenSpec.ofChange topKeysInStepSpec)) topKeysInStepCard

/-- THE TIED CARD OF 'slotmeshtop.TopMailReaches'. -/
def topMailReachesCard : Claim7 := { stood := { row := topMailReachesRow, standIns := [], harness := (true, "86e86e81f19802ab7ac38010ce72b2899e4da109f49a941e02d8de23171cbd70"), looks := false }, kinds := [], alts := [], laidByText := true, laidKinds := [.data], laidTests := true, laidLooks := .later }
def TopMailReachesCardSaid : Prop := Claim7.holds Tryd.pinned (.plain (OpenSpec.ofChange topMailReachesSpec)) topMailReachesCard

/-- THE SECOND FORM's CARD OF 'slotmeshtop.TopKeysInStep'. -/
def topKeysInStepUptoCard : Claim7 := { stood := { row := topKeysInStepUptoRow, standIns := [], harness := (true, "86e86e81f19802ab7ac38010ce72b2899e4da109f49a941e02d8de23171cbd70"), looks := false }, kinds := [], alts := [], laidByText := true, laidKinds := [.data], laidTests := true, laidLooks := .later }
def TopKeysInStepUptoCardSaid : Prop := Claim7.holds Tryd.pinned (.plain (OpenSpec.upto topKeysInStepSpec)) topKeysInStepUptoCard

/-- THE SECOND FORM's CARD OF 'slotmeshtop.TopMailReaches'. -/
def topMailReachesUptoCard : Claim7 := { stood := { row := topMailReachesUptoRow, standIns := [], harness := (true, "86e86e81f19802ab7ac38010ce72b2899e4da109f49a941e02d8de23171cbd70"), looks := false }, kinds := [], alts := [], laidByText := true, laidKinds := [.data], laidTests := true, laidLooks := .later }
def TopMailReachesUptoCardSaid : Prop := Claim7.holds Tryd.pinned (.plain (OpenSpec.upto topMailReachesSpec)) topMailReachesUptoCard
end Rows
end Go.Proofs.YtlpcifknlncljaaDoor
