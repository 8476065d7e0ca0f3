/-
  DERIVED. GIVEN WITH THE SEED: THE CARDS: each row of YtfgdjljbdghdgaaDoorRows.lean that lists a variable, with what it lists TIED to the program's text (the seventh form; the later family's looks); each row that meets fmt, with fmt's text TOLD by the authors' own Lean function (tested against real Go, not proved from fmt's source: count such statements apart). THE CARD IS WHAT COUNTS. Prove the row's statement (the work); the ties are given (YtfgdjljbdghdgaaDoorTie.lean); close each card by the builder's one call (the guide's Derived/Test/ToyasCard.lean, 'card_holds'). Laid BY PROGRAM, IN A SANDBOX (cutbox-door.mjs). By AI agents, Wed Nov 11 2026. No macro, syntax, notation, axiom, sorry.
-/
import Derived.Test.YtfgdjljbdghdgaaDoorRows
import GoSem.ClaimSeven
namespace Go.Proofs.YtfgdjljbdghdgaaDoor
namespace Rows

/-- THE TIED CARD OF 'patchbaylaw03.VlanSets'. -/
def vlanSetsCard : Claim7 := { stood := { row := vlanSetsRow, standIns := [], harness := (true, "552baa0907a6521065a44cd050d91d0715b35b62ec373c4ce124ddb247673300"), looks := false }, kinds := [], alts := [], laidByText := true, laidKinds := [.data], laidTests := true, laidLooks := .later }
def VlanSetsCardSaid : Prop := Claim7.holds Tryd.pinned (.plain (OpenSpec.ofChange vlanSetsSpec)) vlanSetsCard

/-- THE SECOND FORM's CARD OF 'patchbaylaw03.VlanSets'. -/
def vlanSetsUptoCard : Claim7 := { stood := { row := vlanSetsUptoRow, standIns := [], harness := (true, "552baa0907a6521065a44cd050d91d0715b35b62ec373c4ce124ddb247673300"), looks := false }, kinds := [], alts := [], laidByText := true, laidKinds := [.data], laidTests := true, laidLooks := .later }
def VlanSetsUptoCardSaid : Prop := Claim7.holds Tryd.pinned (.plain (OpenSpec.upto vlanSetsSpec)) vlanSetsUptoCard
end Rows
end Go.Proofs.YtfgdjljbdghdgaaDoor
