/-
  DERIVED. GIVEN WITH THE SEED: THE CARDS: each row of YtmfnglbfpidmkaaGreatDoorRows.lean that lists a variable, with what it lists TIED to the program's text (the seventh form; the later family's looks); each row that meets fmt, with fmt's text TOLD by the authors' own Lean function (tested against real Go, not proved from fmt's source: count such statements apart). THE CARD IS WHAT COUNTS. Prove the row's statement (the work); the ties are given (YtmfnglbfpidmkaaGreatDoorTie.lean); close each card by the builder's one call (the guide's Derived/Test/ToyasCard.lean, 'card_holds'). Laid BY PROGRAM, IN A SANDBOX (cutbox-door.mjs). By AI agents, Wed Nov 11 2026. No macro, syntax, notation, axiom, sorry.
-/
import Derived.Test.YtmfnglbfpidmkaaGreatDoorRows
import GoSem.ClaimSeven
namespace Go.Proofs.YtmfnglbfpidmkaaGreatDoor
namespace Rows

/-- THE TIED CARD OF 'masterdisclaw30.IsocheckDescribes'. -/
def isocheckDescribesCard : Claim7 := { stood := { row := isocheckDescribesRow, standIns := [], harness := (true, "27c582165c065790e065d56aa9b36cba62de9ca6e371956ae93e47e4627cfc04"), looks := true }, kinds := [], alts := [], laidByText := true, laidKinds := [.data, .data, .data, .data, .sentinel, .sentinel, .pinned], laidTests := true, laidLooks := .later }
def IsocheckDescribesCardSaid : Prop := Claim7.holds Tryz.pinned (.plain (OpenSpec.ofChange isocheckDescribesSpec)) isocheckDescribesCard

/-- THE SECOND FORM's CARD OF 'masterdisclaw30.IsocheckDescribes'. -/
def isocheckDescribesUptoCard : Claim7 := { stood := { row := isocheckDescribesUptoRow, standIns := [], harness := (true, "27c582165c065790e065d56aa9b36cba62de9ca6e371956ae93e47e4627cfc04"), looks := true }, kinds := [], alts := [], laidByText := true, laidKinds := [.data, .data, .data, .data, .sentinel, .sentinel, .pinned], laidTests := true, laidLooks := .later }
def IsocheckDescribesUptoCardSaid : Prop := Claim7.holds Tryz.pinned (.plain (OpenSpec.upto isocheckDescribesSpec)) isocheckDescribesUptoCard
end Rows
end Go.Proofs.YtmfnglbfpidmkaaGreatDoor
