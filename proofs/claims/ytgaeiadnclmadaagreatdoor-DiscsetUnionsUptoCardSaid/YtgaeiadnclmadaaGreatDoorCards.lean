/-
  DERIVED. GIVEN WITH THE SEED: THE CARDS: each row of YtgaeiadnclmadaaGreatDoorRows.lean that lists a variable, with what it lists TIED to the program's text (the seventh form; the later family's looks); each row that meets fmt, with fmt's text TOLD by the authors' own Lean function (tested against real Go, not proved from fmt's source: count such statements apart). THE CARD IS WHAT COUNTS. Prove the row's statement (the work); the ties are given (YtgaeiadnclmadaaGreatDoorTie.lean); close each card by the builder's one call (the guide's Derived/Test/ToyasCard.lean, 'card_holds'). Laid BY PROGRAM, IN A SANDBOX (cutbox-door.mjs). By AI agents, Wed Nov 11 2026. No macro, syntax, notation, axiom, sorry.
-/
import Derived.Test.YtgaeiadnclmadaaGreatDoorRows
import GoSem.ClaimSeven
namespace Go.Proofs.YtgaeiadnclmadaaGreatDoor
namespace Rows

/-- THE TIED CARD OF 'masterdisclaw48.DiscsetParts'. -/
def discsetPartsCard : Claim7 := { stood := { row := discsetPartsRow, standIns := [], harness := (true, "eba1667ba217245bff44356bc3b4a84b33a7b696fcf103a2b8587bcb00707bb1"), looks := false }, kinds := [], alts := [], laidByText := true, laidKinds := [.data, .data, .data, .data, .pinned], laidTests := true, laidLooks := .later }
def DiscsetPartsCardSaid : Prop := Claim7.holds Tryz.pinned (.plain (OpenSpec.ofChange discsetPartsSpec)) discsetPartsCard

/-- THE TIED CARD OF 'masterdisclaw48.DiscsetUnions'. -/
def discsetUnionsCard : Claim7 := { stood := { row := discsetUnionsRow, standIns := [], harness := (true, "eba1667ba217245bff44356bc3b4a84b33a7b696fcf103a2b8587bcb00707bb1"), looks := false }, kinds := [], alts := [], laidByText := true, laidKinds := [.data, .data, .data, .data, .pinned], laidTests := true, laidLooks := .later }
def DiscsetUnionsCardSaid : Prop := Claim7.holds Tryz.pinned (.plain (OpenSpec.ofChange discsetUnionsSpec)) discsetUnionsCard

/-- THE TIED CARD OF 'masterdisclaw48.DiscsetNumbers'. -/
def discsetNumbersCard : Claim7 := { stood := { row := discsetNumbersRow, standIns := [], harness := (true, "eba1667ba217245bff44356bc3b4a84b33a7b696fcf103a2b8587bcb00707bb1"), looks := false }, kinds := [], alts := [], laidByText := true, laidKinds := [.data, .data, .data, .data, .pinned], laidTests := true, laidLooks := .later }
def DiscsetNumbersCardSaid : Prop := Claim7.holds Tryz.pinned (.plain (OpenSpec.ofChange discsetNumbersSpec)) discsetNumbersCard

/-- THE SECOND FORM's CARD OF 'masterdisclaw48.DiscsetParts'. -/
def discsetPartsUptoCard : Claim7 := { stood := { row := discsetPartsUptoRow, standIns := [], harness := (true, "eba1667ba217245bff44356bc3b4a84b33a7b696fcf103a2b8587bcb00707bb1"), looks := false }, kinds := [], alts := [], laidByText := true, laidKinds := [.data, .data, .data, .data, .pinned], laidTests := true, laidLooks := .later }
def DiscsetPartsUptoCardSaid : Prop := Claim7.holds Tryz.pinned (.plain (OpenSpec.upto discsetPartsSpec)) discsetPartsUptoCard

/-- THE SECOND FORM's CARD OF 'masterdisclaw48.DiscsetUnions'. -/
def discsetUnionsUptoCard : Claim7 := { stood := { row := discsetUnionsUptoRow, standIns := [], harness := (true, "eba1667ba217245bff44356bc3b4a84b33a7b696fcf103a2b8587bcb00707bb1"), looks := false }, kinds := [], alts := [], laidByText := true, laidKinds := [.data, .data, .data, .data, .pinned], laidTests := true, laidLooks := .later }
def DiscsetUnionsUptoCardSaid : Prop := Claim7.holds Tryz.pinned (.plain (OpenSpec.upto discsetUnionsSpec)) discsetUnionsUptoCard

/-- THE SECOND FORM's CARD OF 'masterdisclaw48.DiscsetNumbers'. -/
def discsetNumbersUptoCard : Claim7 := { stood := { row := discsetNumbersUptoRow, standIns := [], harness := (true, "eba1667ba217245bff44356bc3b4a84b33a7b696fcf103a2b8587bcb00707bb1"), looks := false }, kinds := [], alts := [], laidByText := true, laidKinds := [.data, .data, .data, .data, .pinned], laidTests := true, laidLooks := .later }
def DiscsetNumbersUptoCardSaid : Prop := Claim7.holds Tryz.pinned (.plain (OpenSpec.upto discsetNumbersSpec)) discsetNumbersUptoCard
end Rows
end Go.Proofs.YtgaeiadnclmadaaGreatDoor
