/-
  DERIVED. GIVEN WITH THE SEED: THE CARDS: each row of YtfnpcdbnoggloaaGreatDoorRows.lean that lists a variable, with what it lists TIED to the program's text (the seventh form; the later family's looks); each row that meets fmt, with fmt's text TOLD by the authors' own Lean function (tested against real Go, not proved from fmt's source: count such statements apart). THE CARD IS WHAT COUNTS. Prove the row's statement (the work); the ties are given (YtfnpcdbnoggloaaGreatDoorTie.lean); close each card by the builder's one call (the guide's Derived/Test/ToyasCard.lean, 'card_holds'). Laid BY PROGRAM, IN A SANDBOX (cutbox-door.mjs). By AI agents, Wed Nov 11 2026. No macro, syntax, notation, axiom, sorry.
-/
import Derived.Test.YtfnpcdbnoggloaaGreatDoorRows
import GoSem.ClaimSeven
namespace Go.Proofs.YtfnpcdbnoggloaaGreatDoor
namespace Rows

/-- THE TIED CARD OF 'masterdisclaw46.LayoutSpans'. -/
def layoutSpansCard : Claim7 := { stood := { row := layoutSpansRow, standIns := [], harness := (true, "55ee45b7f72597d4fb5a4d11367a21026c8de4b8a1c2476e75a39738cadd0f91"), looks := false }, kinds := [], alts := [], laidByText := true, laidKinds := [.data, .data, .data, .data, .pinned], laidTests := true, laidLooks := .later }
def LayoutSpansCardSaid : Prop := Claim7.holds Tryz.pinned (.plain (OpenSpec.ofChange layoutSpansSpec)) layoutSpansCard

/-- THE TIED CARD OF 'masterdisclaw46.LayoutDisjoint'. -/
def layoutDisjointCard : Claim7 := { stood := { row := layoutDisjointRow, standIns := [], harness := (true, "55ee45b7f72597d4fb5a4d11367a21026c8de4b8a1c2476e75a39738cadd0f91"), looks := false }, kinds := [], alts := [], laidByText := true, laidKinds := [.data, .data, .data, .data, .pinned], laidTests := true, laidLooks := .later }
def LayoutDisjointCardSaid : Prop := Claim7.holds Tryz.pinned (.plain (OpenSpec.ofChange layoutDisjointSpec)) layoutDisjointCard

/-- THE TIED CARD OF 'masterdisclaw46.LayoutLeast'. -/
def layoutLeastCard : Claim7 := { stood := { row := layoutLeastRow, standIns := [], harness := (true, "55ee45b7f72597d4fb5a4d11367a21026c8de4b8a1c2476e75a39738cadd0f91"), looks := false }, kinds := [], alts := [], laidByText := true, laidKinds := [.data, .data, .data, .data, .pinned], laidTests := true, laidLooks := .later }
def LayoutLeastCardSaid : Prop := Claim7.holds Tryz.pinned (.plain (OpenSpec.ofChange layoutLeastSpec)) layoutLeastCard

/-- THE TIED CARD OF 'masterdisclaw46.LayoutShares'. -/
def layoutSharesCard : Claim7 := { stood := { row := layoutSharesRow, standIns := [], harness := (true, "55ee45b7f72597d4fb5a4d11367a21026c8de4b8a1c2476e75a39738cadd0f91"), looks := false }, kinds := [], alts := [], laidByText := true, laidKinds := [.data, .data, .data, .data, .pinned], laidTests := true, laidLooks := .later }
def LayoutSharesCardSaid : Prop := Claim7.holds Tryz.pinned (.plain (OpenSpec.ofChange layoutSharesSpec)) layoutSharesCard

/-- THE TIED CARD OF 'masterdisclaw46.LayoutShorter'. -/
def layoutShorterCard : Claim7 := { stood := { row := layoutShorterRow, standIns := [], harness := (true, "55ee45b7f72597d4fb5a4d11367a21026c8de4b8a1c2476e75a39738cadd0f91"), looks := false }, kinds := [], alts := [], laidByText := true, laidKinds := [.data, .data, .data, .data, .pinned], laidTests := true, laidLooks := .later }
def LayoutShorterCardSaid : Prop := Claim7.holds Tryz.pinned (.plain (OpenSpec.ofChange layoutShorterSpec)) layoutShorterCard

/-- THE TIED CARD OF 'masterdisclaw46.LayoutGiven'. -/
def layoutGivenCard : Claim7 := { stood := { row := layoutGivenRow, standIns := [], harness := (true, "55ee45b7f72597d4fb5a4d11367a21026c8de4b8a1c2476e75a39738cadd0f91"), looks := false }, kinds := [], alts := [], laidByText := true, laidKinds := [.data, .data, .data, .data, .pinned], laidTests := true, laidLooks := .later }
def LayoutGivenCardSaid : Prop := Claim7.holds Tryz.pinned (.plain (OpenSpec.ofChange layoutGivenSpec)) layoutGivenCard

/-- THE SECOND FORM's CARD OF 'masterdisclaw46.LayoutSpans'. -/
def layoutSpansUptoCard : Claim7 := { stood := { row := layoutSpansUptoRow, standIns := [], harness := (true, "55ee45b7f72597d4fb5a4d11367a21026c8de4b8a1c2476e75a39738cadd0f91"), looks := false }, kinds := [], alts := [], laidByText := true, laidKinds := [.data, .data, .data, .data, .pinned], laidTests := true, laidLooks := .later }
def LayoutSpansUptoCardSaid : Prop := Claim7.holds Tryz.pinned (.plain (OpenSpec.upto layoutSpansSpec)) layoutSpansUptoCard

/-- THE SECOND FORM's CARD OF 'masterdisclaw46.LayoutDisjoint'. -/
def layoutDisjointUptoCard : Claim7 := { stood := { row := layoutDisjointUptoRow, standIns := [], harness := (true, "55ee45b7f72597d4fb5a4d11367a21026c8de4b8a1c2476e75a39738cadd0f91"), looks := false }, kinds := [], alts := [], laidByText := true, laidKinds := [.data, .data, .data, .data, .pinned], laidTests := true, laidLooks := .later }
def LayoutDisjointUptoCardSaid : Prop := Claim7.holds Tryz.pinned (.plain (OpenSpec.upto layoutDisjointSpec)) layoutDisjointUptoCard

/-- THE SECOND FORM's CARD OF 'masterdisclaw46.LayoutLeast'. -/
def layoutLeastUptoCard : Claim7 := { stood := { row := layoutLeastUptoRow, standIns := [], harness := (true, "55ee45b7f72597d4fb5a4d11367a21026c8de4b8a1c2476e75a39738cadd0f91"), looks := false }, kinds := [], alts := [], laidByText := true, laidKinds := [.data, .data, .data, .data, .pinned], laidTests := true, laidLooks := .later }
def LayoutLeastUptoCardSaid : Prop := Claim7.holds Tryz.pinned (.plain (OpenSpec.upto layoutLeastSpec)) layoutLeastUptoCard

/-- THE SECOND FORM's CARD OF 'masterdisclaw46.LayoutShares'. -/
def layoutSharesUptoCard : Claim7 := { stood := { row := layoutSharesUptoRow, standIns := [], harness := (true, "55ee45b7f72597d4fb5a4d11367a21026c8de4b8a1c2476e75a39738cadd0f91"), looks := false }, kinds := [], alts := [], laidByText := true, laidKinds := [.data, .data, .data, .data, .pinned], laidTests := true, laidLooks := .later }
def LayoutSharesUptoCardSaid : Prop := Claim7.holds Tryz.pinned (.plain (OpenSpec.upto layoutSharesSpec)) layoutSharesUptoCard

/-- THE SECOND FORM's CARD OF 'masterdisclaw46.LayoutShorter'. -/
def layoutShorterUptoCard : Claim7 := { stood := { row := layoutShorterUptoRow, standIns := [], harness := (true, "55ee45b7f72597d4fb5a4d11367a21026c8de4b8a1c2476e75a39738cadd0f91"), looks := false }, kinds := [], alts := [], laidByText := true, laidKinds := [.data, .data, .data, .data, .pinned], laidTests := true, laidLooks := .later }
def LayoutShorterUptoCardSaid : Prop := Claim7.holds Tryz.pinned (.plain (OpenSpec.upto layoutShorterSpec)) layoutShorterUptoCard

/-- THE SECOND FORM's CARD OF 'masterdisclaw46.LayoutGiven'. -/
def layoutGivenUptoCard : Claim7 := { stood := { row := layoutGivenUptoRow, standIns := [], harness := (true, "55ee45b7f72597d4fb5a4d11367a21026c8de4b8a1c2476e75a39738cadd0f91"), looks := false }, kinds := [], alts := [], laidByText := true, laidKinds := [.data, .data, .data, .data, .pinned], laidTests := true, laidLooks := .later }
def LayoutGivenUptoCardSaid : Prop := Claim7.holds Tryz.pinned (.plain (OpenSpec.upto layoutGivenSpec)) layoutGivenUptoCard
end Rows
end Go.Proofs.YtfnpcdbnoggloaaGreatDoor
