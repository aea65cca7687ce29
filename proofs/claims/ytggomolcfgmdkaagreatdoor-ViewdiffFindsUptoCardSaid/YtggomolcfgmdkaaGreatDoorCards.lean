/-
  DERIVED. GIVEN WITH THE SEED: THE CARDS: each row of YtggomolcfgmdkaaGreatDoorRows.lean that lists a variable, with what it lists TIED to the program's text (the seventh form; the later family's looks); each row that meets fmt, with fmt's text TOLD by the authors' own Lean function (tested against real Go, not proved from fmt's source: count such statements apart). THE CARD IS WHAT COUNTS. Prove the row's statement (the work); the ties are given (YtggomolcfgmdkaaGreatDoorTie.lean); close each card by the builder's one call (the guide's Derived/Test/ToyasCard.lean, 'card_holds'). Laid BY PROGRAM, IN A SANDBOX (cutbox-door.mjs). By AI agents, Wed Nov 11 2026. No macro, syntax, notation, axiom, sorry.
-/
import Derived.Test.YtggomolcfgmdkaaGreatDoorRows
import GoSem.ClaimSeven
namespace Go.Proofs.YtggomolcfgmdkaaGreatDoor
namespace Rows

/-- THE TIED CARD OF 'masterdisclaw50.ViewdiffCompares'. -/
def viewdiffComparesCard : Claim7 := { stood := { row := viewdiffComparesRow, standIns := [], harness := (true, "0b377ae0b5753b9b45616a03841dae16a22689a980197306ea8c24b52ed40543"), looks := false }, kinds := [], alts := [], laidByText := true, laidKinds := [.data, .data, .data, .data, .pinned], laidTests := true, laidLooks := .later }
def ViewdiffComparesCardSaid : Prop := Claim7.holds Tryz.pinned (.plain (OpenSpec.ofChange viewdiffComparesSpec)) viewdiffComparesCard

/-- THE TIED CARD OF 'masterdisclaw50.ViewdiffChecks'. -/
def viewdiffChecksCard : Claim7 := { stood := { row := viewdiffChecksRow, standIns := [], harness := (true, "0b377ae0b5753b9b45616a03841dae16a22689a980197306ea8c24b52ed40543"), looks := false }, kinds := [], alts := [], laidByText := true, laidKinds := [.data, .data, .data, .data, .pinned], laidTests := true, laidLooks := .later }
def ViewdiffChecksCardSaid : Prop := Claim7.holds Tryz.pinned (.plain (OpenSpec.ofChange viewdiffChecksSpec)) viewdiffChecksCard

/-- THE TIED CARD OF 'masterdisclaw50.ViewdiffMirrors'. -/
def viewdiffMirrorsCard : Claim7 := { stood := { row := viewdiffMirrorsRow, standIns := [], harness := (true, "0b377ae0b5753b9b45616a03841dae16a22689a980197306ea8c24b52ed40543"), looks := false }, kinds := [], alts := [], laidByText := true, laidKinds := [.data, .data, .data, .data, .pinned], laidTests := true, laidLooks := .later }
def ViewdiffMirrorsCardSaid : Prop := Claim7.holds Tryz.pinned (.plain (OpenSpec.ofChange viewdiffMirrorsSpec)) viewdiffMirrorsCard

/-- THE TIED CARD OF 'masterdisclaw50.ViewdiffFinds'. -/
def viewdiffFindsCard : Claim7 := { stood := { row := viewdiffFindsRow, standIns := [], harness := (true, "0b377ae0b5753b9b45616a03841dae16a22689a980197306ea8c24b52ed40543"), looks := false }, kinds := [], alts := [], laidByText := true, laidKinds := [.data, .data, .data, .data, .pinned], laidTests := true, laidLooks := .later }
def ViewdiffFindsCardSaid : Prop := Claim7.holds Tryz.pinned (.plain (OpenSpec.ofChange viewdiffFindsSpec)) viewdiffFindsCard

/-- THE TIED CARD OF 'masterdisclaw50.ViewdiffEquals'. -/
def viewdiffEqualsCard : Claim7 := { stood := { row := viewdiffEqualsRow, standIns := [], harness := (true, "0b377ae0b5753b9b45616a03841dae16a22689a980197306ea8c24b52ed40543"), looks := false }, kinds := [], alts := [], laidByText := true, laidKinds := [.data, .data, .data, .data, .pinned], laidTests := true, laidLooks := .later }
def ViewdiffEqualsCardSaid : Prop := Claim7.holds Tryz.pinned (.plain (OpenSpec.ofChange viewdiffEqualsSpec)) viewdiffEqualsCard

/-- THE TIED CARD OF 'masterdisclaw50.ViewdiffSingle'. -/
def viewdiffSingleCard : Claim7 := { stood := { row := viewdiffSingleRow, standIns := [], harness := (true, "0b377ae0b5753b9b45616a03841dae16a22689a980197306ea8c24b52ed40543"), looks := false }, kinds := [], alts := [], laidByText := true, laidKinds := [.data, .data, .data, .data, .pinned], laidTests := true, laidLooks := .later }
def ViewdiffSingleCardSaid : Prop := Claim7.holds Tryz.pinned (.plain (OpenSpec.ofChange viewdiffSingleSpec)) viewdiffSingleCard

/-- THE TIED CARD OF 'masterdisclaw50.ViewdiffViews'. -/
def viewdiffViewsCard : Claim7 := { stood := { row := viewdiffViewsRow, standIns := [], harness := (true, "0b377ae0b5753b9b45616a03841dae16a22689a980197306ea8c24b52ed40543"), looks := false }, kinds := [], alts := [], laidByText := true, laidKinds := [.data, .data, .data, .data, .pinned], laidTests := true, laidLooks := .later }
def ViewdiffViewsCardSaid : Prop := Claim7.holds Tryz.pinned (.plain (OpenSpec.ofChange viewdiffViewsSpec)) viewdiffViewsCard

/-- THE TIED CARD OF 'masterdisclaw50.ViewdiffLists'. -/
def viewdiffListsCard : Claim7 := { stood := { row := viewdiffListsRow, standIns := [], harness := (true, "0b377ae0b5753b9b45616a03841dae16a22689a980197306ea8c24b52ed40543"), looks := false }, kinds := [], alts := [], laidByText := true, laidKinds := [.data, .data, .data, .data, .pinned], laidTests := true, laidLooks := .later }
def ViewdiffListsCardSaid : Prop := Claim7.holds Tryz.pinned (.plain (OpenSpec.ofChange viewdiffListsSpec)) viewdiffListsCard

/-- THE SECOND FORM's CARD OF 'masterdisclaw50.ViewdiffCompares'. -/
def viewdiffComparesUptoCard : Claim7 := { stood := { row := viewdiffComparesUptoRow, standIns := [], harness := (true, "0b377ae0b5753b9b45616a03841dae16a22689a980197306ea8c24b52ed40543"), looks := false }, kinds := [], alts := [], laidByText := true, laidKinds := [.data, .data, .data, .data, .pinned], laidTests := true, laidLooks := .later }
def ViewdiffComparesUptoCardSaid : Prop := Claim7.holds Tryz.pinned (.plain (OpenSpec.upto viewdiffComparesSpec)) viewdiffComparesUptoCard

/-- THE SECOND FORM's CARD OF 'masterdisclaw50.ViewdiffChecks'. -/
def viewdiffChecksUptoCard : Claim7 := { stood := { row := viewdiffChecksUptoRow, standIns := [], harness := (true, "0b377ae0b5753b9b45616a03841dae16a22689a980197306ea8c24b52ed40543"), looks := false }, kinds := [], alts := [], laidByText := true, laidKinds := [.data, .data, .data, .data, .pinned], laidTests := true, laidLooks := .later }
def ViewdiffChecksUptoCardSaid : Prop := Claim7.holds Tryz.pinned (.plain (OpenSpec.upto viewdiffChecksSpec)) viewdiffChecksUptoCard

/-- THE SECOND FORM's CARD OF 'masterdisclaw50.ViewdiffMirrors'. -/
def viewdiffMirrorsUptoCard : Claim7 := { stood := { row := viewdiffMirrorsUptoRow, standIns := [], harness := (true, "0b377ae0b5753b9b45616a03841dae16a22689a980197306ea8c24b52ed40543"), looks := false }, kinds := [], alts := [], laidByText := true, laidKinds := [.data, .data, .data, .data, .pinned], laidTests := true, laidLooks := .later }
def ViewdiffMirrorsUptoCardSaid : Prop := Claim7.holds Tryz.pinned (.plain (OpenSpec.upto viewdiffMirrorsSpec)) viewdiffMirrorsUptoCard

/-- THE SECOND FORM's CARD OF 'masterdisclaw50.ViewdiffFinds'. -/
def viewdiffFindsUptoCard : Claim7 := { stood := { row := viewdiffFindsUptoRow, standIns := [], harness := (true, "0b377ae0b5753b9b45616a03841dae16a22689a980197306ea8c24b52ed40543"), looks := false }, kinds := [], alts := [], laidByText := true, laidKinds := [.data, .data, .data, .data, .pinned], laidTests := true, laidLooks := .later }
def ViewdiffFindsUptoCardSaid : Prop := Claim7.holds Tryz.pinned (.plain (OpenSpec.upto viewdiffFindsSpec)) viewdiffFindsUptoCard

/-- THE SECOND FORM's CARD OF 'masterdisclaw50.ViewdiffEquals'. -/
def viewdiffEqualsUptoCard : Claim7 := { stood := { row := viewdiffEqualsUptoRow, standIns := [], harness := (true, "0b377ae0b5753b9b45616a03841dae16a22689a980197306ea8c24b52ed40543"), looks := false }, kinds := [], alts := [], laidByText := true, laidKinds := [.data, .data, .data, .data, .pinned], laidTests := true, laidLooks := .later }
def ViewdiffEqualsUptoCardSaid : Prop := Claim7.holds Tryz.pinned (.plain (OpenSpec.upto viewdiffEqualsSpec)) viewdiffEqualsUptoCard

/-- THE SECOND FORM's CARD OF 'masterdisclaw50.ViewdiffSingle'. -/
def viewdiffSingleUptoCard : Claim7 := { stood := { row := viewdiffSingleUptoRow, standIns := [], harness := (true, "0b377ae0b5753b9b45616a03841dae16a22689a980197306ea8c24b52ed40543"), looks := false }, kinds := [], alts := [], laidByText := true, laidKinds := [.data, .data, .data, .data, .pinned], laidTests := true, laidLooks := .later }
def ViewdiffSingleUptoCardSaid : Prop := Claim7.holds Tryz.pinned (.plain (OpenSpec.upto viewdiffSingleSpec)) viewdiffSingleUptoCard

/-- THE SECOND FORM's CARD OF 'masterdisclaw50.ViewdiffViews'. -/
def viewdiffViewsUptoCard : Claim7 := { stood := { row := viewdiffViewsUptoRow, standIns := [], harness := (true, "0b377ae0b5753b9b45616a03841dae16a22689a980197306ea8c24b52ed40543"), looks := false }, kinds := [], alts := [], laidByText := true, laidKinds := [.data, .data, .data, .data, .pinned], laidTests := true, laidLooks := .later }
def ViewdiffViewsUptoCardSaid : Prop := Claim7.holds Tryz.pinned (.plain (OpenSpec.upto viewdiffViewsSpec)) viewdiffViewsUptoCard

/-- THE SECOND FORM's CARD OF 'masterdisclaw50.ViewdiffLists'. -/
def viewdiffListsUptoCard : Claim7 := { stood := { row := viewdiffListsUptoRow, standIns := [], harness := (true, "0b377ae0b5753b9b45616a03841dae16a22689a980197306ea8c24b52ed40543"), looks := false }, kinds := [], alts := [], laidByText := true, laidKinds := [.data, .data, .data, .data, .pinned], laidTests := true, laidLooks := .later }
def ViewdiffListsUptoCardSaid : Prop := Claim7.holds Tryz.pinned (.plain (OpenSpec.upto viewdiffListsSpec)) viewdiffListsUptoCard
end Rows
end Go.Proofs.YtggomolcfgmdkaaGreatDoor
