/-
  DERIVED. GIVEN WITH THE SEED: THE CARDS: each row of YtpkeldhgfdeebaaGreatDoorRows.lean that lists a variable, with what it lists TIED to the program's text (the seventh form; the later family's looks); each row that meets fmt, with fmt's text TOLD by the authors' own Lean function (tested against real Go, not proved from fmt's source: count such statements apart). THE CARD IS WHAT COUNTS. Prove the row's statement (the work); the ties are given (YtpkeldhgfdeebaaGreatDoorTie.lean); close each card by the builder's one call (the guide's Derived/Test/ToyasCard.lean, 'card_holds'). Laid BY PROGRAM, IN A SANDBOX (cutbox-door.mjs). By AI agents, Wed Nov 11 2026. No macro, syntax, notation, axiom, sorry.
-/
import Derived.Test.YtpkeldhgfdeebaaGreatDoorRows
import GoSem.ClaimSeven
namespace Go.Proofs.YtpkeldhgfdeebaaGreatDoor
namespace Rows

/-- THE TIED CARD OF 'masterdisclaw19.NamingViews'. -/
def namingViewsCard : Claim7 := { stood := { row := namingViewsRow, standIns := [], harness := (true, "ee198360f2877081a50c64632e68161b1a18a4550b837f5a7a519aeb2416a168"), looks := false }, kinds := [], alts := [], laidByText := true, laidKinds := [.data, .data, .data, .data, .pinned], laidTests := true, laidLooks := .later }
def NamingViewsCardSaid : Prop := Claim7.holds Tryz.pinned (.plain (OpenSpec.ofChange namingViewsSpec)) namingViewsCard

/-- THE TIED CARD OF 'masterdisclaw19.NamingPaths'. -/
def namingPathsCard : Claim7 := { stood := { row := namingPathsRow, standIns := [], harness := (true, "ee198360f2877081a50c64632e68161b1a18a4550b837f5a7a519aeb2416a168"), looks := false }, kinds := [], alts := [], laidByText := true, laidKinds := [.data, .data, .data, .data, .pinned], laidTests := true, laidLooks := .later }
def NamingPathsCardSaid : Prop := Claim7.holds Tryz.pinned (.plain (OpenSpec.ofChange namingPathsSpec)) namingPathsCard

/-- THE TIED CARD OF 'masterdisclaw19.NamingAgain'. -/
def namingAgainCard : Claim7 := { stood := { row := namingAgainRow, standIns := [], harness := (true, "ee198360f2877081a50c64632e68161b1a18a4550b837f5a7a519aeb2416a168"), looks := false }, kinds := [], alts := [], laidByText := true, laidKinds := [.data, .data, .data, .data, .pinned], laidTests := true, laidLooks := .later }
def NamingAgainCardSaid : Prop := Claim7.holds Tryz.pinned (.plain (OpenSpec.ofChange namingAgainSpec)) namingAgainCard

/-- THE TIED CARD OF 'masterdisclaw19.NamingInverse'. -/
def namingInverseCard : Claim7 := { stood := { row := namingInverseRow, standIns := [], harness := (true, "ee198360f2877081a50c64632e68161b1a18a4550b837f5a7a519aeb2416a168"), looks := false }, kinds := [], alts := [], laidByText := true, laidKinds := [.data, .data, .data, .data, .pinned], laidTests := true, laidLooks := .later }
def NamingInverseCardSaid : Prop := Claim7.holds Tryz.pinned (.plain (OpenSpec.ofChange namingInverseSpec)) namingInverseCard

/-- THE TIED CARD OF 'masterdisclaw19.NamingUnique'. -/
def namingUniqueCard : Claim7 := { stood := { row := namingUniqueRow, standIns := [], harness := (true, "ee198360f2877081a50c64632e68161b1a18a4550b837f5a7a519aeb2416a168"), looks := false }, kinds := [], alts := [], laidByText := true, laidKinds := [.data, .data, .data, .data, .pinned], laidTests := true, laidLooks := .later }
def NamingUniqueCardSaid : Prop := Claim7.holds Tryz.pinned (.plain (OpenSpec.ofChange namingUniqueSpec)) namingUniqueCard

/-- THE TIED CARD OF 'masterdisclaw19.NamingStable'. -/
def namingStableCard : Claim7 := { stood := { row := namingStableRow, standIns := [], harness := (true, "ee198360f2877081a50c64632e68161b1a18a4550b837f5a7a519aeb2416a168"), looks := false }, kinds := [], alts := [], laidByText := true, laidKinds := [.data, .data, .data, .data, .pinned], laidTests := true, laidLooks := .later }
def NamingStableCardSaid : Prop := Claim7.holds Tryz.pinned (.plain (OpenSpec.ofChange namingStableSpec)) namingStableCard

/-- THE TIED CARD OF 'masterdisclaw26.RelocationPlans'. -/
def relocationPlansCard : Claim7 := { stood := { row := relocationPlansRow, standIns := [], harness := (true, "ee198360f2877081a50c64632e68161b1a18a4550b837f5a7a519aeb2416a168"), looks := false }, kinds := [], alts := [], laidByText := true, laidKinds := [.data, .data, .data, .data, .pinned], laidTests := true, laidLooks := .later }
def RelocationPlansCardSaid : Prop := Claim7.holds Tryz.pinned (.plain (OpenSpec.ofChange relocationPlansSpec)) relocationPlansCard

/-- THE TIED CARD OF 'masterdisclaw26.RelocationNames'. -/
def relocationNamesCard : Claim7 := { stood := { row := relocationNamesRow, standIns := [], harness := (true, "ee198360f2877081a50c64632e68161b1a18a4550b837f5a7a519aeb2416a168"), looks := false }, kinds := [], alts := [], laidByText := true, laidKinds := [.data, .data, .data, .data, .pinned], laidTests := true, laidLooks := .later }
def RelocationNamesCardSaid : Prop := Claim7.holds Tryz.pinned (.plain (OpenSpec.ofChange relocationNamesSpec)) relocationNamesCard

/-- THE TIED CARD OF 'masterdisclaw26.RelocationLevels'. -/
def relocationLevelsCard : Claim7 := { stood := { row := relocationLevelsRow, standIns := [], harness := (true, "ee198360f2877081a50c64632e68161b1a18a4550b837f5a7a519aeb2416a168"), looks := false }, kinds := [], alts := [], laidByText := true, laidKinds := [.data, .data, .data, .data, .pinned], laidTests := true, laidLooks := .later }
def RelocationLevelsCardSaid : Prop := Claim7.holds Tryz.pinned (.plain (OpenSpec.ofChange relocationLevelsSpec)) relocationLevelsCard

/-- THE TIED CARD OF 'masterdisclaw26.RelocationPlain'. -/
def relocationPlainCard : Claim7 := { stood := { row := relocationPlainRow, standIns := [], harness := (true, "ee198360f2877081a50c64632e68161b1a18a4550b837f5a7a519aeb2416a168"), looks := false }, kinds := [], alts := [], laidByText := true, laidKinds := [.data, .data, .data, .data, .pinned], laidTests := true, laidLooks := .later }
def RelocationPlainCardSaid : Prop := Claim7.holds Tryz.pinned (.plain (OpenSpec.ofChange relocationPlainSpec)) relocationPlainCard

/-- THE TIED CARD OF 'masterdisclaw26.RelocationUnique'. -/
def relocationUniqueCard : Claim7 := { stood := { row := relocationUniqueRow, standIns := [], harness := (true, "ee198360f2877081a50c64632e68161b1a18a4550b837f5a7a519aeb2416a168"), looks := false }, kinds := [], alts := [], laidByText := true, laidKinds := [.data, .data, .data, .data, .pinned], laidTests := true, laidLooks := .later }
def RelocationUniqueCardSaid : Prop := Claim7.holds Tryz.pinned (.plain (OpenSpec.ofChange relocationUniqueSpec)) relocationUniqueCard

/-- THE TIED CARD OF 'masterdisclaw26.RelocationShows'. -/
def relocationShowsCard : Claim7 := { stood := { row := relocationShowsRow, standIns := [], harness := (true, "ee198360f2877081a50c64632e68161b1a18a4550b837f5a7a519aeb2416a168"), looks := false }, kinds := [], alts := [], laidByText := true, laidKinds := [.data, .data, .data, .data, .pinned], laidTests := true, laidLooks := .later }
def RelocationShowsCardSaid : Prop := Claim7.holds Tryz.pinned (.plain (OpenSpec.ofChange relocationShowsSpec)) relocationShowsCard

/-- THE SECOND FORM's CARD OF 'masterdisclaw19.NamingViews'. -/
def namingViewsUptoCard : Claim7 := { stood := { row := namingViewsUptoRow, standIns := [], harness := (true, "ee198360f2877081a50c64632e68161b1a18a4550b837f5a7a519aeb2416a168"), looks := false }, kinds := [], alts := [], laidByText := true, laidKinds := [.data, .data, .data, .data, .pinned], laidTests := true, laidLooks := .later }
def NamingViewsUptoCardSaid : Prop := Claim7.holds Tryz.pinned (.plain (OpenSpec.upto namingViewsSpec)) namingViewsUptoCard

/-- THE SECOND FORM's CARD OF 'masterdisclaw19.NamingPaths'. -/
def namingPathsUptoCard : Claim7 := { stood := { row := namingPathsUptoRow, standIns := [], harness := (true, "ee198360f2877081a50c64632e68161b1a18a4550b837f5a7a519aeb2416a168"), looks := false }, kinds := [], alts := [], laidByText := true, laidKinds := [.data, .data, .data, .data, .pinned], laidTests := true, laidLooks := .later }
def NamingPathsUptoCardSaid : Prop := Claim7.holds Tryz.pinned (.plain (OpenSpec.upto namingPathsSpec)) namingPathsUptoCard

/-- THE SECOND FORM's CARD OF 'masterdisclaw19.NamingAgain'. -/
def namingAgainUptoCard : Claim7 := { stood := { row := namingAgainUptoRow, standIns := [], harness := (true, "ee198360f2877081a50c64632e68161b1a18a4550b837f5a7a519aeb2416a168"), looks := false }, kinds := [], alts := [], laidByText := true, laidKinds := [.data, .data, .data, .data, .pinned], laidTests := true, laidLooks := .later }
def NamingAgainUptoCardSaid : Prop := Claim7.holds Tryz.pinned (.plain (OpenSpec.upto namingAgainSpec)) namingAgainUptoCard

/-- THE SECOND FORM's CARD OF 'masterdisclaw19.NamingInverse'. -/
def namingInverseUptoCard : Claim7 := { stood := { row := namingInverseUptoRow, standIns := [], harness := (true, "ee198360f2877081a50c64632e68161b1a18a4550b837f5a7a519aeb2416a168"), looks := false }, kinds := [], alts := [], laidByText := true, laidKinds := [.data, .data, .data, .data, .pinned], laidTests := true, laidLooks := .later }
def NamingInverseUptoCardSaid : Prop := Claim7.holds Tryz.pinned (.plain (OpenSpec.upto namingInverseSpec)) namingInverseUptoCard

/-- THE SECOND FORM's CARD OF 'masterdisclaw19.NamingUnique'. -/
def namingUniqueUptoCard : Claim7 := { stood := { row := namingUniqueUptoRow, standIns := [], harness := (true, "ee198360f2877081a50c64632e68161b1a18a4550b837f5a7a519aeb2416a168"), looks := false }, kinds := [], alts := [], laidByText := true, laidKinds := [.data, .data, .data, .data, .pinned], laidTests := true, laidLooks := .later }
def NamingUniqueUptoCardSaid : Prop := Claim7.holds Tryz.pinned (.plain (OpenSpec.upto namingUniqueSpec)) namingUniqueUptoCard

/-- THE SECOND FORM's CARD OF 'masterdisclaw19.NamingStable'. -/
def namingStableUptoCard : Claim7 := { stood := { row := namingStableUptoRow, standIns := [], harness := (true, "ee198360f2877081a50c64632e68161b1a18a4550b837f5a7a519aeb2416a168"), looks := false }, kinds := [], alts := [], laidByText := true, laidKinds := [.data, .data, .data, .data, .pinned], laidTests := true, laidLooks := .later }
def NamingStableUptoCardSaid : Prop := Claim7.holds Tryz.pinned (.plain (OpenSpec.upto namingStableSpec)) namingStableUptoCard

/-- THE SECOND FORM's CARD OF 'masterdisclaw26.RelocationPlans'. -/
def relocationPlansUptoCard : Claim7 := { stood := { row := relocationPlansUptoRow, standIns := [], harness := (true, "ee198360f2877081a50c64632e68161b1a18a4550b837f5a7a519aeb2416a168"), looks := false }, kinds := [], alts := [], laidByText := true, laidKinds := [.data, .data, .data, .data, .pinned], laidTests := true, laidLooks := .later }
def RelocationPlansUptoCardSaid : Prop := Claim7.holds Tryz.pinned (.plain (OpenSpec.upto relocationPlansSpec)) relocationPlansUptoCard

/-- THE SECOND FORM's CARD OF 'masterdisclaw26.RelocationNames'. -/
def relocationNamesUptoCard : Claim7 := { stood := { row := relocationNamesUptoRow, standIns := [], harness := (true, "ee198360f2877081a50c64632e68161b1a18a4550b837f5a7a519aeb2416a168"), looks := false }, kinds := [], alts := [], laidByText := true, laidKinds := [.data, .data, .data, .data, .pinned], laidTests := true, laidLooks := .later }
def RelocationNamesUptoCardSaid : Prop := Claim7.holds Tryz.pinned (.plain (OpenSpec.upto relocationNamesSpec)) relocationNamesUptoCard

/-- THE SECOND FORM's CARD OF 'masterdisclaw26.RelocationLevels'. -/
def relocationLevelsUptoCard : Claim7 := { stood := { row := relocationLevelsUptoRow, standIns := [], harness := (true, "ee198360f2877081a50c64632e68161b1a18a4550b837f5a7a519aeb2416a168"), looks := false }, kinds := [], alts := [], laidByText := true, laidKinds := [.data, .data, .data, .data, .pinned], laidTests := true, laidLooks := .later }
def RelocationLevelsUptoCardSaid : Prop := Claim7.holds Tryz.pinned (.plain (OpenSpec.upto relocationLevelsSpec)) relocationLevelsUptoCard

/-- THE SECOND FORM's CARD OF 'masterdisclaw26.RelocationPlain'. -/
def relocationPlainUptoCard : Claim7 := { stood := { row := relocationPlainUptoRow, standIns := [], harness := (true, "ee198360f2877081a50c64632e68161b1a18a4550b837f5a7a519aeb2416a168"), looks := false }, kinds := [], alts := [], laidByText := true, laidKinds := [.data, .data, .data, .data, .pinned], laidTests := true, laidLooks := .later }
def RelocationPlainUptoCardSaid : Prop := Claim7.holds Tryz.pinned (.plain (OpenSpec.upto relocationPlainSpec)) relocationPlainUptoCard

/-- THE SECOND FORM's CARD OF 'masterdisclaw26.RelocationUnique'. -/
def relocationUniqueUptoCard : Claim7 := { stood := { row := relocationUniqueUptoRow, standIns := [], harness := (true, "ee198360f2877081a50c64632e68161b1a18a4550b837f5a7a519aeb2416a168"), looks := false }, kinds := [], alts := [], laidByText := true, laidKinds := [.data, .data, .data, .data, .pinned], laidTests := true, laidLooks := .later }
def RelocationUniqueUptoCardSaid : Prop := Claim7.holds Tryz.pinned (.plain (OpenSpec.upto relocationUniqueSpec)) relocationUniqueUptoCard

/-- THE SECOND FORM's CARD OF 'masterdisclaw26.RelocationShows'. -/
def relocationShowsUptoCard : Claim7 := { stood := { row := relocationShowsUptoRow, standIns := [], harness := (true, "ee198360f2877081a50c64632e68161b1a18a4550b837f5a7a519aeb2416a168"), looks := false }, kinds := [], alts := [], laidByText := true, laidKinds := [.data, .data, .data, .data, .pinned], laidTests := true, laidLooks := .later }
def RelocationShowsUptoCardSaid : Prop := Claim7.holds Tryz.pinned (.plain (OpenSpec.upto relocationShowsSpec)) relocationShowsUptoCard
end Rows
end Go.Proofs.YtpkeldhgfdeebaaGreatDoor
