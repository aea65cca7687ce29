/-
  DERIVED. GIVEN WITH THE SEED: THE CARDS: each row of YtppjigbglfglnaaGreatDoorRows.lean that lists a variable, with what it lists TIED to the program's text (the seventh form; the later family's looks); each row that meets fmt, with fmt's text TOLD by the authors' own Lean function (tested against real Go, not proved from fmt's source: count such statements apart). THE CARD IS WHAT COUNTS. Prove the row's statement (the work); the ties are given (YtppjigbglfglnaaGreatDoorTie.lean); close each card by the builder's one call (the guide's Derived/Test/ToyasCard.lean, 'card_holds'). Laid BY PROGRAM, IN A SANDBOX (cutbox-door.mjs). By AI agents, Wed Nov 11 2026. No macro, syntax, notation, axiom, sorry.
-/
import Derived.Test.YtppjigbglfglnaaGreatDoorRows
import GoSem.ClaimSeven
namespace Go.Proofs.YtppjigbglfglnaaGreatDoor
namespace Rows

/-- THE TIED CARD OF 'masterdisclaw29.IsomountReads'. -/
def isomountReadsCard : Claim7 := { stood := { row := isomountReadsRow, standIns := [], harness := (true, "c2277036243da0bfbe834cd1ab10c0573707162fecc7faa532b3feab5a7fcd53"), looks := true }, kinds := [], alts := [], laidByText := true, laidKinds := [.data, .data, .data, .data, .sentinel, .sentinel, .pinned], laidTests := true, laidLooks := .later }
def IsomountReadsCardSaid : Prop := Claim7.holds Tryz.pinned (.plain (OpenSpec.ofChange isomountReadsSpec)) isomountReadsCard

/-- THE SECOND FORM's CARD OF 'masterdisclaw29.IsomountReads'. -/
def isomountReadsUptoCard : Claim7 := { stood := { row := isomountReadsUptoRow, standIns := [], harness := (true, "c2277036243da0bfbe834cd1ab10c0573707162fecc7faa532b3feab5a7fcd53"), looks := true }, kinds := [], alts := [], laidByText := true, laidKinds := [.data, .data, .data, .data, .sentinel, .sentinel, .pinned], laidTests := true, laidLooks := .later }
def IsomountReadsUptoCardSaid : Prop := Claim7.holds Tryz.pinned (.plain (OpenSpec.upto isomountReadsSpec)) isomountReadsUptoCard
end Rows
end Go.Proofs.YtppjigbglfglnaaGreatDoor
