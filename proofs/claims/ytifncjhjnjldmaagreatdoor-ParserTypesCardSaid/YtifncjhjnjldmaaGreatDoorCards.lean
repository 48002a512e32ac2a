/-
  DERIVED. GIVEN WITH THE SEED: THE CARDS: each row of YtifncjhjnjldmaaGreatDoorRows.lean that lists a variable, with what it lists TIED to the program's text (the seventh form; the later family's looks); each row that meets fmt, with fmt's text TOLD by the authors' own Lean function (tested against real Go, not proved from fmt's source: count such statements apart). THE CARD IS WHAT COUNTS. Prove the row's statement (the work); the ties are given (YtifncjhjnjldmaaGreatDoorTie.lean); close each card by the builder's one call (the guide's Derived/Test/ToyasCard.lean, 'card_holds'). Laid BY PROGRAM, IN A SANDBOX (cutbox-door.mjs). By AI agents, Wed Nov 11 2026. No macro, syntax, notation, axiom, sorry.
-/
import Derived.Test.YtifncjhjnjldmaaGreatDoorRows
import GoSem.ClaimSeven
namespace Go.Proofs.YtifncjhjnjldmaaGreatDoor
namespace Rows

/-- THE TIED CARD OF 'modcertlaw05.ParserTypes'. -/
def parserTypesCard : Claim7 := { stood := { row := parserTypesRow, standIns := [], harness := (true, "a3abfe79bbca5fa15a43252ae87017bbe4c0dfaff4da9e4fd374f8a9a54d7760"), looks := true }, kinds := [], alts := [], laidByText := true, laidKinds := [.data, .data, .data, .data, .sentinel, .sentinel, .pinned], laidTests := true, laidLooks := .later }
def ParserTypesCardSaid : Prop := Claim7.holds Tryz.pinned (.plain (OpenSpec.ofChange parserTypesSpec)) parserTypesCard

/-- THE SECOND FORM's CARD OF 'modcertlaw05.ParserTypes'. -/
def parserTypesUptoCard : Claim7 := { stood := { row := parserTypesUptoRow, standIns := [], harness := (true, "a3abfe79bbca5fa15a43252ae87017bbe4c0dfaff4da9e4fd374f8a9a54d7760"), looks := true }, kinds := [], alts := [], laidByText := true, laidKinds := [.data, .data, .data, .data, .sentinel, .sentinel, .pinned], laidTests := true, laidLooks := .later }
def ParserTypesUptoCardSaid : Prop := Claim7.holds Tryz.pinned (.plain (OpenSpec.upto parserTypesSpec)) parserTypesUptoCard
end Rows
end Go.Proofs.YtifncjhjnjldmaaGreatDoor
