/-
  DERIVED. GIVEN WITH THE SEED: THE CARDS: each row of YtaefjijnnbcjbaaGreatDoorRows.lean that lists a variable, with what it lists TIED to the program's text (the seventh form; the later family's looks); each row that meets fmt, with fmt's text TOLD by the authors' own Lean function (tested against real Go, not proved from fmt's source: count such statements apart). THE CARD IS WHAT COUNTS. Prove the row's statement (the work); the ties are given (YtaefjijnnbcjbaaGreatDoorTie.lean); close each card by the builder's one call (the guide's Derived/Test/ToyasCard.lean, 'card_holds'). Laid BY PROGRAM, IN A SANDBOX (cutbox-door.mjs). By AI agents, Wed Nov 11 2026. No macro, syntax, notation, axiom, sorry.
-/
import Derived.Test.YtaefjijnnbcjbaaGreatDoorRows
import GoSem.ClaimSeven
namespace Go.Proofs.YtaefjijnnbcjbaaGreatDoor
namespace Rows

/-- THE TIED CARD OF 'modcertlaw05.ParserOperators'. -/
def parserOperatorsCard : Claim7 := { stood := { row := parserOperatorsRow, standIns := [], harness := (true, "e624acda7a129ccf6fe7d318ddaa5a50744aea0b46063d3b6f38f54707ec76e3"), looks := true }, kinds := [], alts := [], laidByText := true, laidKinds := [.data, .data, .data, .data, .sentinel, .sentinel, .pinned], laidTests := true, laidLooks := .later }
def ParserOperatorsCardSaid : Prop := Claim7.holds Tryz.pinned (.plain (OpenSpec.ofChange parserOperatorsSpec)) parserOperatorsCard

/-- THE SECOND FORM's CARD OF 'modcertlaw05.ParserOperators'. -/
def parserOperatorsUptoCard : Claim7 := { stood := { row := parserOperatorsUptoRow, standIns := [], harness := (true, "e624acda7a129ccf6fe7d318ddaa5a50744aea0b46063d3b6f38f54707ec76e3"), looks := true }, kinds := [], alts := [], laidByText := true, laidKinds := [.data, .data, .data, .data, .sentinel, .sentinel, .pinned], laidTests := true, laidLooks := .later }
def ParserOperatorsUptoCardSaid : Prop := Claim7.holds Tryz.pinned (.plain (OpenSpec.upto parserOperatorsSpec)) parserOperatorsUptoCard
end Rows
end Go.Proofs.YtaefjijnnbcjbaaGreatDoor
