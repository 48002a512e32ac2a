/-
  DERIVED. GIVEN WITH THE SEED: THE CARDS: each row of YtdocmpeionacbaaGreatDoorRows.lean that lists a variable, with what it lists TIED to the program's text (the seventh form; the later family's looks); each row that meets fmt, with fmt's text TOLD by the authors' own Lean function (tested against real Go, not proved from fmt's source: count such statements apart). THE CARD IS WHAT COUNTS. Prove the row's statement (the work); the ties are given (YtdocmpeionacbaaGreatDoorTie.lean); close each card by the builder's one call (the guide's Derived/Test/ToyasCard.lean, 'card_holds'). Laid BY PROGRAM, IN A SANDBOX (cutbox-door.mjs). By AI agents, Wed Nov 11 2026. No macro, syntax, notation, axiom, sorry.
-/
import Derived.Test.YtdocmpeionacbaaGreatDoorRows
import GoSem.ClaimSeven
namespace Go.Proofs.YtdocmpeionacbaaGreatDoor
namespace Rows

/-- THE TIED CARD OF 'modcertlaw05.ParserModules'. -/
def parserModulesCard : Claim7 := { stood := { row := parserModulesRow, standIns := [], harness := (true, "7f2b2699dff6c05166dcfe1ae3019b14fabac247348fdd375a07a44c9747dc1c"), looks := true }, kinds := [], alts := [], laidByText := true, laidKinds := [.data, .data, .data, .data, .sentinel, .sentinel, .pinned], laidTests := true, laidLooks := .later }
def ParserModulesCardSaid : Prop := Claim7.holds Tryz.pinned (.plain (OpenSpec.ofChange parserModulesSpec)) parserModulesCard

/-- THE SECOND FORM's CARD OF 'modcertlaw05.ParserModules'. -/
def parserModulesUptoCard : Claim7 := { stood := { row := parserModulesUptoRow, standIns := [], harness := (true, "7f2b2699dff6c05166dcfe1ae3019b14fabac247348fdd375a07a44c9747dc1c"), looks := true }, kinds := [], alts := [], laidByText := true, laidKinds := [.data, .data, .data, .data, .sentinel, .sentinel, .pinned], laidTests := true, laidLooks := .later }
def ParserModulesUptoCardSaid : Prop := Claim7.holds Tryz.pinned (.plain (OpenSpec.upto parserModulesSpec)) parserModulesUptoCard
end Rows
end Go.Proofs.YtdocmpeionacbaaGreatDoor
