/-
  DERIVED. GIVEN WITH THE SEED: THE CARDS: each row of YthfehkcfhiilfaaGreatDoorRows.lean that lists a variable, with what it lists TIED to the program's text (the seventh form; the later family's looks); each row that meets fmt, with fmt's text TOLD by the authors' own Lean function (tested against real Go, not proved from fmt's source: count such statements apart). THE CARD IS WHAT COUNTS. Prove the row's statement (the work); the ties are given (YthfehkcfhiilfaaGreatDoorTie.lean); close each card by the builder's one call (the guide's Derived/Test/ToyasCard.lean, 'card_holds'). Laid BY PROGRAM, IN A SANDBOX (cutbox-door.mjs). By AI agents, Wed Nov 11 2026. No macro, syntax, notation, axiom, sorry.
-/
import Derived.Test.YthfehkcfhiilfaaGreatDoorRows
import GoSem.ClaimSeven
namespace Go.Proofs.YthfehkcfhiilfaaGreatDoor
namespace Rows

/-- THE TIED CARD OF 'modcertlaw05.ParserAscribes'. -/
def parserAscribesCard : Claim7 := { stood := { row := parserAscribesRow, standIns := [], harness := (true, "c72bc75a8d2ace67efe28dc554585733f69c0657fec0c1276dc1138f2ccb9af7"), looks := true }, kinds := [], alts := [], laidByText := true, laidKinds := [.data, .data, .data, .data, .sentinel, .sentinel, .pinned], laidTests := true, laidLooks := .later }
def ParserAscribesCardSaid : Prop := Claim7.holds Tryz.pinned (.plain (OpenSpec.ofChange parserAscribesSpec)) parserAscribesCard

/-- THE SECOND FORM's CARD OF 'modcertlaw05.ParserAscribes'. -/
def parserAscribesUptoCard : Claim7 := { stood := { row := parserAscribesUptoRow, standIns := [], harness := (true, "c72bc75a8d2ace67efe28dc554585733f69c0657fec0c1276dc1138f2ccb9af7"), looks := true }, kinds := [], alts := [], laidByText := true, laidKinds := [.data, .data, .data, .data, .sentinel, .sentinel, .pinned], laidTests := true, laidLooks := .later }
def ParserAscribesUptoCardSaid : Prop := Claim7.holds Tryz.pinned (.plain (OpenSpec.upto parserAscribesSpec)) parserAscribesUptoCard
end Rows
end Go.Proofs.YthfehkcfhiilfaaGreatDoor
