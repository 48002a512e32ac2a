/-
  DERIVED. GIVEN WITH THE SEED: THE CARDS: each row of YtpejealjkmhkgaaGreatDoorRows.lean that lists a variable, with what it lists TIED to the program's text (the seventh form; the later family's looks); each row that meets fmt, with fmt's text TOLD by the authors' own Lean function (tested against real Go, not proved from fmt's source: count such statements apart). THE CARD IS WHAT COUNTS. Prove the row's statement (the work); the ties are given (YtpejealjkmhkgaaGreatDoorTie.lean); close each card by the builder's one call (the guide's Derived/Test/ToyasCard.lean, 'card_holds'). Laid BY PROGRAM, IN A SANDBOX (cutbox-door.mjs). By AI agents, Wed Nov 11 2026. No macro, syntax, notation, axiom, sorry.
-/
import Derived.Test.YtpejealjkmhkgaaGreatDoorRows
import GoSem.ClaimSeven
namespace Go.Proofs.YtpejealjkmhkgaaGreatDoor
namespace Rows

/-- THE TIED CARD OF 'modcertlaw05.ParserModules'. -/
def parserModulesCard : Claim7 := { stood := { row := parserModulesRow, standIns := [], harness := (true, "a679378e0f47ce08780b36d44421d505cb42da38c6aa7107c5796f77ea77d0f6"), looks := true }, kinds := [], alts := [], laidByText := true, laidKinds := [.data, .data, .data, .data, .sentinel, .sentinel, .pinned], laidTests := true, laidLooks := .later }
def ParserModulesCardSaid : Prop := Claim7.holds Tryz.pinned (.plain (OpenSpec.ofChange parserModulesSpec)) parserModulesCard

/-- THE TIED CARD OF 'modcertlaw05.ParserForms'. -/
def parserFormsCard : Claim7 := { stood := { row := parserFormsRow, standIns := [], harness := (true, "a679378e0f47ce08780b36d44421d505cb42da38c6aa7107c5796f77ea77d0f6"), looks := true }, kinds := [], alts := [], laidByText := true, laidKinds := [.data, .data, .data, .data, .sentinel, .sentinel, .pinned], laidTests := true, laidLooks := .later }
def ParserFormsCardSaid : Prop := Claim7.holds Tryz.pinned (.plain (OpenSpec.ofChange parserFormsSpec)) parserFormsCard

/-- THE TIED CARD OF 'modcertlaw05.ParserCuts'. -/
def parserCutsCard : Claim7 := { stood := { row := parserCutsRow, standIns := [], harness := (true, "a679378e0f47ce08780b36d44421d505cb42da38c6aa7107c5796f77ea77d0f6"), looks := true }, kinds := [], alts := [], laidByText := true, laidKinds := [.data, .data, .data, .data, .sentinel, .sentinel, .pinned], laidTests := true, laidLooks := .later }
def ParserCutsCardSaid : Prop := Claim7.holds Tryz.pinned (.plain (OpenSpec.ofChange parserCutsSpec)) parserCutsCard

/-- THE TIED CARD OF 'modcertlaw05.ParserBlanks'. -/
def parserBlanksCard : Claim7 := { stood := { row := parserBlanksRow, standIns := [], harness := (true, "a679378e0f47ce08780b36d44421d505cb42da38c6aa7107c5796f77ea77d0f6"), looks := true }, kinds := [], alts := [], laidByText := true, laidKinds := [.data, .data, .data, .data, .sentinel, .sentinel, .pinned], laidTests := true, laidLooks := .later }
def ParserBlanksCardSaid : Prop := Claim7.holds Tryz.pinned (.plain (OpenSpec.ofChange parserBlanksSpec)) parserBlanksCard

/-- THE SECOND FORM's CARD OF 'modcertlaw05.ParserModules'. -/
def parserModulesUptoCard : Claim7 := { stood := { row := parserModulesUptoRow, standIns := [], harness := (true, "a679378e0f47ce08780b36d44421d505cb42da38c6aa7107c5796f77ea77d0f6"), looks := true }, kinds := [], alts := [], laidByText := true, laidKinds := [.data, .data, .data, .data, .sentinel, .sentinel, .pinned], laidTests := true, laidLooks := .later }
def ParserModulesUptoCardSaid : Prop := Claim7.holds Tryz.pinned (.plain (OpenSpec.upto parserModulesSpec)) parserModulesUptoCard

/-- THE SECOND FORM's CARD OF 'modcertlaw05.ParserForms'. -/
def parserFormsUptoCard : Claim7 := { stood := { row := parserFormsUptoRow, standIns := [], harness := (true, "a679378e0f47ce08780b36d44421d505cb42da38c6aa7107c5796f77ea77d0f6"), looks := true }, kinds := [], alts := [], laidByText := true, laidKinds := [.data, .data, .data, .data, .sentinel, .sentinel, .pinned], laidTests := true, laidLooks := .later }
def ParserFormsUptoCardSaid : Prop := Claim7.holds Tryz.pinned (.plain (OpenSpec.upto parserFormsSpec)) parserFormsUptoCard

/-- THE SECOND FORM's CARD OF 'modcertlaw05.ParserCuts'. -/
def parserCutsUptoCard : Claim7 := { stood := { row := parserCutsUptoRow, standIns := [], harness := (true, "a679378e0f47ce08780b36d44421d505cb42da38c6aa7107c5796f77ea77d0f6"), looks := true }, kinds := [], alts := [], laidByText := true, laidKinds := [.data, .data, .data, .data, .sentinel, .sentinel, .pinned], laidTests := true, laidLooks := .later }
def ParserCutsUptoCardSaid : Prop := Claim7.holds Tryz.pinned (.plain (OpenSpec.upto parserCutsSpec)) parserCutsUptoCard

/-- THE SECOND FORM's CARD OF 'modcertlaw05.ParserBlanks'. -/
def parserBlanksUptoCard : Claim7 := { stood := { row := parserBlanksUptoRow, standIns := [], harness := (true, "a679378e0f47ce08780b36d44421d505cb42da38c6aa7107c5796f77ea77d0f6"), looks := true }, kinds := [], alts := [], laidByText := true, laidKinds := [.data, .data, .data, .data, .sentinel, .sentinel, .pinned], laidTests := true, laidLooks := .later }
def ParserBlanksUptoCardSaid : Prop := Claim7.holds Tryz.pinned (.plain (OpenSpec.upto parserBlanksSpec)) parserBlanksUptoCard
end Rows
end Go.Proofs.YtpejealjkmhkgaaGreatDoor
