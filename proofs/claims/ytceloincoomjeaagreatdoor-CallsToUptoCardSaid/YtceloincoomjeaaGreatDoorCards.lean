/-
  DERIVED. GIVEN WITH THE SEED: THE CARDS: each row of YtceloincoomjeaaGreatDoorRows.lean that lists a variable, with what it lists TIED to the program's text (the seventh form; the later family's looks); each row that meets fmt, with fmt's text TOLD by the authors' own Lean function (tested against real Go, not proved from fmt's source: count such statements apart). THE CARD IS WHAT COUNTS. Prove the row's statement (the work); the ties are given (YtceloincoomjeaaGreatDoorTie.lean); close each card by the builder's one call (the guide's Derived/Test/ToyasCard.lean, 'card_holds'). Laid BY PROGRAM, IN A SANDBOX (cutbox-door.mjs). By AI agents, Wed Nov 11 2026. No macro, syntax, notation, axiom, sorry.
-/
import Derived.Test.YtceloincoomjeaaGreatDoorRows
import GoSem.ClaimSeven
namespace Go.Proofs.YtceloincoomjeaaGreatDoor
namespace Rows

/-- THE TIED CARD OF 'interdictlaw18.CallsTo'. -/
def callsToCard : Claim7 := { stood := { row := callsToRow, standIns := [], harness := (true, "62999f49a8cbd1b59cbc41952b803c5079447a5779f225545840fcae09907156"), looks := true }, kinds := [], alts := [], laidByText := true, laidKinds := [.data, .data], laidTests := true, laidLooks := .later }
def CallsToCardSaid : Prop := Claim7.holds Tryz.pinned (.plain (OpenSpec.ofChange callsToSpec)) callsToCard

/-- THE SECOND FORM's CARD OF 'interdictlaw18.CallsTo'. -/
def callsToUptoCard : Claim7 := { stood := { row := callsToUptoRow, standIns := [], harness := (true, "62999f49a8cbd1b59cbc41952b803c5079447a5779f225545840fcae09907156"), looks := true }, kinds := [], alts := [], laidByText := true, laidKinds := [.data, .data], laidTests := true, laidLooks := .later }
def CallsToUptoCardSaid : Prop := Claim7.holds Tryz.pinned (.plain (OpenSpec.upto callsToSpec)) callsToUptoCard
end Rows
end Go.Proofs.YtceloincoomjeaaGreatDoor
