/-
  DERIVED. GIVEN WITH THE SEED: THE CARDS: each row of YtncdbjponknakaaGreatDoorRows.lean that lists a variable, with what it lists TIED to the program's text (the seventh form; the later family's looks); each row that meets fmt, with fmt's text TOLD by the authors' own Lean function (tested against real Go, not proved from fmt's source: count such statements apart). THE CARD IS WHAT COUNTS. Prove the row's statement (the work); the ties are given (YtncdbjponknakaaGreatDoorTie.lean); close each card by the builder's one call (the guide's Derived/Test/ToyasCard.lean, 'card_holds'). Laid BY PROGRAM, IN A SANDBOX (cutbox-door.mjs). By AI agents, Wed Nov 11 2026. No macro, syntax, notation, axiom, sorry.
-/
import Derived.Test.YtncdbjponknakaaGreatDoorRows
import GoSem.ClaimSeven
namespace Go.Proofs.YtncdbjponknakaaGreatDoor
namespace Rows

/-- THE TIED CARD OF 'interdictlaw18.CallsShallow'. -/
def callsShallowCard : Claim7 := { stood := { row := callsShallowRow, standIns := [], harness := (true, "17cdc7a050c8d6794d2b4ba5f3fdc4503ea9179ae20f0f9eb672a344338ea728"), looks := true }, kinds := [], alts := [], laidByText := true, laidKinds := [.data, .data], laidTests := true, laidLooks := .later }
def CallsShallowCardSaid : Prop := Claim7.holds Tryz.pinned (.plain (OpenSpec.ofChange callsShallowSpec)) callsShallowCard

/-- THE SECOND FORM's CARD OF 'interdictlaw18.CallsShallow'. -/
def callsShallowUptoCard : Claim7 := { stood := { row := callsShallowUptoRow, standIns := [], harness := (true, "17cdc7a050c8d6794d2b4ba5f3fdc4503ea9179ae20f0f9eb672a344338ea728"), looks := true }, kinds := [], alts := [], laidByText := true, laidKinds := [.data, .data], laidTests := true, laidLooks := .later }
def CallsShallowUptoCardSaid : Prop := Claim7.holds Tryz.pinned (.plain (OpenSpec.upto callsShallowSpec)) callsShallowUptoCard
end Rows
end Go.Proofs.YtncdbjponknakaaGreatDoor
