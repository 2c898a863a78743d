/-
  DERIVED. GIVEN WITH THE SEED: THE CARDS: each row of YtbebgjodgebgkaaDoorRows.lean that lists a variable, with what it lists TIED to the program's text (the seventh form; the later family's looks); each row that meets fmt, with fmt's text TOLD by the authors' own Lean function (tested against real Go, not proved from fmt's source: count such statements apart). THE CARD IS WHAT COUNTS. Prove the row's statement (the work); the ties are given (YtbebgjodgebgkaaDoorTie.lean); close each card by the builder's one call (the guide's Derived/Test/ToyasCard.lean, 'card_holds'). Laid BY PROGRAM, IN A SANDBOX (cutbox-door.mjs). By AI agents, Wed Nov 11 2026. No macro, syntax, notation, axiom, sorry.
-/
import Derived.Test.YtbebgjodgebgkaaDoorRows
import GoSem.ClaimSeven
namespace Go.Proofs.YtbebgjodgebgkaaDoor
namespace Rows

/-- THE TIED CARD OF 'interdictlaw04.ArithOrders'. -/
def arithOrdersCard : Claim7 := { stood := { row := arithOrdersRow, standIns := [], harness := (true, "26be3400595de74ab6663ecd7113c4fc106dcb515b37a667785985cb48392a75"), looks := false }, kinds := [], alts := [], laidByText := true, laidKinds := [.data], laidTests := true, laidLooks := .later }
def ArithOrdersCardSaid : Prop := Claim7.holds Tryd.pinned (.plain (OpenSpec.ofChange arithOrdersSpec)) arithOrdersCard

/-- THE TIED CARD OF 'interdictlaw04.ArithNames'. -/
def arithNamesCard : Claim7 := { stood := { row := arithNamesRow, standIns := [], harness := (true, "26be3400595de74ab6663ecd7113c4fc106dcb515b37a667785985cb48392a75"), looks := false }, kinds := [], alts := [], laidByText := true, laidKinds := [.data], laidTests := true, laidLooks := .later }
def ArithNamesCardSaid : Prop := Claim7.holds Tryd.pinned (.plain (OpenSpec.ofChange arithNamesSpec)) arithNamesCard

/-- THE SECOND FORM's CARD OF 'interdictlaw04.ArithOrders'. -/
def arithOrdersUptoCard : Claim7 := { stood := { row := arithOrdersUptoRow, standIns := [], harness := (true, "26be3400595de74ab6663ecd7113c4fc106dcb515b37a667785985cb48392a75"), looks := false }, kinds := [], alts := [], laidByText := true, laidKinds := [.data], laidTests := true, laidLooks := .later }
def ArithOrdersUptoCardSaid : Prop := Claim7.holds Tryd.pinned (.plain (OpenSpec.upto arithOrdersSpec)) arithOrdersUptoCard

/-- THE SECOND FORM's CARD OF 'interdictlaw04.ArithNames'. -/
def arithNamesUptoCard : Claim7 := { stood := { row := arithNamesUptoRow, standIns := [], harness := (true, "26be3400595de74ab6663ecd7113c4fc106dcb515b37a667785985cb48392a75"), looks := false }, kinds := [], alts := [], laidByText := true, laidKinds := [.data], laidTests := true, laidLooks := .later }
def ArithNamesUptoCardSaid : Prop := Claim7.holds Tryd.pinned (.plain (OpenSpec.upto arithNamesSpec)) arithNamesUptoCard
end Rows
end Go.Proofs.YtbebgjodgebgkaaDoor
