/-
  DERIVED. GIVEN WITH THE SEED: THE CARDS: each row of YtccbbkopmlnkpaaGreatDoorRows.lean that lists a variable, with what it lists TIED to the program's text (the seventh form; the later family's looks); each row that meets fmt, with fmt's text TOLD by the authors' own Lean function (tested against real Go, not proved from fmt's source: count such statements apart). THE CARD IS WHAT COUNTS. Prove the row's statement (the work); the ties are given (YtccbbkopmlnkpaaGreatDoorTie.lean); close each card by the builder's one call (the guide's Derived/Test/ToyasCard.lean, 'card_holds'). Laid BY PROGRAM, IN A SANDBOX (cutbox-door.mjs). By AI agents, Wed Nov 11 2026. No macro, syntax, notation, axiom, sorry.
-/
import Derived.Test.YtccbbkopmlnkpaaGreatDoorRows
import GoSem.ClaimSeven
namespace Go.Proofs.YtccbbkopmlnkpaaGreatDoor
namespace Rows

/-- THE TIED CARD OF 'interdictlaw13.SsaTurned'. -/
def ssaTurnedCard : Claim7 := { stood := { row := ssaTurnedRow, standIns := [], harness := (true, "28aee7bb41b0cdd50ead1dd4a7be53e49c70fc21b70b73a4842c6fefe5638be7"), looks := true }, kinds := [], alts := [], laidByText := true, laidKinds := [.data, .data, .data, .pinned], laidTests := true, laidLooks := .later }
def SsaTurnedCardSaid : Prop := Claim7.holds Tryz.pinned (.plain (OpenSpec.ofChange ssaTurnedSpec)) ssaTurnedCard

/-- THE TIED CARD OF 'interdictlaw13.SsaChecks'. -/
def ssaChecksCard : Claim7 := { stood := { row := ssaChecksRow, standIns := [], harness := (true, "28aee7bb41b0cdd50ead1dd4a7be53e49c70fc21b70b73a4842c6fefe5638be7"), looks := true }, kinds := [], alts := [], laidByText := true, laidKinds := [.data, .data, .data, .pinned], laidTests := true, laidLooks := .later }
def SsaChecksCardSaid : Prop := Claim7.holds Tryz.pinned (.plain (OpenSpec.ofChange ssaChecksSpec)) ssaChecksCard

/-- THE TIED CARD OF 'interdictlaw13.SsaPaths'. -/
def ssaPathsCard : Claim7 := { stood := { row := ssaPathsRow, standIns := [], harness := (true, "28aee7bb41b0cdd50ead1dd4a7be53e49c70fc21b70b73a4842c6fefe5638be7"), looks := true }, kinds := [], alts := [], laidByText := true, laidKinds := [.data, .data, .data, .pinned], laidTests := true, laidLooks := .later }
def SsaPathsCardSaid : Prop := Claim7.holds Tryz.pinned (.plain (OpenSpec.ofChange ssaPathsSpec)) ssaPathsCard

/-- THE TIED CARD OF 'interdictlaw13.SsaRound'. -/
def ssaRoundCard : Claim7 := { stood := { row := ssaRoundRow, standIns := [], harness := (true, "28aee7bb41b0cdd50ead1dd4a7be53e49c70fc21b70b73a4842c6fefe5638be7"), looks := true }, kinds := [], alts := [], laidByText := true, laidKinds := [.data, .data, .data, .pinned], laidTests := true, laidLooks := .later }
def SsaRoundCardSaid : Prop := Claim7.holds Tryz.pinned (.plain (OpenSpec.ofChange ssaRoundSpec)) ssaRoundCard

/-- THE SECOND FORM's CARD OF 'interdictlaw13.SsaTurned'. -/
def ssaTurnedUptoCard : Claim7 := { stood := { row := ssaTurnedUptoRow, standIns := [], harness := (true, "28aee7bb41b0cdd50ead1dd4a7be53e49c70fc21b70b73a4842c6fefe5638be7"), looks := true }, kinds := [], alts := [], laidByText := true, laidKinds := [.data, .data, .data, .pinned], laidTests := true, laidLooks := .later }
def SsaTurnedUptoCardSaid : Prop := Claim7.holds Tryz.pinned (.plain (OpenSpec.upto ssaTurnedSpec)) ssaTurnedUptoCard

/-- THE SECOND FORM's CARD OF 'interdictlaw13.SsaChecks'. -/
def ssaChecksUptoCard : Claim7 := { stood := { row := ssaChecksUptoRow, standIns := [], harness := (true, "28aee7bb41b0cdd50ead1dd4a7be53e49c70fc21b70b73a4842c6fefe5638be7"), looks := true }, kinds := [], alts := [], laidByText := true, laidKinds := [.data, .data, .data, .pinned], laidTests := true, laidLooks := .later }
def SsaChecksUptoCardSaid : Prop := Claim7.holds Tryz.pinned (.plain (OpenSpec.upto ssaChecksSpec)) ssaChecksUptoCard

/-- THE SECOND FORM's CARD OF 'interdictlaw13.SsaPaths'. -/
def ssaPathsUptoCard : Claim7 := { stood := { row := ssaPathsUptoRow, standIns := [], harness := (true, "28aee7bb41b0cdd50ead1dd4a7be53e49c70fc21b70b73a4842c6fefe5638be7"), looks := true }, kinds := [], alts := [], laidByText := true, laidKinds := [.data, .data, .data, .pinned], laidTests := true, laidLooks := .later }
def SsaPathsUptoCardSaid : Prop := Claim7.holds Tryz.pinned (.plain (OpenSpec.upto ssaPathsSpec)) ssaPathsUptoCard

/-- THE SECOND FORM's CARD OF 'interdictlaw13.SsaRound'. -/
def ssaRoundUptoCard : Claim7 := { stood := { row := ssaRoundUptoRow, standIns := [], harness := (true, "28aee7bb41b0cdd50ead1dd4a7be53e49c70fc21b70b73a4842c6fefe5638be7"), looks := true }, kinds := [], alts := [], laidByText := true, laidKinds := [.data, .data, .data, .pinned], laidTests := true, laidLooks := .later }
def SsaRoundUptoCardSaid : Prop := Claim7.holds Tryz.pinned (.plain (OpenSpec.upto ssaRoundSpec)) ssaRoundUptoCard
end Rows
end Go.Proofs.YtccbbkopmlnkpaaGreatDoor
