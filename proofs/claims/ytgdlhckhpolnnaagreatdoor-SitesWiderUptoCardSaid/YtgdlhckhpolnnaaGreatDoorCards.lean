/-
  DERIVED. GIVEN WITH THE SEED: THE CARDS: each row of YtgdlhckhpolnnaaGreatDoorRows.lean that lists a variable, with what it lists TIED to the program's text (the seventh form; the later family's looks); each row that meets fmt, with fmt's text TOLD by the authors' own Lean function (tested against real Go, not proved from fmt's source: count such statements apart). THE CARD IS WHAT COUNTS. Prove the row's statement (the work); the ties are given (YtgdlhckhpolnnaaGreatDoorTie.lean); close each card by the builder's one call (the guide's Derived/Test/ToyasCard.lean, 'card_holds'). Laid BY PROGRAM, IN A SANDBOX (cutbox-door.mjs). By AI agents, Wed Nov 11 2026. No macro, syntax, notation, axiom, sorry.
-/
import Derived.Test.YtgdlhckhpolnnaaGreatDoorRows
import GoSem.ClaimSeven
namespace Go.Proofs.YtgdlhckhpolnnaaGreatDoor
namespace Rows

/-- THE TIED CARD OF 'interdictlaw14.SitesAll'. -/
def sitesAllCard : Claim7 := { stood := { row := sitesAllRow, standIns := [], harness := (true, "0257241cb30bc96038a900f08eeca6eb07c9190bbf6d3afd385bdbe3694226ff"), looks := true }, kinds := [], alts := [], laidByText := true, laidKinds := [.data, .data, .data, .pinned], laidTests := true, laidLooks := .later }
def SitesAllCardSaid : Prop := Claim7.holds Tryz.pinned (.plain (OpenSpec.ofChange sitesAllSpec)) sitesAllCard

/-- THE TIED CARD OF 'interdictlaw14.SitesSafe'. -/
def sitesSafeCard : Claim7 := { stood := { row := sitesSafeRow, standIns := [], harness := (true, "0257241cb30bc96038a900f08eeca6eb07c9190bbf6d3afd385bdbe3694226ff"), looks := true }, kinds := [], alts := [], laidByText := true, laidKinds := [.data, .data, .data, .pinned], laidTests := true, laidLooks := .later }
def SitesSafeCardSaid : Prop := Claim7.holds Tryz.pinned (.plain (OpenSpec.ofChange sitesSafeSpec)) sitesSafeCard

/-- THE TIED CARD OF 'interdictlaw14.SitesWider'. -/
def sitesWiderCard : Claim7 := { stood := { row := sitesWiderRow, standIns := [], harness := (true, "0257241cb30bc96038a900f08eeca6eb07c9190bbf6d3afd385bdbe3694226ff"), looks := true }, kinds := [], alts := [], laidByText := true, laidKinds := [.data, .data, .data, .pinned], laidTests := true, laidLooks := .later }
def SitesWiderCardSaid : Prop := Claim7.holds Tryz.pinned (.plain (OpenSpec.ofChange sitesWiderSpec)) sitesWiderCard

/-- THE TIED CARD OF 'interdictlaw14.SitesKinds'. -/
def sitesKindsCard : Claim7 := { stood := { row := sitesKindsRow, standIns := [], harness := (true, "0257241cb30bc96038a900f08eeca6eb07c9190bbf6d3afd385bdbe3694226ff"), looks := true }, kinds := [], alts := [], laidByText := true, laidKinds := [.data, .data, .data, .pinned], laidTests := true, laidLooks := .later }
def SitesKindsCardSaid : Prop := Claim7.holds Tryz.pinned (.plain (OpenSpec.ofChange sitesKindsSpec)) sitesKindsCard

/-- THE SECOND FORM's CARD OF 'interdictlaw14.SitesAll'. -/
def sitesAllUptoCard : Claim7 := { stood := { row := sitesAllUptoRow, standIns := [], harness := (true, "0257241cb30bc96038a900f08eeca6eb07c9190bbf6d3afd385bdbe3694226ff"), looks := true }, kinds := [], alts := [], laidByText := true, laidKinds := [.data, .data, .data, .pinned], laidTests := true, laidLooks := .later }
def SitesAllUptoCardSaid : Prop := Claim7.holds Tryz.pinned (.plain (OpenSpec.upto sitesAllSpec)) sitesAllUptoCard

/-- THE SECOND FORM's CARD OF 'interdictlaw14.SitesSafe'. -/
def sitesSafeUptoCard : Claim7 := { stood := { row := sitesSafeUptoRow, standIns := [], harness := (true, "0257241cb30bc96038a900f08eeca6eb07c9190bbf6d3afd385bdbe3694226ff"), looks := true }, kinds := [], alts := [], laidByText := true, laidKinds := [.data, .data, .data, .pinned], laidTests := true, laidLooks := .later }
def SitesSafeUptoCardSaid : Prop := Claim7.holds Tryz.pinned (.plain (OpenSpec.upto sitesSafeSpec)) sitesSafeUptoCard

/-- THE SECOND FORM's CARD OF 'interdictlaw14.SitesWider'. -/
def sitesWiderUptoCard : Claim7 := { stood := { row := sitesWiderUptoRow, standIns := [], harness := (true, "0257241cb30bc96038a900f08eeca6eb07c9190bbf6d3afd385bdbe3694226ff"), looks := true }, kinds := [], alts := [], laidByText := true, laidKinds := [.data, .data, .data, .pinned], laidTests := true, laidLooks := .later }
def SitesWiderUptoCardSaid : Prop := Claim7.holds Tryz.pinned (.plain (OpenSpec.upto sitesWiderSpec)) sitesWiderUptoCard

/-- THE SECOND FORM's CARD OF 'interdictlaw14.SitesKinds'. -/
def sitesKindsUptoCard : Claim7 := { stood := { row := sitesKindsUptoRow, standIns := [], harness := (true, "0257241cb30bc96038a900f08eeca6eb07c9190bbf6d3afd385bdbe3694226ff"), looks := true }, kinds := [], alts := [], laidByText := true, laidKinds := [.data, .data, .data, .pinned], laidTests := true, laidLooks := .later }
def SitesKindsUptoCardSaid : Prop := Claim7.holds Tryz.pinned (.plain (OpenSpec.upto sitesKindsSpec)) sitesKindsUptoCard
end Rows
end Go.Proofs.YtgdlhckhpolnnaaGreatDoor
