/-
  DERIVED. GIVEN WITH THE SEED: THE CARDS: each row of YtencelmnogiamaaGreatDoorRows.lean that lists a variable, with what it lists TIED to the program's text (the seventh form; the later family's looks); each row that meets fmt, with fmt's text TOLD by the authors' own Lean function (tested against real Go, not proved from fmt's source: count such statements apart). THE CARD IS WHAT COUNTS. Prove the row's statement (the work); the ties are given (YtencelmnogiamaaGreatDoorTie.lean); close each card by the builder's one call (the guide's Derived/Test/ToyasCard.lean, 'card_holds'). Laid BY PROGRAM, IN A SANDBOX (cutbox-door.mjs). By AI agents, Wed Nov 11 2026. No macro, syntax, notation, axiom, sorry.
-/
import Derived.Test.YtencelmnogiamaaGreatDoorRows
import GoSem.ClaimSeven
namespace Go.Proofs.YtencelmnogiamaaGreatDoor
namespace Rows

/-- THE TIED CARD OF 'laws.FnExactWorldReach'. -/
def fnExactWorldReachCard : Claim7 := { stood := { row := fnExactWorldReachRow, standIns := [], harness := (true, "4a974c8493bd74bb2fbd3ad2fdecf81a6a6d593d7ff1e24642cadbe5817ecccf"), looks := true }, kinds := [], alts := [], laidByText := true, laidKinds := [.data, .pinned], laidTests := true, laidLooks := .later }
def FnExactWorldReachCardSaid : Prop := Claim7.holds Tryz.pinned (.plain (OpenSpec.ofChange fnExactWorldReachSpec)) fnExactWorldReachCard

/-- THE TIED CARD OF 'laws.FnReachFewer'. -/
def fnReachFewerCard : Claim7 := { stood := { row := fnReachFewerRow, standIns := [], harness := (true, "4a974c8493bd74bb2fbd3ad2fdecf81a6a6d593d7ff1e24642cadbe5817ecccf"), looks := true }, kinds := [], alts := [], laidByText := true, laidKinds := [.data, .pinned], laidTests := true, laidLooks := .later }
def FnReachFewerCardSaid : Prop := Claim7.holds Tryz.pinned (.plain (OpenSpec.ofChange fnReachFewerSpec)) fnReachFewerCard

/-- THE TIED CARD OF 'laws.FnReachLeast'. -/
def fnReachLeastCard : Claim7 := { stood := { row := fnReachLeastRow, standIns := [], harness := (true, "4a974c8493bd74bb2fbd3ad2fdecf81a6a6d593d7ff1e24642cadbe5817ecccf"), looks := true }, kinds := [], alts := [], laidByText := true, laidKinds := [.data, .pinned], laidTests := true, laidLooks := .later }
def FnReachLeastCardSaid : Prop := Claim7.holds Tryz.pinned (.plain (OpenSpec.ofChange fnReachLeastSpec)) fnReachLeastCard

/-- THE TIED CARD OF 'laws.FnReachMore'. -/
def fnReachMoreCard : Claim7 := { stood := { row := fnReachMoreRow, standIns := [], harness := (true, "4a974c8493bd74bb2fbd3ad2fdecf81a6a6d593d7ff1e24642cadbe5817ecccf"), looks := true }, kinds := [], alts := [], laidByText := true, laidKinds := [.data, .pinned], laidTests := true, laidLooks := .later }
def FnReachMoreCardSaid : Prop := Claim7.holds Tryz.pinned (.plain (OpenSpec.ofChange fnReachMoreSpec)) fnReachMoreCard

/-- THE TIED CARD OF 'laws.FnReachSeeds'. -/
def fnReachSeedsCard : Claim7 := { stood := { row := fnReachSeedsRow, standIns := [], harness := (true, "4a974c8493bd74bb2fbd3ad2fdecf81a6a6d593d7ff1e24642cadbe5817ecccf"), looks := true }, kinds := [], alts := [], laidByText := true, laidKinds := [.data, .pinned], laidTests := true, laidLooks := .later }
def FnReachSeedsCardSaid : Prop := Claim7.holds Tryz.pinned (.plain (OpenSpec.ofChange fnReachSeedsSpec)) fnReachSeedsCard

/-- THE TIED CARD OF 'laws.FnReachOn'. -/
def fnReachOnCard : Claim7 := { stood := { row := fnReachOnRow, standIns := [], harness := (true, "4a974c8493bd74bb2fbd3ad2fdecf81a6a6d593d7ff1e24642cadbe5817ecccf"), looks := true }, kinds := [], alts := [], laidByText := true, laidKinds := [.data, .pinned], laidTests := true, laidLooks := .later }
def FnReachOnCardSaid : Prop := Claim7.holds Tryz.pinned (.plain (OpenSpec.ofChange fnReachOnSpec)) fnReachOnCard

/-- THE TIED CARD OF 'laws.FnReachLets'. -/
def fnReachLetsCard : Claim7 := { stood := { row := fnReachLetsRow, standIns := [], harness := (true, "4a974c8493bd74bb2fbd3ad2fdecf81a6a6d593d7ff1e24642cadbe5817ecccf"), looks := true }, kinds := [], alts := [], laidByText := true, laidKinds := [.data, .pinned], laidTests := true, laidLooks := .later }
def FnReachLetsCardSaid : Prop := Claim7.holds Tryz.pinned (.plain (OpenSpec.ofChange fnReachLetsSpec)) fnReachLetsCard

/-- THE SECOND FORM's CARD OF 'laws.FnExactWorldReach'. -/
def fnExactWorldReachUptoCard : Claim7 := { stood := { row := fnExactWorldReachUptoRow, standIns := [], harness := (true, "4a974c8493bd74bb2fbd3ad2fdecf81a6a6d593d7ff1e24642cadbe5817ecccf"), looks := true }, kinds := [], alts := [], laidByText := true, laidKinds := [.data, .pinned], laidTests := true, laidLooks := .later }
def FnExactWorldReachUptoCardSaid : Prop := Claim7.holds Tryz.pinned (.plain (OpenSpec.upto fnExactWorldReachSpec)) fnExactWorldReachUptoCard

/-- THE SECOND FORM's CARD OF 'laws.FnReachFewer'. -/
def fnReachFewerUptoCard : Claim7 := { stood := { row := fnReachFewerUptoRow, standIns := [], harness := (true, "4a974c8493bd74bb2fbd3ad2fdecf81a6a6d593d7ff1e24642cadbe5817ecccf"), looks := true }, kinds := [], alts := [], laidByText := true, laidKinds := [.data, .pinned], laidTests := true, laidLooks := .later }
def FnReachFewerUptoCardSaid : Prop := Claim7.holds Tryz.pinned (.plain (OpenSpec.upto fnReachFewerSpec)) fnReachFewerUptoCard

/-- THE SECOND FORM's CARD OF 'laws.FnReachLeast'. -/
def fnReachLeastUptoCard : Claim7 := { stood := { row := fnReachLeastUptoRow, standIns := [], harness := (true, "4a974c8493bd74bb2fbd3ad2fdecf81a6a6d593d7ff1e24642cadbe5817ecccf"), looks := true }, kinds := [], alts := [], laidByText := true, laidKinds := [.data, .pinned], laidTests := true, laidLooks := .later }
def FnReachLeastUptoCardSaid : Prop := Claim7.holds Tryz.pinned (.plain (OpenSpec.upto fnReachLeastSpec)) fnReachLeastUptoCard

/-- THE SECOND FORM's CARD OF 'laws.FnReachMore'. -/
def fnReachMoreUptoCard : Claim7 := { stood := { row := fnReachMoreUptoRow, standIns := [], harness := (true, "4a974c8493bd74bb2fbd3ad2fdecf81a6a6d593d7ff1e24642cadbe5817ecccf"), looks := true }, kinds := [], alts := [], laidByText := true, laidKinds := [.data, .pinned], laidTests := true, laidLooks := .later }
def FnReachMoreUptoCardSaid : Prop := Claim7.holds Tryz.pinned (.plain (OpenSpec.upto fnReachMoreSpec)) fnReachMoreUptoCard

/-- THE SECOND FORM's CARD OF 'laws.FnReachSeeds'. -/
def fnReachSeedsUptoCard : Claim7 := { stood := { row := fnReachSeedsUptoRow, standIns := [], harness := (true, "4a974c8493bd74bb2fbd3ad2fdecf81a6a6d593d7ff1e24642cadbe5817ecccf"), looks := true }, kinds := [], alts := [], laidByText := true, laidKinds := [.data, .pinned], laidTests := true, laidLooks := .later }
def FnReachSeedsUptoCardSaid : Prop := Claim7.holds Tryz.pinned (.plain (OpenSpec.upto fnReachSeedsSpec)) fnReachSeedsUptoCard

/-- THE SECOND FORM's CARD OF 'laws.FnReachOn'. -/
def fnReachOnUptoCard : Claim7 := { stood := { row := fnReachOnUptoRow, standIns := [], harness := (true, "4a974c8493bd74bb2fbd3ad2fdecf81a6a6d593d7ff1e24642cadbe5817ecccf"), looks := true }, kinds := [], alts := [], laidByText := true, laidKinds := [.data, .pinned], laidTests := true, laidLooks := .later }
def FnReachOnUptoCardSaid : Prop := Claim7.holds Tryz.pinned (.plain (OpenSpec.upto fnReachOnSpec)) fnReachOnUptoCard

/-- THE SECOND FORM's CARD OF 'laws.FnReachLets'. -/
def fnReachLetsUptoCard : Claim7 := { stood := { row := fnReachLetsUptoRow, standIns := [], harness := (true, "4a974c8493bd74bb2fbd3ad2fdecf81a6a6d593d7ff1e24642cadbe5817ecccf"), looks := true }, kinds := [], alts := [], laidByText := true, laidKinds := [.data, .pinned], laidTests := true, laidLooks := .later }
def FnReachLetsUptoCardSaid : Prop := Claim7.holds Tryz.pinned (.plain (OpenSpec.upto fnReachLetsSpec)) fnReachLetsUptoCard
end Rows
end Go.Proofs.YtencelmnogiamaaGreatDoor
