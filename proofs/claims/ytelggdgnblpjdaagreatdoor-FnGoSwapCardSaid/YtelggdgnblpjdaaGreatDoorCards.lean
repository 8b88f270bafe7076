/-
  DERIVED. GIVEN WITH THE SEED: THE CARDS: each row of YtelggdgnblpjdaaGreatDoorRows.lean that lists a variable, with what it lists TIED to the program's text (the seventh form; the later family's looks); each row that meets fmt, with fmt's text TOLD by the authors' own Lean function (tested against real Go, not proved from fmt's source: count such statements apart). THE CARD IS WHAT COUNTS. Prove the row's statement (the work); the ties are given (YtelggdgnblpjdaaGreatDoorTie.lean); close each card by the builder's one call (the guide's Derived/Test/ToyasCard.lean, 'card_holds'). Laid BY PROGRAM, IN A SANDBOX (cutbox-door.mjs). By AI agents, Wed Nov 11 2026. No macro, syntax, notation, axiom, sorry.
-/
import Derived.Test.YtelggdgnblpjdaaGreatDoorRows
import GoSem.ClaimSeven
namespace Go.Proofs.YtelggdgnblpjdaaGreatDoor
namespace Rows

/-- THE TIED CARD OF 'laws.FnGoNone'. -/
def fnGoNoneCard : Claim7 := { stood := { row := fnGoNoneRow, standIns := [], harness := (true, "bd0267698ac3c5cbc345b75f52a24bc9d52cde5e4d65ec983ffe5f04b7f2c726"), looks := true }, kinds := [], alts := [], laidByText := true, laidKinds := [.data, .sentinel, .pinned], laidTests := true, laidLooks := .later }
def FnGoNoneCardSaid : Prop := Claim7.holds Tryz.pinned (.plain (OpenSpec.ofChange fnGoNoneSpec)) fnGoNoneCard

/-- THE TIED CARD OF 'laws.FnGoSwap'. -/
def fnGoSwapCard : Claim7 := { stood := { row := fnGoSwapRow, standIns := [], harness := (true, "bd0267698ac3c5cbc345b75f52a24bc9d52cde5e4d65ec983ffe5f04b7f2c726"), looks := true }, kinds := [], alts := [], laidByText := true, laidKinds := [.data, .sentinel, .pinned], laidTests := true, laidLooks := .later }
def FnGoSwapCardSaid : Prop := Claim7.holds Tryz.pinned (.plain (OpenSpec.ofChange fnGoSwapSpec)) fnGoSwapCard

/-- THE TIED CARD OF 'laws.FnGoSeen'. -/
def fnGoSeenCard : Claim7 := { stood := { row := fnGoSeenRow, standIns := [], harness := (true, "bd0267698ac3c5cbc345b75f52a24bc9d52cde5e4d65ec983ffe5f04b7f2c726"), looks := true }, kinds := [], alts := [], laidByText := true, laidKinds := [.data, .sentinel, .pinned], laidTests := true, laidLooks := .later }
def FnGoSeenCardSaid : Prop := Claim7.holds Tryz.pinned (.plain (OpenSpec.ofChange fnGoSeenSpec)) fnGoSeenCard

/-- THE TIED CARD OF 'laws.FnGoEnd'. -/
def fnGoEndCard : Claim7 := { stood := { row := fnGoEndRow, standIns := [], harness := (true, "bd0267698ac3c5cbc345b75f52a24bc9d52cde5e4d65ec983ffe5f04b7f2c726"), looks := true }, kinds := [], alts := [], laidByText := true, laidKinds := [.data, .sentinel, .pinned], laidTests := true, laidLooks := .later }
def FnGoEndCardSaid : Prop := Claim7.holds Tryz.pinned (.plain (OpenSpec.ofChange fnGoEndSpec)) fnGoEndCard

/-- THE TIED CARD OF 'laws.FnGoTop'. -/
def fnGoTopCard : Claim7 := { stood := { row := fnGoTopRow, standIns := [], harness := (true, "bd0267698ac3c5cbc345b75f52a24bc9d52cde5e4d65ec983ffe5f04b7f2c726"), looks := true }, kinds := [], alts := [], laidByText := true, laidKinds := [.data, .sentinel, .pinned], laidTests := true, laidLooks := .later }
def FnGoTopCardSaid : Prop := Claim7.holds Tryz.pinned (.plain (OpenSpec.ofChange fnGoTopSpec)) fnGoTopCard

/-- THE SECOND FORM's CARD OF 'laws.FnGoNone'. -/
def fnGoNoneUptoCard : Claim7 := { stood := { row := fnGoNoneUptoRow, standIns := [], harness := (true, "bd0267698ac3c5cbc345b75f52a24bc9d52cde5e4d65ec983ffe5f04b7f2c726"), looks := true }, kinds := [], alts := [], laidByText := true, laidKinds := [.data, .sentinel, .pinned], laidTests := true, laidLooks := .later }
def FnGoNoneUptoCardSaid : Prop := Claim7.holds Tryz.pinned (.plain (OpenSpec.upto fnGoNoneSpec)) fnGoNoneUptoCard

/-- THE SECOND FORM's CARD OF 'laws.FnGoSwap'. -/
def fnGoSwapUptoCard : Claim7 := { stood := { row := fnGoSwapUptoRow, standIns := [], harness := (true, "bd0267698ac3c5cbc345b75f52a24bc9d52cde5e4d65ec983ffe5f04b7f2c726"), looks := true }, kinds := [], alts := [], laidByText := true, laidKinds := [.data, .sentinel, .pinned], laidTests := true, laidLooks := .later }
def FnGoSwapUptoCardSaid : Prop := Claim7.holds Tryz.pinned (.plain (OpenSpec.upto fnGoSwapSpec)) fnGoSwapUptoCard

/-- THE SECOND FORM's CARD OF 'laws.FnGoSeen'. -/
def fnGoSeenUptoCard : Claim7 := { stood := { row := fnGoSeenUptoRow, standIns := [], harness := (true, "bd0267698ac3c5cbc345b75f52a24bc9d52cde5e4d65ec983ffe5f04b7f2c726"), looks := true }, kinds := [], alts := [], laidByText := true, laidKinds := [.data, .sentinel, .pinned], laidTests := true, laidLooks := .later }
def FnGoSeenUptoCardSaid : Prop := Claim7.holds Tryz.pinned (.plain (OpenSpec.upto fnGoSeenSpec)) fnGoSeenUptoCard

/-- THE SECOND FORM's CARD OF 'laws.FnGoEnd'. -/
def fnGoEndUptoCard : Claim7 := { stood := { row := fnGoEndUptoRow, standIns := [], harness := (true, "bd0267698ac3c5cbc345b75f52a24bc9d52cde5e4d65ec983ffe5f04b7f2c726"), looks := true }, kinds := [], alts := [], laidByText := true, laidKinds := [.data, .sentinel, .pinned], laidTests := true, laidLooks := .later }
def FnGoEndUptoCardSaid : Prop := Claim7.holds Tryz.pinned (.plain (OpenSpec.upto fnGoEndSpec)) fnGoEndUptoCard

/-- THE SECOND FORM's CARD OF 'laws.FnGoTop'. -/
def fnGoTopUptoCard : Claim7 := { stood := { row := fnGoTopUptoRow, standIns := [], harness := (true, "bd0267698ac3c5cbc345b75f52a24bc9d52cde5e4d65ec983ffe5f04b7f2c726"), looks := true }, kinds := [], alts := [], laidByText := true, laidKinds := [.data, .sentinel, .pinned], laidTests := true, laidLooks := .later }
def FnGoTopUptoCardSaid : Prop := Claim7.holds Tryz.pinned (.plain (OpenSpec.upto fnGoTopSpec)) fnGoTopUptoCard
end Rows
end Go.Proofs.YtelggdgnblpjdaaGreatDoor
