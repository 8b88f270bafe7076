/-
  DERIVED. GIVEN WITH THE SEED: THE CARDS: each row of YtbjbamjffkanbaaGreatDoorRows.lean that lists a variable, with what it lists TIED to the program's text (the seventh form; the later family's looks); each row that meets fmt, with fmt's text TOLD by the authors' own Lean function (tested against real Go, not proved from fmt's source: count such statements apart). THE CARD IS WHAT COUNTS. Prove the row's statement (the work); the ties are given (YtbjbamjffkanbaaGreatDoorTie.lean); close each card by the builder's one call (the guide's Derived/Test/ToyasCard.lean, 'card_holds'). Laid BY PROGRAM, IN A SANDBOX (cutbox-door.mjs). By AI agents, Wed Nov 11 2026. No macro, syntax, notation, axiom, sorry.
-/
import Derived.Test.YtbjbamjffkanbaaGreatDoorRows
import GoSem.ClaimSeven
namespace Go.Proofs.YtbjbamjffkanbaaGreatDoor
namespace Rows

/-- THE TIED CARD OF 'laws.FnGoBarred'. -/
def fnGoBarredCard : Claim7 := { stood := { row := fnGoBarredRow, standIns := [], harness := (true, "16e118b5155b7b11bee3017827cfe482af71541868a11eb0c882522f6f12ad60"), looks := true }, kinds := [], alts := [], laidByText := true, laidKinds := [.data, .sentinel, .pinned], laidTests := true, laidLooks := .later }
def FnGoBarredCardSaid : Prop := Claim7.holds Tryz.pinned (.plain (OpenSpec.ofChange fnGoBarredSpec)) fnGoBarredCard

/-- THE TIED CARD OF 'laws.FnGoWaitAll'. -/
def fnGoWaitAllCard : Claim7 := { stood := { row := fnGoWaitAllRow, standIns := [], harness := (true, "16e118b5155b7b11bee3017827cfe482af71541868a11eb0c882522f6f12ad60"), looks := true }, kinds := [], alts := [], laidByText := true, laidKinds := [.data, .sentinel, .pinned], laidTests := true, laidLooks := .later }
def FnGoWaitAllCardSaid : Prop := Claim7.holds Tryz.pinned (.plain (OpenSpec.ofChange fnGoWaitAllSpec)) fnGoWaitAllCard

/-- THE TIED CARD OF 'laws.FnGoHouses'. -/
def fnGoHousesCard : Claim7 := { stood := { row := fnGoHousesRow, standIns := [], harness := (true, "16e118b5155b7b11bee3017827cfe482af71541868a11eb0c882522f6f12ad60"), looks := true }, kinds := [], alts := [], laidByText := true, laidKinds := [.data, .sentinel, .pinned], laidTests := true, laidLooks := .later }
def FnGoHousesCardSaid : Prop := Claim7.holds Tryz.pinned (.plain (OpenSpec.ofChange fnGoHousesSpec)) fnGoHousesCard

/-- THE TIED CARD OF 'laws.FnGoLets'. -/
def fnGoLetsCard : Claim7 := { stood := { row := fnGoLetsRow, standIns := [], harness := (true, "16e118b5155b7b11bee3017827cfe482af71541868a11eb0c882522f6f12ad60"), looks := true }, kinds := [], alts := [], laidByText := true, laidKinds := [.data, .sentinel, .pinned], laidTests := true, laidLooks := .later }
def FnGoLetsCardSaid : Prop := Claim7.holds Tryz.pinned (.plain (OpenSpec.ofChange fnGoLetsSpec)) fnGoLetsCard

/-- THE TIED CARD OF 'laws.FnGoGroup'. -/
def fnGoGroupCard : Claim7 := { stood := { row := fnGoGroupRow, standIns := [], harness := (true, "16e118b5155b7b11bee3017827cfe482af71541868a11eb0c882522f6f12ad60"), looks := true }, kinds := [], alts := [], laidByText := true, laidKinds := [.data, .sentinel, .pinned], laidTests := true, laidLooks := .later }
def FnGoGroupCardSaid : Prop := Claim7.holds Tryz.pinned (.plain (OpenSpec.ofChange fnGoGroupSpec)) fnGoGroupCard

/-- THE TIED CARD OF 'laws.FnGoLess'. -/
def fnGoLessCard : Claim7 := { stood := { row := fnGoLessRow, standIns := [], harness := (true, "16e118b5155b7b11bee3017827cfe482af71541868a11eb0c882522f6f12ad60"), looks := true }, kinds := [], alts := [], laidByText := true, laidKinds := [.data, .sentinel, .pinned], laidTests := true, laidLooks := .later }
def FnGoLessCardSaid : Prop := Claim7.holds Tryz.pinned (.plain (OpenSpec.ofChange fnGoLessSpec)) fnGoLessCard

/-- THE SECOND FORM's CARD OF 'laws.FnGoBarred'. -/
def fnGoBarredUptoCard : Claim7 := { stood := { row := fnGoBarredUptoRow, standIns := [], harness := (true, "16e118b5155b7b11bee3017827cfe482af71541868a11eb0c882522f6f12ad60"), looks := true }, kinds := [], alts := [], laidByText := true, laidKinds := [.data, .sentinel, .pinned], laidTests := true, laidLooks := .later }
def FnGoBarredUptoCardSaid : Prop := Claim7.holds Tryz.pinned (.plain (OpenSpec.upto fnGoBarredSpec)) fnGoBarredUptoCard

/-- THE SECOND FORM's CARD OF 'laws.FnGoWaitAll'. -/
def fnGoWaitAllUptoCard : Claim7 := { stood := { row := fnGoWaitAllUptoRow, standIns := [], harness := (true, "16e118b5155b7b11bee3017827cfe482af71541868a11eb0c882522f6f12ad60"), looks := true }, kinds := [], alts := [], laidByText := true, laidKinds := [.data, .sentinel, .pinned], laidTests := true, laidLooks := .later }
def FnGoWaitAllUptoCardSaid : Prop := Claim7.holds Tryz.pinned (.plain (OpenSpec.upto fnGoWaitAllSpec)) fnGoWaitAllUptoCard

/-- THE SECOND FORM's CARD OF 'laws.FnGoHouses'. -/
def fnGoHousesUptoCard : Claim7 := { stood := { row := fnGoHousesUptoRow, standIns := [], harness := (true, "16e118b5155b7b11bee3017827cfe482af71541868a11eb0c882522f6f12ad60"), looks := true }, kinds := [], alts := [], laidByText := true, laidKinds := [.data, .sentinel, .pinned], laidTests := true, laidLooks := .later }
def FnGoHousesUptoCardSaid : Prop := Claim7.holds Tryz.pinned (.plain (OpenSpec.upto fnGoHousesSpec)) fnGoHousesUptoCard

/-- THE SECOND FORM's CARD OF 'laws.FnGoLets'. -/
def fnGoLetsUptoCard : Claim7 := { stood := { row := fnGoLetsUptoRow, standIns := [], harness := (true, "16e118b5155b7b11bee3017827cfe482af71541868a11eb0c882522f6f12ad60"), looks := true }, kinds := [], alts := [], laidByText := true, laidKinds := [.data, .sentinel, .pinned], laidTests := true, laidLooks := .later }
def FnGoLetsUptoCardSaid : Prop := Claim7.holds Tryz.pinned (.plain (OpenSpec.upto fnGoLetsSpec)) fnGoLetsUptoCard

/-- THE SECOND FORM's CARD OF 'laws.FnGoGroup'. -/
def fnGoGroupUptoCard : Claim7 := { stood := { row := fnGoGroupUptoRow, standIns := [], harness := (true, "16e118b5155b7b11bee3017827cfe482af71541868a11eb0c882522f6f12ad60"), looks := true }, kinds := [], alts := [], laidByText := true, laidKinds := [.data, .sentinel, .pinned], laidTests := true, laidLooks := .later }
def FnGoGroupUptoCardSaid : Prop := Claim7.holds Tryz.pinned (.plain (OpenSpec.upto fnGoGroupSpec)) fnGoGroupUptoCard

/-- THE SECOND FORM's CARD OF 'laws.FnGoLess'. -/
def fnGoLessUptoCard : Claim7 := { stood := { row := fnGoLessUptoRow, standIns := [], harness := (true, "16e118b5155b7b11bee3017827cfe482af71541868a11eb0c882522f6f12ad60"), looks := true }, kinds := [], alts := [], laidByText := true, laidKinds := [.data, .sentinel, .pinned], laidTests := true, laidLooks := .later }
def FnGoLessUptoCardSaid : Prop := Claim7.holds Tryz.pinned (.plain (OpenSpec.upto fnGoLessSpec)) fnGoLessUptoCard
end Rows
end Go.Proofs.YtbjbamjffkanbaaGreatDoor
