/-
  DERIVED. GIVEN WITH THE SEED: THE CARDS: each row of YtngholilfbdfkabGreatDoorRows.lean that lists a variable, with what it lists TIED to the program's text (the seventh form; the later family's looks); each row that meets fmt, with fmt's text TOLD by the authors' own Lean function (tested against real Go, not proved from fmt's source: count such statements apart). THE CARD IS WHAT COUNTS. Prove the row's statement (the work); the ties are given (YtngholilfbdfkabGreatDoorTie.lean); close each card by the builder's one call (the guide's Derived/Test/ToyasCard.lean, 'card_holds'). Laid BY PROGRAM, IN A SANDBOX (cutbox-door.mjs). By AI agents, Wed Nov 11 2026. No macro, syntax, notation, axiom, sorry.
-/
import Derived.Test.YtngholilfbdfkabGreatDoorRows
import GoSem.ClaimSeven
namespace Go.Proofs.YtngholilfbdfkabGreatDoor
namespace Rows

/-- THE TIED CARD OF 'laws.FnTripRunOk'. -/
def fnTripRunOkCard : Claim7 := { stood := { row := fnTripRunOkRow, standIns := [], harness := (true, "6e42da9c6b8ed833a84a5881f7c51da9367e9d859d42f1ee39e7e0e305e83814"), looks := true }, kinds := [], alts := [], laidByText := true, laidKinds := [.data, .sentinel, .pinned], laidTests := true, laidLooks := .later }
def FnTripRunOkCardSaid : Prop := Claim7.holds Tryz.pinned (.plain (OpenSpec.ofChange fnTripRunOkSpec)) fnTripRunOkCard

/-- THE TIED CARD OF 'laws.FnTripRunCut'. -/
def fnTripRunCutCard : Claim7 := { stood := { row := fnTripRunCutRow, standIns := [], harness := (true, "6e42da9c6b8ed833a84a5881f7c51da9367e9d859d42f1ee39e7e0e305e83814"), looks := true }, kinds := [], alts := [], laidByText := true, laidKinds := [.data, .sentinel, .pinned], laidTests := true, laidLooks := .later }
def FnTripRunCutCardSaid : Prop := Claim7.holds Tryz.pinned (.plain (OpenSpec.ofChange fnTripRunCutSpec)) fnTripRunCutCard

/-- THE TIED CARD OF 'laws.FnTripStepFail'. -/
def fnTripStepFailCard : Claim7 := { stood := { row := fnTripStepFailRow, standIns := [], harness := (true, "6e42da9c6b8ed833a84a5881f7c51da9367e9d859d42f1ee39e7e0e305e83814"), looks := true }, kinds := [], alts := [], laidByText := true, laidKinds := [.data, .sentinel, .pinned], laidTests := true, laidLooks := .later }
def FnTripStepFailCardSaid : Prop := Claim7.holds Tryz.pinned (.plain (OpenSpec.ofChange fnTripStepFailSpec)) fnTripStepFailCard

/-- THE TIED CARD OF 'laws.FnTripStepOn'. -/
def fnTripStepOnCard : Claim7 := { stood := { row := fnTripStepOnRow, standIns := [], harness := (true, "6e42da9c6b8ed833a84a5881f7c51da9367e9d859d42f1ee39e7e0e305e83814"), looks := true }, kinds := [], alts := [], laidByText := true, laidKinds := [.data, .sentinel, .pinned], laidTests := true, laidLooks := .later }
def FnTripStepOnCardSaid : Prop := Claim7.holds Tryz.pinned (.plain (OpenSpec.ofChange fnTripStepOnSpec)) fnTripStepOnCard

/-- THE SECOND FORM's CARD OF 'laws.FnTripRunOk'. -/
def fnTripRunOkUptoCard : Claim7 := { stood := { row := fnTripRunOkUptoRow, standIns := [], harness := (true, "6e42da9c6b8ed833a84a5881f7c51da9367e9d859d42f1ee39e7e0e305e83814"), looks := true }, kinds := [], alts := [], laidByText := true, laidKinds := [.data, .sentinel, .pinned], laidTests := true, laidLooks := .later }
def FnTripRunOkUptoCardSaid : Prop := Claim7.holds Tryz.pinned (.plain (OpenSpec.upto fnTripRunOkSpec)) fnTripRunOkUptoCard

/-- THE SECOND FORM's CARD OF 'laws.FnTripRunCut'. -/
def fnTripRunCutUptoCard : Claim7 := { stood := { row := fnTripRunCutUptoRow, standIns := [], harness := (true, "6e42da9c6b8ed833a84a5881f7c51da9367e9d859d42f1ee39e7e0e305e83814"), looks := true }, kinds := [], alts := [], laidByText := true, laidKinds := [.data, .sentinel, .pinned], laidTests := true, laidLooks := .later }
def FnTripRunCutUptoCardSaid : Prop := Claim7.holds Tryz.pinned (.plain (OpenSpec.upto fnTripRunCutSpec)) fnTripRunCutUptoCard

/-- THE SECOND FORM's CARD OF 'laws.FnTripStepFail'. -/
def fnTripStepFailUptoCard : Claim7 := { stood := { row := fnTripStepFailUptoRow, standIns := [], harness := (true, "6e42da9c6b8ed833a84a5881f7c51da9367e9d859d42f1ee39e7e0e305e83814"), looks := true }, kinds := [], alts := [], laidByText := true, laidKinds := [.data, .sentinel, .pinned], laidTests := true, laidLooks := .later }
def FnTripStepFailUptoCardSaid : Prop := Claim7.holds Tryz.pinned (.plain (OpenSpec.upto fnTripStepFailSpec)) fnTripStepFailUptoCard

/-- THE SECOND FORM's CARD OF 'laws.FnTripStepOn'. -/
def fnTripStepOnUptoCard : Claim7 := { stood := { row := fnTripStepOnUptoRow, standIns := [], harness := (true, "6e42da9c6b8ed833a84a5881f7c51da9367e9d859d42f1ee39e7e0e305e83814"), looks := true }, kinds := [], alts := [], laidByText := true, laidKinds := [.data, .sentinel, .pinned], laidTests := true, laidLooks := .later }
def FnTripStepOnUptoCardSaid : Prop := Claim7.holds Tryz.pinned (.plain (OpenSpec.upto fnTripStepOnSpec)) fnTripStepOnUptoCard
end Rows
end Go.Proofs.YtngholilfbdfkabGreatDoor
