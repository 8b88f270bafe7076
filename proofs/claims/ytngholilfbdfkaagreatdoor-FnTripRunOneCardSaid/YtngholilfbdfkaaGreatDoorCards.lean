/-
  DERIVED. GIVEN WITH THE SEED: THE CARDS: each row of YtngholilfbdfkaaGreatDoorRows.lean that lists a variable, with what it lists TIED to the program's text (the seventh form; the later family's looks); each row that meets fmt, with fmt's text TOLD by the authors' own Lean function (tested against real Go, not proved from fmt's source: count such statements apart). THE CARD IS WHAT COUNTS. Prove the row's statement (the work); the ties are given (YtngholilfbdfkaaGreatDoorTie.lean); close each card by the builder's one call (the guide's Derived/Test/ToyasCard.lean, 'card_holds'). Laid BY PROGRAM, IN A SANDBOX (cutbox-door.mjs). By AI agents, Wed Nov 11 2026. No macro, syntax, notation, axiom, sorry.
-/
import Derived.Test.YtngholilfbdfkaaGreatDoorRows
import GoSem.ClaimSeven
namespace Go.Proofs.YtngholilfbdfkaaGreatDoor
namespace Rows

/-- THE TIED CARD OF 'laws.FnTripStep'. -/
def fnTripStepCard : Claim7 := { stood := { row := fnTripStepRow, standIns := [], harness := (true, "bbe36f4b663bea6ed44bb6d9475ddfbcb34050c0578b6d0d756c0e21cbde87b1"), looks := true }, kinds := [], alts := [], laidByText := true, laidKinds := [.data, .sentinel, .pinned], laidTests := true, laidLooks := .later }
def FnTripStepCardSaid : Prop := Claim7.holds Tryz.pinned (.plain (OpenSpec.ofChange fnTripStepSpec)) fnTripStepCard

/-- THE TIED CARD OF 'laws.FnTripStepWait'. -/
def fnTripStepWaitCard : Claim7 := { stood := { row := fnTripStepWaitRow, standIns := [], harness := (true, "bbe36f4b663bea6ed44bb6d9475ddfbcb34050c0578b6d0d756c0e21cbde87b1"), looks := true }, kinds := [], alts := [], laidByText := true, laidKinds := [.data, .sentinel, .pinned], laidTests := true, laidLooks := .later }
def FnTripStepWaitCardSaid : Prop := Claim7.holds Tryz.pinned (.plain (OpenSpec.ofChange fnTripStepWaitSpec)) fnTripStepWaitCard

/-- THE TIED CARD OF 'laws.FnTripStepKnown'. -/
def fnTripStepKnownCard : Claim7 := { stood := { row := fnTripStepKnownRow, standIns := [], harness := (true, "bbe36f4b663bea6ed44bb6d9475ddfbcb34050c0578b6d0d756c0e21cbde87b1"), looks := true }, kinds := [], alts := [], laidByText := true, laidKinds := [.data, .sentinel, .pinned], laidTests := true, laidLooks := .later }
def FnTripStepKnownCardSaid : Prop := Claim7.holds Tryz.pinned (.plain (OpenSpec.ofChange fnTripStepKnownSpec)) fnTripStepKnownCard

/-- THE TIED CARD OF 'laws.FnTripRunOne'. -/
def fnTripRunOneCard : Claim7 := { stood := { row := fnTripRunOneRow, standIns := [], harness := (true, "bbe36f4b663bea6ed44bb6d9475ddfbcb34050c0578b6d0d756c0e21cbde87b1"), looks := true }, kinds := [], alts := [], laidByText := true, laidKinds := [.data, .sentinel, .pinned], laidTests := true, laidLooks := .later }
def FnTripRunOneCardSaid : Prop := Claim7.holds Tryz.pinned (.plain (OpenSpec.ofChange fnTripRunOneSpec)) fnTripRunOneCard

/-- THE SECOND FORM's CARD OF 'laws.FnTripStep'. -/
def fnTripStepUptoCard : Claim7 := { stood := { row := fnTripStepUptoRow, standIns := [], harness := (true, "bbe36f4b663bea6ed44bb6d9475ddfbcb34050c0578b6d0d756c0e21cbde87b1"), looks := true }, kinds := [], alts := [], laidByText := true, laidKinds := [.data, .sentinel, .pinned], laidTests := true, laidLooks := .later }
def FnTripStepUptoCardSaid : Prop := Claim7.holds Tryz.pinned (.plain (OpenSpec.upto fnTripStepSpec)) fnTripStepUptoCard

/-- THE SECOND FORM's CARD OF 'laws.FnTripStepWait'. -/
def fnTripStepWaitUptoCard : Claim7 := { stood := { row := fnTripStepWaitUptoRow, standIns := [], harness := (true, "bbe36f4b663bea6ed44bb6d9475ddfbcb34050c0578b6d0d756c0e21cbde87b1"), looks := true }, kinds := [], alts := [], laidByText := true, laidKinds := [.data, .sentinel, .pinned], laidTests := true, laidLooks := .later }
def FnTripStepWaitUptoCardSaid : Prop := Claim7.holds Tryz.pinned (.plain (OpenSpec.upto fnTripStepWaitSpec)) fnTripStepWaitUptoCard

/-- THE SECOND FORM's CARD OF 'laws.FnTripStepKnown'. -/
def fnTripStepKnownUptoCard : Claim7 := { stood := { row := fnTripStepKnownUptoRow, standIns := [], harness := (true, "bbe36f4b663bea6ed44bb6d9475ddfbcb34050c0578b6d0d756c0e21cbde87b1"), looks := true }, kinds := [], alts := [], laidByText := true, laidKinds := [.data, .sentinel, .pinned], laidTests := true, laidLooks := .later }
def FnTripStepKnownUptoCardSaid : Prop := Claim7.holds Tryz.pinned (.plain (OpenSpec.upto fnTripStepKnownSpec)) fnTripStepKnownUptoCard

/-- THE SECOND FORM's CARD OF 'laws.FnTripRunOne'. -/
def fnTripRunOneUptoCard : Claim7 := { stood := { row := fnTripRunOneUptoRow, standIns := [], harness := (true, "bbe36f4b663bea6ed44bb6d9475ddfbcb34050c0578b6d0d756c0e21cbde87b1"), looks := true }, kinds := [], alts := [], laidByText := true, laidKinds := [.data, .sentinel, .pinned], laidTests := true, laidLooks := .later }
def FnTripRunOneUptoCardSaid : Prop := Claim7.holds Tryz.pinned (.plain (OpenSpec.upto fnTripRunOneSpec)) fnTripRunOneUptoCard
end Rows
end Go.Proofs.YtngholilfbdfkaaGreatDoor
