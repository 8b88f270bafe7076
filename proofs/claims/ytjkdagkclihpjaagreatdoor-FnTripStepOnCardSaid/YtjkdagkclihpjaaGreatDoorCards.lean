/-
  DERIVED. GIVEN WITH THE SEED: THE CARDS: each row of YtjkdagkclihpjaaGreatDoorRows.lean that lists a variable, with what it lists TIED to the program's text (the seventh form; the later family's looks); each row that meets fmt, with fmt's text TOLD by the authors' own Lean function (tested against real Go, not proved from fmt's source: count such statements apart). THE CARD IS WHAT COUNTS. Prove the row's statement (the work); the ties are given (YtjkdagkclihpjaaGreatDoorTie.lean); close each card by the builder's one call (the guide's Derived/Test/ToyasCard.lean, 'card_holds'). Laid BY PROGRAM, IN A SANDBOX (cutbox-door.mjs). By AI agents, Wed Nov 11 2026. No macro, syntax, notation, axiom, sorry.
-/
import Derived.Test.YtjkdagkclihpjaaGreatDoorRows
import GoSem.ClaimSeven
namespace Go.Proofs.YtjkdagkclihpjaaGreatDoor
namespace Rows

/-- THE TIED CARD OF 'laws.FnTripStepOn'. -/
def fnTripStepOnCard : Claim7 := { stood := { row := fnTripStepOnRow, standIns := [], harness := (true, "a5b9853d291076e6abc5f6b83e9a42e2f3bcfb5c9c04aed8991a8417f0e31e20"), looks := true }, kinds := [], alts := [], laidByText := true, laidKinds := [.data, .sentinel, .pinned], laidTests := true, laidLooks := .later }
def FnTripStepOnCardSaid : Prop := Claim7.holds Tryz.pinned (.plain (OpenSpec.ofChange fnTripStepOnSpec)) fnTripStepOnCard

/-- THE SECOND FORM's CARD OF 'laws.FnTripStepOn'. -/
def fnTripStepOnUptoCard : Claim7 := { stood := { row := fnTripStepOnUptoRow, standIns := [], harness := (true, "a5b9853d291076e6abc5f6b83e9a42e2f3bcfb5c9c04aed8991a8417f0e31e20"), looks := true }, kinds := [], alts := [], laidByText := true, laidKinds := [.data, .sentinel, .pinned], laidTests := true, laidLooks := .later }
def FnTripStepOnUptoCardSaid : Prop := Claim7.holds Tryz.pinned (.plain (OpenSpec.upto fnTripStepOnSpec)) fnTripStepOnUptoCard
end Rows
end Go.Proofs.YtjkdagkclihpjaaGreatDoor
