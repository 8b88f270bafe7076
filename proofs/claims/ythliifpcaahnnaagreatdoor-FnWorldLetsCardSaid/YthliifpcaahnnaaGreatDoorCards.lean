/-
  DERIVED. GIVEN WITH THE SEED: THE CARDS: each row of YthliifpcaahnnaaGreatDoorRows.lean that lists a variable, with what it lists TIED to the program's text (the seventh form; the later family's looks); each row that meets fmt, with fmt's text TOLD by the authors' own Lean function (tested against real Go, not proved from fmt's source: count such statements apart). THE CARD IS WHAT COUNTS. Prove the row's statement (the work); the ties are given (YthliifpcaahnnaaGreatDoorTie.lean); close each card by the builder's one call (the guide's Derived/Test/ToyasCard.lean, 'card_holds'). Laid BY PROGRAM, IN A SANDBOX (cutbox-door.mjs). By AI agents, Wed Nov 11 2026. No macro, syntax, notation, axiom, sorry.
-/
import Derived.Test.YthliifpcaahnnaaGreatDoorRows
import GoSem.ClaimSeven
namespace Go.Proofs.YthliifpcaahnnaaGreatDoor
namespace Rows

/-- THE TIED CARD OF 'laws.FnWorldLets'. -/
def fnWorldLetsCard : Claim7 := { stood := { row := fnWorldLetsRow, standIns := [], harness := (true, "572384182733710ec3dd435b97d3e348ce2112ebbce3dcf5cd8f27c5b8feeec4"), looks := true }, kinds := [], alts := [], laidByText := true, laidKinds := [.data, .pinned], laidTests := true, laidLooks := .later }
def FnWorldLetsCardSaid : Prop := Claim7.holds Tryz.pinned (.plain (OpenSpec.ofChange fnWorldLetsSpec)) fnWorldLetsCard

/-- THE TIED CARD OF 'laws.FnExactWorldReach'. -/
def fnExactWorldReachCard : Claim7 := { stood := { row := fnExactWorldReachRow, standIns := [], harness := (true, "572384182733710ec3dd435b97d3e348ce2112ebbce3dcf5cd8f27c5b8feeec4"), looks := true }, kinds := [], alts := [], laidByText := true, laidKinds := [.data, .pinned], laidTests := true, laidLooks := .later }
def FnExactWorldReachCardSaid : Prop := Claim7.holds Tryz.pinned (.plain (OpenSpec.ofChange fnExactWorldReachSpec)) fnExactWorldReachCard

/-- THE SECOND FORM's CARD OF 'laws.FnWorldLets'. -/
def fnWorldLetsUptoCard : Claim7 := { stood := { row := fnWorldLetsUptoRow, standIns := [], harness := (true, "572384182733710ec3dd435b97d3e348ce2112ebbce3dcf5cd8f27c5b8feeec4"), looks := true }, kinds := [], alts := [], laidByText := true, laidKinds := [.data, .pinned], laidTests := true, laidLooks := .later }
def FnWorldLetsUptoCardSaid : Prop := Claim7.holds Tryz.pinned (.plain (OpenSpec.upto fnWorldLetsSpec)) fnWorldLetsUptoCard

/-- THE SECOND FORM's CARD OF 'laws.FnExactWorldReach'. -/
def fnExactWorldReachUptoCard : Claim7 := { stood := { row := fnExactWorldReachUptoRow, standIns := [], harness := (true, "572384182733710ec3dd435b97d3e348ce2112ebbce3dcf5cd8f27c5b8feeec4"), looks := true }, kinds := [], alts := [], laidByText := true, laidKinds := [.data, .pinned], laidTests := true, laidLooks := .later }
def FnExactWorldReachUptoCardSaid : Prop := Claim7.holds Tryz.pinned (.plain (OpenSpec.upto fnExactWorldReachSpec)) fnExactWorldReachUptoCard
end Rows
end Go.Proofs.YthliifpcaahnnaaGreatDoor
