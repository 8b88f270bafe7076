/-
  DERIVED. GIVEN WITH THE SEED: THE CARDS: each row of YtlclejemchbjiaaGreatDoorRows.lean that lists a variable, with what it lists TIED to the program's text (the seventh form; the later family's looks); each row that meets fmt, with fmt's text TOLD by the authors' own Lean function (tested against real Go, not proved from fmt's source: count such statements apart). THE CARD IS WHAT COUNTS. Prove the row's statement (the work); the ties are given (YtlclejemchbjiaaGreatDoorTie.lean); close each card by the builder's one call (the guide's Derived/Test/ToyasCard.lean, 'card_holds'). Laid BY PROGRAM, IN A SANDBOX (cutbox-door.mjs). By AI agents, Wed Nov 11 2026. No macro, syntax, notation, axiom, sorry.
-/
import Derived.Test.YtlclejemchbjiaaGreatDoorRows
import GoSem.ClaimSeven
namespace Go.Proofs.YtlclejemchbjiaaGreatDoor
namespace Rows

/-- THE TIED CARD OF 'laws.FnGoFail'. -/
def fnGoFailCard : Claim7 := { stood := { row := fnGoFailRow, standIns := [], harness := (true, "773da7cdef9f1d905ad203047b07641d812b42c072bd711d755cb144d4704509"), looks := true }, kinds := [], alts := [], laidByText := true, laidKinds := [.data, .sentinel, .pinned], laidTests := true, laidLooks := .later }
def FnGoFailCardSaid : Prop := Claim7.holds Tryz.pinned (.plain (OpenSpec.ofChange fnGoFailSpec)) fnGoFailCard

/-- THE TIED CARD OF 'laws.FnGoOnce'. -/
def fnGoOnceCard : Claim7 := { stood := { row := fnGoOnceRow, standIns := [], harness := (true, "773da7cdef9f1d905ad203047b07641d812b42c072bd711d755cb144d4704509"), looks := true }, kinds := [], alts := [], laidByText := true, laidKinds := [.data, .sentinel, .pinned], laidTests := true, laidLooks := .later }
def FnGoOnceCardSaid : Prop := Claim7.holds Tryz.pinned (.plain (OpenSpec.ofChange fnGoOnceSpec)) fnGoOnceCard

/-- THE TIED CARD OF 'laws.FnGoSteps'. -/
def fnGoStepsCard : Claim7 := { stood := { row := fnGoStepsRow, standIns := [], harness := (true, "773da7cdef9f1d905ad203047b07641d812b42c072bd711d755cb144d4704509"), looks := true }, kinds := [], alts := [], laidByText := true, laidKinds := [.data, .sentinel, .pinned], laidTests := true, laidLooks := .later }
def FnGoStepsCardSaid : Prop := Claim7.holds Tryz.pinned (.plain (OpenSpec.ofChange fnGoStepsSpec)) fnGoStepsCard

/-- THE TIED CARD OF 'laws.FnGoKinds'. -/
def fnGoKindsCard : Claim7 := { stood := { row := fnGoKindsRow, standIns := [], harness := (true, "773da7cdef9f1d905ad203047b07641d812b42c072bd711d755cb144d4704509"), looks := true }, kinds := [], alts := [], laidByText := true, laidKinds := [.data, .sentinel, .pinned], laidTests := true, laidLooks := .later }
def FnGoKindsCardSaid : Prop := Claim7.holds Tryz.pinned (.plain (OpenSpec.ofChange fnGoKindsSpec)) fnGoKindsCard

/-- THE TIED CARD OF 'laws.FnGoDoor'. -/
def fnGoDoorCard : Claim7 := { stood := { row := fnGoDoorRow, standIns := [], harness := (true, "773da7cdef9f1d905ad203047b07641d812b42c072bd711d755cb144d4704509"), looks := true }, kinds := [], alts := [], laidByText := true, laidKinds := [.data, .sentinel, .pinned], laidTests := true, laidLooks := .later }
def FnGoDoorCardSaid : Prop := Claim7.holds Tryz.pinned (.plain (OpenSpec.ofChange fnGoDoorSpec)) fnGoDoorCard

/-- THE TIED CARD OF 'laws.FnGoWait'. -/
def fnGoWaitCard : Claim7 := { stood := { row := fnGoWaitRow, standIns := [], harness := (true, "773da7cdef9f1d905ad203047b07641d812b42c072bd711d755cb144d4704509"), looks := true }, kinds := [], alts := [], laidByText := true, laidKinds := [.data, .sentinel, .pinned], laidTests := true, laidLooks := .later }
def FnGoWaitCardSaid : Prop := Claim7.holds Tryz.pinned (.plain (OpenSpec.ofChange fnGoWaitSpec)) fnGoWaitCard

/-- THE SECOND FORM's CARD OF 'laws.FnGoFail'. -/
def fnGoFailUptoCard : Claim7 := { stood := { row := fnGoFailUptoRow, standIns := [], harness := (true, "773da7cdef9f1d905ad203047b07641d812b42c072bd711d755cb144d4704509"), looks := true }, kinds := [], alts := [], laidByText := true, laidKinds := [.data, .sentinel, .pinned], laidTests := true, laidLooks := .later }
def FnGoFailUptoCardSaid : Prop := Claim7.holds Tryz.pinned (.plain (OpenSpec.upto fnGoFailSpec)) fnGoFailUptoCard

/-- THE SECOND FORM's CARD OF 'laws.FnGoOnce'. -/
def fnGoOnceUptoCard : Claim7 := { stood := { row := fnGoOnceUptoRow, standIns := [], harness := (true, "773da7cdef9f1d905ad203047b07641d812b42c072bd711d755cb144d4704509"), looks := true }, kinds := [], alts := [], laidByText := true, laidKinds := [.data, .sentinel, .pinned], laidTests := true, laidLooks := .later }
def FnGoOnceUptoCardSaid : Prop := Claim7.holds Tryz.pinned (.plain (OpenSpec.upto fnGoOnceSpec)) fnGoOnceUptoCard

/-- THE SECOND FORM's CARD OF 'laws.FnGoSteps'. -/
def fnGoStepsUptoCard : Claim7 := { stood := { row := fnGoStepsUptoRow, standIns := [], harness := (true, "773da7cdef9f1d905ad203047b07641d812b42c072bd711d755cb144d4704509"), looks := true }, kinds := [], alts := [], laidByText := true, laidKinds := [.data, .sentinel, .pinned], laidTests := true, laidLooks := .later }
def FnGoStepsUptoCardSaid : Prop := Claim7.holds Tryz.pinned (.plain (OpenSpec.upto fnGoStepsSpec)) fnGoStepsUptoCard

/-- THE SECOND FORM's CARD OF 'laws.FnGoKinds'. -/
def fnGoKindsUptoCard : Claim7 := { stood := { row := fnGoKindsUptoRow, standIns := [], harness := (true, "773da7cdef9f1d905ad203047b07641d812b42c072bd711d755cb144d4704509"), looks := true }, kinds := [], alts := [], laidByText := true, laidKinds := [.data, .sentinel, .pinned], laidTests := true, laidLooks := .later }
def FnGoKindsUptoCardSaid : Prop := Claim7.holds Tryz.pinned (.plain (OpenSpec.upto fnGoKindsSpec)) fnGoKindsUptoCard

/-- THE SECOND FORM's CARD OF 'laws.FnGoDoor'. -/
def fnGoDoorUptoCard : Claim7 := { stood := { row := fnGoDoorUptoRow, standIns := [], harness := (true, "773da7cdef9f1d905ad203047b07641d812b42c072bd711d755cb144d4704509"), looks := true }, kinds := [], alts := [], laidByText := true, laidKinds := [.data, .sentinel, .pinned], laidTests := true, laidLooks := .later }
def FnGoDoorUptoCardSaid : Prop := Claim7.holds Tryz.pinned (.plain (OpenSpec.upto fnGoDoorSpec)) fnGoDoorUptoCard

/-- THE SECOND FORM's CARD OF 'laws.FnGoWait'. -/
def fnGoWaitUptoCard : Claim7 := { stood := { row := fnGoWaitUptoRow, standIns := [], harness := (true, "773da7cdef9f1d905ad203047b07641d812b42c072bd711d755cb144d4704509"), looks := true }, kinds := [], alts := [], laidByText := true, laidKinds := [.data, .sentinel, .pinned], laidTests := true, laidLooks := .later }
def FnGoWaitUptoCardSaid : Prop := Claim7.holds Tryz.pinned (.plain (OpenSpec.upto fnGoWaitSpec)) fnGoWaitUptoCard
end Rows
end Go.Proofs.YtlclejemchbjiaaGreatDoor
