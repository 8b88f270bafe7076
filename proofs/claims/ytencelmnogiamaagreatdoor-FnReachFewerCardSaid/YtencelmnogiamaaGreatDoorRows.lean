/-
  NARROWER THAN 'FOR EVERY INPUT', by the rows' own cells (each row's printed sentence says how): FnExactWorldReach: laid · FnReachFewer: laid · FnReachLeast: laid · FnReachMore: laid · FnReachSeeds: laid · FnReachOn: laid · FnReachLets: laid.
  DERIVED. THE GIVEN ROWS OF THIS SEAT. 7 by the template 'for every input the law returns true; each argument reads behind the call as it read before'; 0 by the template 'total and deterministic' (their statements: YtencelmnogiamaaGreatDoorTotals.lean).
  GIVEN WITH THE SEED: the statements are not yours to turn. If you find one false, say at which input.
  Laid BY PROGRAM, IN A SANDBOX (cutbox-rows.mjs): the forced cells as the released guide's own fill.sh prints them over the translation f951492814505655… (all of the seat's roots in one cut). By AI agents, Wed Nov 11 2026. No macro, syntax, notation, axiom, sorry.
-/
import Derived.Test.YtencelmnogiamaaGreatDoorChecked
import GoSem.PinnedTables
import GoSem.Claim
import GoSem.ClaimJoined
import GoSem.ClaimMapViews
import Derived.JoinedTies
import Derived.KernelRfl
namespace Go.Proofs.YtencelmnogiamaaGreatDoor
/- THE CELL 'sum', in the pinned program and in every row, IS THE sha256 OF THE DUMP (.gsa) THAT YtencelmnogiamaaGreatDoorProg.lean LOADS. Nothing in Lean hashes anything: it is a label: what it is worth is what the hold of that sum in a sandbox is worth. -/
noncomputable def Tryz.pinned : Pinned := { name := "ytencelmnogiamaagreatdoor", sum := "f951492814505655d40b8e90f7fd6a40555d39fa880f17470340b9288415af91", checked := Tryz.checked }
namespace Rows
def none {H : Type} : Left H := { results := [], args := [] }

/- WHAT THE LISTED PACKAGE-LEVEL VARIABLES READ AS WHEN THE CALL BEGINS. Each datum BY PROGRAM (the guide's laid-datum.mjs) off the statement by which the dump's own 'gosem.cut.vars' lays the variable. In a bare row this is a premise. The card (YtencelmnogiamaaGreatDoorCards.lean) ties it to the program's text. -/
def laid_unicode_utf8_acceptRanges {H : Type} : DataW H := .agg [.agg [.lit (.int .u8 128), .lit (.int .u8 191)], .agg [.lit (.int .u8 160), .lit (.int .u8 191)], .agg [.lit (.int .u8 128), .lit (.int .u8 159)], .agg [.lit (.int .u8 144), .lit (.int .u8 191)], .agg [.lit (.int .u8 128), .lit (.int .u8 143)], .agg [.lit (.int .u8 0), .lit (.int .u8 0)], .agg [.lit (.int .u8 0), .lit (.int .u8 0)], .agg [.lit (.int .u8 0), .lit (.int .u8 0)], .agg [.lit (.int .u8 0), .lit (.int .u8 0)], .agg [.lit (.int .u8 0), .lit (.int .u8 0)], .agg [.lit (.int .u8 0), .lit (.int .u8 0)], .agg [.lit (.int .u8 0), .lit (.int .u8 0)], .agg [.lit (.int .u8 0), .lit (.int .u8 0)], .agg [.lit (.int .u8 0), .lit (.int .u8 0)], .agg [.lit (.int .u8 0), .lit (.int .u8 0)], .agg [.lit (.int .u8 0), .lit (.int .u8 0)]]
/-- One of Go's own tables, pinned by name: the form's constant. -/
def laid_unicode_utf8_first : DataW Unit := Go.Pinned.utf8First

/-- 'laws.FnExactWorldReach': WHATEVER THE INPUT: true; the input reads as it did. -/
def fnExactWorldReachSpec : ChangeSpec := { name := "fnExactWorldReach", fn := fun _ => fun
  | [d1, d2, d3] => { results := [.lit (.bool true)], args := [d1, d2, d3] }
  | _ => none }
def fnExactWorldReachRow : OpenClaim := { program := "ytencelmnogiamaagreatdoor", sum := "f951492814505655d40b8e90f7fd6a40555d39fa880f17470340b9288415af91", func := "loop.example/pedlar/laws.FnExactWorldReach", spec := "fnExactWorldReach", inPlace := ["internal/bytealg.IndexByteString", "internal/bytealg.IndexString", "internal/bytealg.CountString", "internal/abi.NoEscape", "internal/bytealg.MakeNoZero"], unfollowed := true, recurses := true, named := ["internal/bytealg.MaxLen", "unicode/utf8.first", "unicode/utf8.acceptRanges"], apart := false, laid := [("unicode/utf8.acceptRanges", laid_unicode_utf8_acceptRanges), ("unicode/utf8.first", laid_unicode_utf8_first)] }
def FnExactWorldReachSaid : Prop := fnExactWorldReachRow.holds Tryz.pinned (OpenSpec.ofChange fnExactWorldReachSpec)

/-- ITS FALSE NEIGHBOUR: 'it returns false'. Refute it at one input. -/
def fnExactWorldReachWrong : ChangeSpec := { name := "fnExactWorldReach", fn := fun _ => fun
  | [d1, d2, d3] => { results := [.lit (.bool false)], args := [d1, d2, d3] }
  | _ => none }
def FnExactWorldReachWrongFalsely : Prop := fnExactWorldReachRow.holds Tryz.pinned (OpenSpec.ofChange fnExactWorldReachWrong)

/-- 'laws.FnReachFewer': WHATEVER THE INPUT: true; the input reads as it did. -/
def fnReachFewerSpec : ChangeSpec := { name := "fnReachFewer", fn := fun _ => fun
  | [d1, d2] => { results := [.lit (.bool true)], args := [d1, d2] }
  | _ => none }
def fnReachFewerRow : OpenClaim := { program := "ytencelmnogiamaagreatdoor", sum := "f951492814505655d40b8e90f7fd6a40555d39fa880f17470340b9288415af91", func := "loop.example/pedlar/laws.FnReachFewer", spec := "fnReachFewer", inPlace := ["internal/bytealg.IndexByteString", "internal/bytealg.IndexString", "internal/bytealg.CountString", "internal/abi.NoEscape", "internal/bytealg.MakeNoZero"], unfollowed := true, recurses := true, named := ["internal/bytealg.MaxLen", "unicode/utf8.first", "unicode/utf8.acceptRanges"], apart := false, laid := [("unicode/utf8.acceptRanges", laid_unicode_utf8_acceptRanges), ("unicode/utf8.first", laid_unicode_utf8_first)] }
def FnReachFewerSaid : Prop := fnReachFewerRow.holds Tryz.pinned (OpenSpec.ofChange fnReachFewerSpec)

/-- ITS FALSE NEIGHBOUR: 'it returns false'. Refute it at one input. -/
def fnReachFewerWrong : ChangeSpec := { name := "fnReachFewer", fn := fun _ => fun
  | [d1, d2] => { results := [.lit (.bool false)], args := [d1, d2] }
  | _ => none }
def FnReachFewerWrongFalsely : Prop := fnReachFewerRow.holds Tryz.pinned (OpenSpec.ofChange fnReachFewerWrong)

/-- 'laws.FnReachLeast': WHATEVER THE INPUT: true; the input reads as it did. -/
def fnReachLeastSpec : ChangeSpec := { name := "fnReachLeast", fn := fun _ => fun
  | [d] => { results := [.lit (.bool true)], args := [d] }
  | _ => none }
def fnReachLeastRow : OpenClaim := { program := "ytencelmnogiamaagreatdoor", sum := "f951492814505655d40b8e90f7fd6a40555d39fa880f17470340b9288415af91", func := "loop.example/pedlar/laws.FnReachLeast", spec := "fnReachLeast", inPlace := ["internal/bytealg.IndexByteString", "internal/bytealg.IndexString", "internal/bytealg.CountString", "internal/abi.NoEscape", "internal/bytealg.MakeNoZero"], unfollowed := true, recurses := true, named := ["internal/bytealg.MaxLen", "unicode/utf8.first", "unicode/utf8.acceptRanges"], apart := false, laid := [("unicode/utf8.acceptRanges", laid_unicode_utf8_acceptRanges), ("unicode/utf8.first", laid_unicode_utf8_first)] }
def FnReachLeastSaid : Prop := fnReachLeastRow.holds Tryz.pinned (OpenSpec.ofChange fnReachLeastSpec)

/-- ITS FALSE NEIGHBOUR: 'it returns false'. Refute it at one input. -/
def fnReachLeastWrong : ChangeSpec := { name := "fnReachLeast", fn := fun _ => fun
  | [d] => { results := [.lit (.bool false)], args := [d] }
  | _ => none }
def FnReachLeastWrongFalsely : Prop := fnReachLeastRow.holds Tryz.pinned (OpenSpec.ofChange fnReachLeastWrong)

/-- 'laws.FnReachMore': WHATEVER THE INPUT: true; the input reads as it did. -/
def fnReachMoreSpec : ChangeSpec := { name := "fnReachMore", fn := fun _ => fun
  | [d1, d2] => { results := [.lit (.bool true)], args := [d1, d2] }
  | _ => none }
def fnReachMoreRow : OpenClaim := { program := "ytencelmnogiamaagreatdoor", sum := "f951492814505655d40b8e90f7fd6a40555d39fa880f17470340b9288415af91", func := "loop.example/pedlar/laws.FnReachMore", spec := "fnReachMore", inPlace := ["internal/bytealg.IndexByteString", "internal/bytealg.IndexString", "internal/bytealg.CountString", "internal/abi.NoEscape", "internal/bytealg.MakeNoZero"], unfollowed := true, recurses := true, named := ["internal/bytealg.MaxLen", "unicode/utf8.first", "unicode/utf8.acceptRanges"], apart := false, laid := [("unicode/utf8.acceptRanges", laid_unicode_utf8_acceptRanges), ("unicode/utf8.first", laid_unicode_utf8_first)] }
def FnReachMoreSaid : Prop := fnReachMoreRow.holds Tryz.pinned (OpenSpec.ofChange fnReachMoreSpec)

/-- ITS FALSE NEIGHBOUR: 'it returns false'. Refute it at one input. -/
def fnReachMoreWrong : ChangeSpec := { name := "fnReachMore", fn := fun _ => fun
  | [d1, d2] => { results := [.lit (.bool false)], args := [d1, d2] }
  | _ => none }
def FnReachMoreWrongFalsely : Prop := fnReachMoreRow.holds Tryz.pinned (OpenSpec.ofChange fnReachMoreWrong)

/-- 'laws.FnReachSeeds': WHATEVER THE INPUT: true; the input reads as it did. -/
def fnReachSeedsSpec : ChangeSpec := { name := "fnReachSeeds", fn := fun _ => fun
  | [d] => { results := [.lit (.bool true)], args := [d] }
  | _ => none }
def fnReachSeedsRow : OpenClaim := { program := "ytencelmnogiamaagreatdoor", sum := "f951492814505655d40b8e90f7fd6a40555d39fa880f17470340b9288415af91", func := "loop.example/pedlar/laws.FnReachSeeds", spec := "fnReachSeeds", inPlace := ["internal/bytealg.IndexByteString", "internal/bytealg.IndexString", "internal/bytealg.CountString", "internal/abi.NoEscape", "internal/bytealg.MakeNoZero"], unfollowed := true, recurses := true, named := ["internal/bytealg.MaxLen", "unicode/utf8.first", "unicode/utf8.acceptRanges"], apart := false, laid := [("unicode/utf8.acceptRanges", laid_unicode_utf8_acceptRanges), ("unicode/utf8.first", laid_unicode_utf8_first)] }
def FnReachSeedsSaid : Prop := fnReachSeedsRow.holds Tryz.pinned (OpenSpec.ofChange fnReachSeedsSpec)

/-- ITS FALSE NEIGHBOUR: 'it returns false'. Refute it at one input. -/
def fnReachSeedsWrong : ChangeSpec := { name := "fnReachSeeds", fn := fun _ => fun
  | [d] => { results := [.lit (.bool false)], args := [d] }
  | _ => none }
def FnReachSeedsWrongFalsely : Prop := fnReachSeedsRow.holds Tryz.pinned (OpenSpec.ofChange fnReachSeedsWrong)

/-- 'laws.FnReachOn': WHATEVER THE INPUT: true; the input reads as it did. -/
def fnReachOnSpec : ChangeSpec := { name := "fnReachOn", fn := fun _ => fun
  | [d] => { results := [.lit (.bool true)], args := [d] }
  | _ => none }
def fnReachOnRow : OpenClaim := { program := "ytencelmnogiamaagreatdoor", sum := "f951492814505655d40b8e90f7fd6a40555d39fa880f17470340b9288415af91", func := "loop.example/pedlar/laws.FnReachOn", spec := "fnReachOn", inPlace := ["internal/bytealg.IndexByteString", "internal/bytealg.IndexString", "internal/bytealg.CountString", "internal/abi.NoEscape", "internal/bytealg.MakeNoZero"], unfollowed := true, recurses := true, named := ["internal/bytealg.MaxLen", "unicode/utf8.first", "unicode/utf8.acceptRanges"], apart := false, laid := [("unicode/utf8.acceptRanges", laid_unicode_utf8_acceptRanges), ("unicode/utf8.first", laid_unicode_utf8_first)] }
def FnReachOnSaid : Prop := fnReachOnRow.holds Tryz.pinned (OpenSpec.ofChange fnReachOnSpec)

/-- ITS FALSE NEIGHBOUR: 'it returns false'. Refute it at one input. -/
def fnReachOnWrong : ChangeSpec := { name := "fnReachOn", fn := fun _ => fun
  | [d] => { results := [.lit (.bool false)], args := [d] }
  | _ => none }
def FnReachOnWrongFalsely : Prop := fnReachOnRow.holds Tryz.pinned (OpenSpec.ofChange fnReachOnWrong)

/-- 'laws.FnReachLets': WHATEVER THE INPUT: true; the input reads as it did. -/
def fnReachLetsSpec : ChangeSpec := { name := "fnReachLets", fn := fun _ => fun
  | [d] => { results := [.lit (.bool true)], args := [d] }
  | _ => none }
def fnReachLetsRow : OpenClaim := { program := "ytencelmnogiamaagreatdoor", sum := "f951492814505655d40b8e90f7fd6a40555d39fa880f17470340b9288415af91", func := "loop.example/pedlar/laws.FnReachLets", spec := "fnReachLets", inPlace := ["internal/bytealg.IndexByteString", "internal/bytealg.IndexString", "internal/bytealg.CountString", "internal/abi.NoEscape", "internal/bytealg.MakeNoZero"], unfollowed := true, recurses := true, named := ["internal/bytealg.MaxLen", "unicode/utf8.first", "unicode/utf8.acceptRanges"], apart := false, laid := [("unicode/utf8.acceptRanges", laid_unicode_utf8_acceptRanges), ("unicode/utf8.first", laid_unicode_utf8_first)] }
def FnReachLetsSaid : Prop := fnReachLetsRow.holds Tryz.pinned (OpenSpec.ofChange fnReachLetsSpec)

/-- ITS FALSE NEIGHBOUR: 'it returns false'. Refute it at one input. -/
def fnReachLetsWrong : ChangeSpec := { name := "fnReachLets", fn := fun _ => fun
  | [d] => { results := [.lit (.bool false)], args := [d] }
  | _ => none }
def FnReachLetsWrongFalsely : Prop := fnReachLetsRow.holds Tryz.pinned (OpenSpec.ofChange fnReachLetsWrong)

/- THE SECOND FORM. 'bulk': how many values and letters a reading holds, each counted each time it is reached (what is shared counts as often as it is met; a slice's spare places count too). A statement '..UptoSaid' is the law's where the arguments, and the package variables that the reading takes, are together of bulk at most 1048576: NARROWER than '..Said'. Prove '..Said' where nothing that the law and all that it calls make is longer than what came in: it says more and counts as full. Else prove '..UptoSaid'. A law counts once. -/
mutual
def uptoBulk {H : Type} : DataW H → Nat
  | .lit (.string bytes) => bytes.length + 1
  | .lit _ => 1
  | .nil => 1
  | .ptr d => uptoBulk d + 1
  | .slice elems spare => uptoBulkAll elems + uptoBulkAll spare + 1
  | .agg parts => uptoBulkAll parts + 1
  | .iface _ d => uptoBulk d + 1
  | .map entries => uptoBulkEntries entries + 1
  | .held _ => 1
def uptoBulkAll {H : Type} : List (DataW H) → Nat
  | [] => 0
  | d :: r => uptoBulk d + uptoBulkAll r
def uptoBulkEntries {H : Type} : List (Lit × DataW H) → Nat
  | [] => 0
  | x :: r => uptoBulkEntry x + uptoBulkEntries r
def uptoBulkEntry {H : Type} : Lit × DataW H → Nat
  | (.string bytes, d) => bytes.length + uptoBulk d + 1
  | (_, d) => uptoBulk d + 1
 end
def uptoSmall : (H : Type) → List (DataW H) → Bool := fun _ ds => decide (uptoBulkAll ds ≤ 1048576)
def OpenSpec.upto (s : _root_.Go.ChangeSpec) : _root_.Go.OpenSpec := { _root_.Go.OpenSpec.ofChange s with cond := some uptoSmall }

/-- 'laws.FnExactWorldReach', WHERE WHAT IT READS IS OF BULK AT MOST 1048576: true; the input reads as it did. -/
def fnExactWorldReachUptoRow : OpenClaim := { program := "ytencelmnogiamaagreatdoor", sum := "f951492814505655d40b8e90f7fd6a40555d39fa880f17470340b9288415af91", func := "loop.example/pedlar/laws.FnExactWorldReach", spec := "fnExactWorldReach", inPlace := ["internal/bytealg.IndexByteString", "internal/bytealg.IndexString", "internal/bytealg.CountString", "internal/abi.NoEscape", "internal/bytealg.MakeNoZero"], unfollowed := true, recurses := true, named := ["internal/bytealg.MaxLen", "unicode/utf8.first", "unicode/utf8.acceptRanges"], apart := false, laid := [("unicode/utf8.acceptRanges", laid_unicode_utf8_acceptRanges), ("unicode/utf8.first", laid_unicode_utf8_first)], narrowed := true }
def FnExactWorldReachUptoSaid : Prop := fnExactWorldReachUptoRow.holds Tryz.pinned (OpenSpec.upto fnExactWorldReachSpec)

/-- 'laws.FnReachFewer', WHERE WHAT IT READS IS OF BULK AT MOST 1048576: true; the input reads as it did. -/
def fnReachFewerUptoRow : OpenClaim := { program := "ytencelmnogiamaagreatdoor", sum := "f951492814505655d40b8e90f7fd6a40555d39fa880f17470340b9288415af91", func := "loop.example/pedlar/laws.FnReachFewer", spec := "fnReachFewer", inPlace := ["internal/bytealg.IndexByteString", "internal/bytealg.IndexString", "internal/bytealg.CountString", "internal/abi.NoEscape", "internal/bytealg.MakeNoZero"], unfollowed := true, recurses := true, named := ["internal/bytealg.MaxLen", "unicode/utf8.first", "unicode/utf8.acceptRanges"], apart := false, laid := [("unicode/utf8.acceptRanges", laid_unicode_utf8_acceptRanges), ("unicode/utf8.first", laid_unicode_utf8_first)], narrowed := true }
def FnReachFewerUptoSaid : Prop := fnReachFewerUptoRow.holds Tryz.pinned (OpenSpec.upto fnReachFewerSpec)

/-- 'laws.FnReachLeast', WHERE WHAT IT READS IS OF BULK AT MOST 1048576: true; the input reads as it did. -/
def fnReachLeastUptoRow : OpenClaim := { program := "ytencelmnogiamaagreatdoor", sum := "f951492814505655d40b8e90f7fd6a40555d39fa880f17470340b9288415af91", func := "loop.example/pedlar/laws.FnReachLeast", spec := "fnReachLeast", inPlace := ["internal/bytealg.IndexByteString", "internal/bytealg.IndexString", "internal/bytealg.CountString", "internal/abi.NoEscape", "internal/bytealg.MakeNoZero"], unfollowed := true, recurses := true, named := ["internal/bytealg.MaxLen", "unicode/utf8.first", "unicode/utf8.acceptRanges"], apart := false, laid := [("unicode/utf8.acceptRanges", laid_unicode_utf8_acceptRanges), ("unicode/utf8.first", laid_unicode_utf8_first)], narrowed := true }
def FnReachLeastUptoSaid : Prop := fnReachLeastUptoRow.holds Tryz.pinned (OpenSpec.upto fnReachLeastSpec)

/-- 'laws.FnReachMore', WHERE WHAT IT READS IS OF BULK AT MOST 1048576: true; the input reads as it did. -/
def fnReachMoreUptoRow : OpenClaim := { program := "ytencelmnogiamaagreatdoor", sum := "f951492814505655d40b8e90f7fd6a40555d39fa880f17470340b9288415af91", func := "loop.example/pedlar/laws.FnReachMore", spec := "fnReachMore", inPlace := ["internal/bytealg.IndexByteString", "internal/bytealg.IndexString", "internal/bytealg.CountString", "internal/abi.NoEscape", "internal/bytealg.MakeNoZero"], unfollowed := true, recurses := true, named := ["internal/bytealg.MaxLen", "unicode/utf8.first", "unicode/utf8.acceptRanges"], apart := false, laid := [("unicode/utf8.acceptRanges", laid_unicode_utf8_acceptRanges), ("unicode/utf8.first", laid_unicode_utf8_first)], narrowed := true }
def FnReachMoreUptoSaid : Prop := fnReachMoreUptoRow.holds Tryz.pinned (OpenSpec.upto fnReachMoreSpec)

/-- 'laws.FnReachSeeds', WHERE WHAT IT READS IS OF BULK AT MOST 1048576: true; the input reads as it did. -/
def fnReachSeedsUptoRow : OpenClaim := { program := "ytencelmnogiamaagreatdoor", sum := "f951492814505655d40b8e90f7fd6a40555d39fa880f17470340b9288415af91", func := "loop.example/pedlar/laws.FnReachSeeds", spec := "fnReachSeeds", inPlace := ["internal/bytealg.IndexByteString", "internal/bytealg.IndexString", "internal/bytealg.CountString", "internal/abi.NoEscape", "internal/bytealg.MakeNoZero"], unfollowed := true, recurses := true, named := ["internal/bytealg.MaxLen", "unicode/utf8.first", "unicode/utf8.acceptRanges"], apart := false, laid := [("unicode/utf8.acceptRanges", laid_unicode_utf8_acceptRanges), ("unicode/utf8.first", laid_unicode_utf8_first)], narrowed := true }
def FnReachSeedsUptoSaid : Prop := fnReachSeedsUptoRow.holds Tryz.pinned (OpenSpec.upto fnReachSeedsSpec)

/-- 'laws.FnReachOn', WHERE WHAT IT READS IS OF BULK AT MOST 1048576: true; the input reads as it did. -/
def fnReachOnUptoRow : OpenClaim := { program := "ytencelmnogiamaagreatdoor", sum := "f951492814505655d40b8e90f7fd6a40555d39fa880f17470340b9288415af91", func := "loop.example/pedlar/laws.FnReachOn", spec := "fnReachOn", inPlace := ["internal/bytealg.IndexByteString", "internal/bytealg.IndexString", "internal/bytealg.CountString", "internal/abi.NoEscape", "internal/bytealg.MakeNoZero"], unfollowed := true, recurses := true, named := ["internal/bytealg.MaxLen", "unicode/utf8.first", "unicode/utf8.acceptRanges"], apart := false, laid := [("unicode/utf8.acceptRanges", laid_unicode_utf8_acceptRanges), ("unicode/utf8.first", laid_unicode_utf8_first)], narrowed := true }
def FnReachOnUptoSaid : Prop := fnReachOnUptoRow.holds Tryz.pinned (OpenSpec.upto fnReachOnSpec)

/-- 'laws.FnReachLets', WHERE WHAT IT READS IS OF BULK AT MOST 1048576: true; the input reads as it did. -/
def fnReachLetsUptoRow : OpenClaim := { program := "ytencelmnogiamaagreatdoor", sum := "f951492814505655d40b8e90f7fd6a40555d39fa880f17470340b9288415af91", func := "loop.example/pedlar/laws.FnReachLets", spec := "fnReachLets", inPlace := ["internal/bytealg.IndexByteString", "internal/bytealg.IndexString", "internal/bytealg.CountString", "internal/abi.NoEscape", "internal/bytealg.MakeNoZero"], unfollowed := true, recurses := true, named := ["internal/bytealg.MaxLen", "unicode/utf8.first", "unicode/utf8.acceptRanges"], apart := false, laid := [("unicode/utf8.acceptRanges", laid_unicode_utf8_acceptRanges), ("unicode/utf8.first", laid_unicode_utf8_first)], narrowed := true }
def FnReachLetsUptoSaid : Prop := fnReachLetsUptoRow.holds Tryz.pinned (OpenSpec.upto fnReachLetsSpec)

end Rows
end Go.Proofs.YtencelmnogiamaaGreatDoor
