/-
  NARROWER THAN 'FOR EVERY INPUT', by the rows' own cells (each row's printed sentence says how): FnGoFail: ifaces, laid · FnGoOnce: ifaces, laid · FnGoSteps: ifaces, laid · FnGoKinds: ifaces, laid · FnGoDoor: ifaces, laid · FnGoWait: ifaces, laid.
  DERIVED. THE GIVEN ROWS OF THIS SEAT. 6 by the template 'for every input the law returns true; each argument reads behind the call as it read before'; 0 by the template 'total and deterministic' (their statements: YtlclejemchbjiaaGreatDoorTotals.lean).
  GIVEN WITH THE SEED: the statements are not yours to turn. If you find one false, say at which input.
  Laid BY PROGRAM, IN A SANDBOX (cutbox-rows.mjs): the forced cells as the released guide's own fill.sh prints them over the translation 2691963d557a6175… (all of the seat's roots in one cut). By AI agents, Wed Nov 11 2026. No macro, syntax, notation, axiom, sorry.
-/
import Derived.Test.YtlclejemchbjiaaGreatDoorChecked
import GoSem.PinnedTables
import GoSem.Claim
import GoSem.ClaimJoined
import GoSem.ClaimMapViews
import Derived.JoinedTies
import Derived.KernelRfl
namespace Go.Proofs.YtlclejemchbjiaaGreatDoor
/- THE CELL 'sum', in the pinned program and in every row, IS THE sha256 OF THE DUMP (.gsa) THAT YtlclejemchbjiaaGreatDoorProg.lean LOADS. Nothing in Lean hashes anything: it is a label: what it is worth is what the hold of that sum in a sandbox is worth. -/
noncomputable def Tryz.pinned : Pinned := { name := "ytlclejemchbjiaagreatdoor", sum := "2691963d557a617582232bef84da922df89342e1e5eacfb1a898ef410fd6d676", checked := Tryz.checked }
namespace Rows
def none {H : Type} : Left H := { results := [], args := [] }

/- WHAT THE LISTED PACKAGE-LEVEL VARIABLES READ AS WHEN THE CALL BEGINS. Each datum BY PROGRAM (the guide's laid-datum.mjs) off the statement by which the dump's own 'gosem.cut.vars' lays the variable. In a bare row this is a premise. The card (YtlclejemchbjiaaGreatDoorCards.lean) ties it to the program's text. -/
def laid_unicode_utf8_acceptRanges {H : Type} : DataW H := .agg [.agg [.lit (.int .u8 128), .lit (.int .u8 191)], .agg [.lit (.int .u8 160), .lit (.int .u8 191)], .agg [.lit (.int .u8 128), .lit (.int .u8 159)], .agg [.lit (.int .u8 144), .lit (.int .u8 191)], .agg [.lit (.int .u8 128), .lit (.int .u8 143)], .agg [.lit (.int .u8 0), .lit (.int .u8 0)], .agg [.lit (.int .u8 0), .lit (.int .u8 0)], .agg [.lit (.int .u8 0), .lit (.int .u8 0)], .agg [.lit (.int .u8 0), .lit (.int .u8 0)], .agg [.lit (.int .u8 0), .lit (.int .u8 0)], .agg [.lit (.int .u8 0), .lit (.int .u8 0)], .agg [.lit (.int .u8 0), .lit (.int .u8 0)], .agg [.lit (.int .u8 0), .lit (.int .u8 0)], .agg [.lit (.int .u8 0), .lit (.int .u8 0)], .agg [.lit (.int .u8 0), .lit (.int .u8 0)], .agg [.lit (.int .u8 0), .lit (.int .u8 0)]]
def laid_loop_example_pedlar_impl_errNoCall {H : Type} : DataW H := .iface "*errors.errorString" (.ptr (.agg [.lit (.string [110, 111, 32, 99, 97, 108, 108, 32, 99, 97, 110, 32, 98, 101, 32, 109, 97, 100, 101])]))
/-- One of Go's own tables, pinned by name: the form's constant. -/
def laid_unicode_utf8_first : DataW Unit := Go.Pinned.utf8First

/-- 'laws.FnGoFail': WHATEVER THE INPUT: true; the input reads as it did. -/
def fnGoFailSpec : ChangeSpec := { name := "fnGoFail", vars := ["loop.example/pedlar/impl.errNoCall"], fn := fun _ => fun
  | [d, g1] => { results := [.lit (.bool true)], args := [d], vars := [g1] }
  | _ => none }
def fnGoFailRow : OpenClaim := { program := "ytlclejemchbjiaagreatdoor", sum := "2691963d557a617582232bef84da922df89342e1e5eacfb1a898ef410fd6d676", func := "loop.example/pedlar/laws.FnGoFail", spec := "fnGoFail", inPlace := ["internal/bytealg.IndexByteString", "internal/bytealg.IndexString", "internal/bytealg.CountString", "internal/abi.NoEscape", "internal/bytealg.MakeNoZero", "internal/reflectlite.TypeOf"], unfollowed := true, recurses := true, named := ["internal/bytealg.MaxLen", "unicode/utf8.first", "unicode/utf8.acceptRanges", "loop.example/pedlar/impl.errNoCall"], ifaces := true, apart := false, laid := [("unicode/utf8.acceptRanges", laid_unicode_utf8_acceptRanges), ("loop.example/pedlar/impl.errNoCall", laid_loop_example_pedlar_impl_errNoCall), ("unicode/utf8.first", laid_unicode_utf8_first)] }
def FnGoFailSaid : Prop := fnGoFailRow.holds Tryz.pinned (OpenSpec.ofChange fnGoFailSpec)

/-- ITS FALSE NEIGHBOUR: 'it returns false'. Refute it at one input. -/
def fnGoFailWrong : ChangeSpec := { name := "fnGoFail", vars := ["loop.example/pedlar/impl.errNoCall"], fn := fun _ => fun
  | [d, g1] => { results := [.lit (.bool false)], args := [d], vars := [g1] }
  | _ => none }
def FnGoFailWrongFalsely : Prop := fnGoFailRow.holds Tryz.pinned (OpenSpec.ofChange fnGoFailWrong)

/-- 'laws.FnGoOnce': WHATEVER THE INPUT: true; the input reads as it did. -/
def fnGoOnceSpec : ChangeSpec := { name := "fnGoOnce", vars := ["loop.example/pedlar/impl.errNoCall"], fn := fun _ => fun
  | [d, g1] => { results := [.lit (.bool true)], args := [d], vars := [g1] }
  | _ => none }
def fnGoOnceRow : OpenClaim := { program := "ytlclejemchbjiaagreatdoor", sum := "2691963d557a617582232bef84da922df89342e1e5eacfb1a898ef410fd6d676", func := "loop.example/pedlar/laws.FnGoOnce", spec := "fnGoOnce", inPlace := ["internal/bytealg.IndexByteString", "internal/bytealg.IndexString", "internal/bytealg.CountString", "internal/abi.NoEscape", "internal/bytealg.MakeNoZero", "internal/reflectlite.TypeOf"], unfollowed := true, recurses := true, named := ["internal/bytealg.MaxLen", "unicode/utf8.first", "unicode/utf8.acceptRanges", "loop.example/pedlar/impl.errNoCall"], ifaces := true, apart := false, laid := [("unicode/utf8.acceptRanges", laid_unicode_utf8_acceptRanges), ("loop.example/pedlar/impl.errNoCall", laid_loop_example_pedlar_impl_errNoCall), ("unicode/utf8.first", laid_unicode_utf8_first)] }
def FnGoOnceSaid : Prop := fnGoOnceRow.holds Tryz.pinned (OpenSpec.ofChange fnGoOnceSpec)

/-- ITS FALSE NEIGHBOUR: 'it returns false'. Refute it at one input. -/
def fnGoOnceWrong : ChangeSpec := { name := "fnGoOnce", vars := ["loop.example/pedlar/impl.errNoCall"], fn := fun _ => fun
  | [d, g1] => { results := [.lit (.bool false)], args := [d], vars := [g1] }
  | _ => none }
def FnGoOnceWrongFalsely : Prop := fnGoOnceRow.holds Tryz.pinned (OpenSpec.ofChange fnGoOnceWrong)

/-- 'laws.FnGoSteps': WHATEVER THE INPUT: true; the input reads as it did. -/
def fnGoStepsSpec : ChangeSpec := { name := "fnGoSteps", vars := ["loop.example/pedlar/impl.errNoCall"], fn := fun _ => fun
  | [d, g1] => { results := [.lit (.bool true)], args := [d], vars := [g1] }
  | _ => none }
def fnGoStepsRow : OpenClaim := { program := "ytlclejemchbjiaagreatdoor", sum := "2691963d557a617582232bef84da922df89342e1e5eacfb1a898ef410fd6d676", func := "loop.example/pedlar/laws.FnGoSteps", spec := "fnGoSteps", inPlace := ["internal/bytealg.IndexByteString", "internal/bytealg.IndexString", "internal/bytealg.CountString", "internal/abi.NoEscape", "internal/bytealg.MakeNoZero", "internal/reflectlite.TypeOf"], unfollowed := true, recurses := true, named := ["internal/bytealg.MaxLen", "unicode/utf8.first", "unicode/utf8.acceptRanges", "loop.example/pedlar/impl.errNoCall"], ifaces := true, apart := false, laid := [("unicode/utf8.acceptRanges", laid_unicode_utf8_acceptRanges), ("loop.example/pedlar/impl.errNoCall", laid_loop_example_pedlar_impl_errNoCall), ("unicode/utf8.first", laid_unicode_utf8_first)] }
def FnGoStepsSaid : Prop := fnGoStepsRow.holds Tryz.pinned (OpenSpec.ofChange fnGoStepsSpec)

/-- ITS FALSE NEIGHBOUR: 'it returns false'. Refute it at one input. -/
def fnGoStepsWrong : ChangeSpec := { name := "fnGoSteps", vars := ["loop.example/pedlar/impl.errNoCall"], fn := fun _ => fun
  | [d, g1] => { results := [.lit (.bool false)], args := [d], vars := [g1] }
  | _ => none }
def FnGoStepsWrongFalsely : Prop := fnGoStepsRow.holds Tryz.pinned (OpenSpec.ofChange fnGoStepsWrong)

/-- 'laws.FnGoKinds': WHATEVER THE INPUT: true; the input reads as it did. -/
def fnGoKindsSpec : ChangeSpec := { name := "fnGoKinds", vars := ["loop.example/pedlar/impl.errNoCall"], fn := fun _ => fun
  | [d, g1] => { results := [.lit (.bool true)], args := [d], vars := [g1] }
  | _ => none }
def fnGoKindsRow : OpenClaim := { program := "ytlclejemchbjiaagreatdoor", sum := "2691963d557a617582232bef84da922df89342e1e5eacfb1a898ef410fd6d676", func := "loop.example/pedlar/laws.FnGoKinds", spec := "fnGoKinds", inPlace := ["internal/bytealg.IndexByteString", "internal/bytealg.IndexString", "internal/bytealg.CountString", "internal/abi.NoEscape", "internal/bytealg.MakeNoZero", "internal/reflectlite.TypeOf"], unfollowed := true, recurses := true, named := ["internal/bytealg.MaxLen", "unicode/utf8.first", "unicode/utf8.acceptRanges", "loop.example/pedlar/impl.errNoCall"], ifaces := true, apart := false, laid := [("unicode/utf8.acceptRanges", laid_unicode_utf8_acceptRanges), ("loop.example/pedlar/impl.errNoCall", laid_loop_example_pedlar_impl_errNoCall), ("unicode/utf8.first", laid_unicode_utf8_first)] }
def FnGoKindsSaid : Prop := fnGoKindsRow.holds Tryz.pinned (OpenSpec.ofChange fnGoKindsSpec)

/-- ITS FALSE NEIGHBOUR: 'it returns false'. Refute it at one input. -/
def fnGoKindsWrong : ChangeSpec := { name := "fnGoKinds", vars := ["loop.example/pedlar/impl.errNoCall"], fn := fun _ => fun
  | [d, g1] => { results := [.lit (.bool false)], args := [d], vars := [g1] }
  | _ => none }
def FnGoKindsWrongFalsely : Prop := fnGoKindsRow.holds Tryz.pinned (OpenSpec.ofChange fnGoKindsWrong)

/-- 'laws.FnGoDoor': WHATEVER THE INPUT: true; the input reads as it did. -/
def fnGoDoorSpec : ChangeSpec := { name := "fnGoDoor", vars := ["loop.example/pedlar/impl.errNoCall"], fn := fun _ => fun
  | [d, g1] => { results := [.lit (.bool true)], args := [d], vars := [g1] }
  | _ => none }
def fnGoDoorRow : OpenClaim := { program := "ytlclejemchbjiaagreatdoor", sum := "2691963d557a617582232bef84da922df89342e1e5eacfb1a898ef410fd6d676", func := "loop.example/pedlar/laws.FnGoDoor", spec := "fnGoDoor", inPlace := ["internal/bytealg.IndexByteString", "internal/bytealg.IndexString", "internal/bytealg.CountString", "internal/abi.NoEscape", "internal/bytealg.MakeNoZero", "internal/reflectlite.TypeOf"], unfollowed := true, recurses := true, named := ["internal/bytealg.MaxLen", "unicode/utf8.first", "unicode/utf8.acceptRanges", "loop.example/pedlar/impl.errNoCall"], ifaces := true, apart := false, laid := [("unicode/utf8.acceptRanges", laid_unicode_utf8_acceptRanges), ("loop.example/pedlar/impl.errNoCall", laid_loop_example_pedlar_impl_errNoCall), ("unicode/utf8.first", laid_unicode_utf8_first)] }
def FnGoDoorSaid : Prop := fnGoDoorRow.holds Tryz.pinned (OpenSpec.ofChange fnGoDoorSpec)

/-- ITS FALSE NEIGHBOUR: 'it returns false'. Refute it at one input. -/
def fnGoDoorWrong : ChangeSpec := { name := "fnGoDoor", vars := ["loop.example/pedlar/impl.errNoCall"], fn := fun _ => fun
  | [d, g1] => { results := [.lit (.bool false)], args := [d], vars := [g1] }
  | _ => none }
def FnGoDoorWrongFalsely : Prop := fnGoDoorRow.holds Tryz.pinned (OpenSpec.ofChange fnGoDoorWrong)

/-- 'laws.FnGoWait': WHATEVER THE INPUT: true; the input reads as it did. -/
def fnGoWaitSpec : ChangeSpec := { name := "fnGoWait", vars := ["loop.example/pedlar/impl.errNoCall"], fn := fun _ => fun
  | [d, g1] => { results := [.lit (.bool true)], args := [d], vars := [g1] }
  | _ => none }
def fnGoWaitRow : OpenClaim := { program := "ytlclejemchbjiaagreatdoor", sum := "2691963d557a617582232bef84da922df89342e1e5eacfb1a898ef410fd6d676", func := "loop.example/pedlar/laws.FnGoWait", spec := "fnGoWait", inPlace := ["internal/bytealg.IndexByteString", "internal/bytealg.IndexString", "internal/bytealg.CountString", "internal/abi.NoEscape", "internal/bytealg.MakeNoZero", "internal/reflectlite.TypeOf"], unfollowed := true, recurses := true, named := ["internal/bytealg.MaxLen", "unicode/utf8.first", "unicode/utf8.acceptRanges", "loop.example/pedlar/impl.errNoCall"], ifaces := true, apart := false, laid := [("unicode/utf8.acceptRanges", laid_unicode_utf8_acceptRanges), ("loop.example/pedlar/impl.errNoCall", laid_loop_example_pedlar_impl_errNoCall), ("unicode/utf8.first", laid_unicode_utf8_first)] }
def FnGoWaitSaid : Prop := fnGoWaitRow.holds Tryz.pinned (OpenSpec.ofChange fnGoWaitSpec)

/-- ITS FALSE NEIGHBOUR: 'it returns false'. Refute it at one input. -/
def fnGoWaitWrong : ChangeSpec := { name := "fnGoWait", vars := ["loop.example/pedlar/impl.errNoCall"], fn := fun _ => fun
  | [d, g1] => { results := [.lit (.bool false)], args := [d], vars := [g1] }
  | _ => none }
def FnGoWaitWrongFalsely : Prop := fnGoWaitRow.holds Tryz.pinned (OpenSpec.ofChange fnGoWaitWrong)

/- THE SECOND FORM. 'bulk': how many values and letters a reading holds, each counted each time it is reached (what is shared counts as often as it is met; a slice's spare places count too). A statement '..UptoSaid' is the law's where the arguments, and the package variables that the reading takes, are together of bulk at most 1048576: NARROWER than '..Said'. Prove '..Said' where nothing that the law and all that it calls make is longer than what came in: it says more and counts as full. Else prove '..UptoSaid'. A law counts once. -/
mutual
def uptoBulk {H : Type} : DataW H → Nat
  | .lit (.string bytes) => bytes.length + 1
  | .lit _ => 1
  | .nil => 1
  | .ptr d => uptoBulk d + 1
  | .slice elems spare => uptoBulkAll elems + uptoBulkAll spare + 1
  | .agg parts => uptoBulkAll parts + 1
  | .iface _ d => uptoBulk d + 1
  | .map entries => uptoBulkEntries entries + 1
  | .held _ => 1
def uptoBulkAll {H : Type} : List (DataW H) → Nat
  | [] => 0
  | d :: r => uptoBulk d + uptoBulkAll r
def uptoBulkEntries {H : Type} : List (Lit × DataW H) → Nat
  | [] => 0
  | x :: r => uptoBulkEntry x + uptoBulkEntries r
def uptoBulkEntry {H : Type} : Lit × DataW H → Nat
  | (.string bytes, d) => bytes.length + uptoBulk d + 1
  | (_, d) => uptoBulk d + 1
 end
def uptoSmall : (H : Type) → List (DataW H) → Bool := fun _ ds => decide (uptoBulkAll ds ≤ 1048576)
def OpenSpec.upto (s : _root_.Go.ChangeSpec) : _root_.Go.OpenSpec := { _root_.Go.OpenSpec.ofChange s with cond := some uptoSmall }

/-- 'laws.FnGoFail', WHERE WHAT IT READS IS OF BULK AT MOST 1048576: true; the input reads as it did. -/
def fnGoFailUptoRow : OpenClaim := { program := "ytlclejemchbjiaagreatdoor", sum := "2691963d557a617582232bef84da922df89342e1e5eacfb1a898ef410fd6d676", func := "loop.example/pedlar/laws.FnGoFail", spec := "fnGoFail", inPlace := ["internal/bytealg.IndexByteString", "internal/bytealg.IndexString", "internal/bytealg.CountString", "internal/abi.NoEscape", "internal/bytealg.MakeNoZero", "internal/reflectlite.TypeOf"], unfollowed := true, recurses := true, named := ["internal/bytealg.MaxLen", "unicode/utf8.first", "unicode/utf8.acceptRanges", "loop.example/pedlar/impl.errNoCall"], ifaces := true, apart := false, laid := [("unicode/utf8.acceptRanges", laid_unicode_utf8_acceptRanges), ("loop.example/pedlar/impl.errNoCall", laid_loop_example_pedlar_impl_errNoCall), ("unicode/utf8.first", laid_unicode_utf8_first)], narrowed := true }
def FnGoFailUptoSaid : Prop := fnGoFailUptoRow.holds Tryz.pinned (OpenSpec.upto fnGoFailSpec)

/-- 'laws.FnGoOnce', WHERE WHAT IT READS IS OF BULK AT MOST 1048576: true; the input reads as it did. -/
def fnGoOnceUptoRow : OpenClaim := { program := "ytlclejemchbjiaagreatdoor", sum := "2691963d557a617582232bef84da922df89342e1e5eacfb1a898ef410fd6d676", func := "loop.example/pedlar/laws.FnGoOnce", spec := "fnGoOnce", inPlace := ["internal/bytealg.IndexByteString", "internal/bytealg.IndexString", "internal/bytealg.CountString", "internal/abi.NoEscape", "internal/bytealg.MakeNoZero", "internal/reflectlite.TypeOf"], unfollowed := true, recurses := true, named := ["internal/bytealg.MaxLen", "unicode/utf8.first", "unicode/utf8.acceptRanges", "loop.example/pedlar/impl.errNoCall"], ifaces := true, apart := false, laid := [("unicode/utf8.acceptRanges", laid_unicode_utf8_acceptRanges), ("loop.example/pedlar/impl.errNoCall", laid_loop_example_pedlar_impl_errNoCall), ("unicode/utf8.first", laid_unicode_utf8_first)], narrowed := true }
def FnGoOnceUptoSaid : Prop := fnGoOnceUptoRow.holds Tryz.pinned (OpenSpec.upto fnGoOnceSpec)

/-- 'laws.FnGoSteps', WHERE WHAT IT READS IS OF BULK AT MOST 1048576: true; the input reads as it did. -/
def fnGoStepsUptoRow : OpenClaim := { program := "ytlclejemchbjiaagreatdoor", sum := "2691963d557a617582232bef84da922df89342e1e5eacfb1a898ef410fd6d676", func := "loop.example/pedlar/laws.FnGoSteps", spec := "fnGoSteps", inPlace := ["internal/bytealg.IndexByteString", "internal/bytealg.IndexString", "internal/bytealg.CountString", "internal/abi.NoEscape", "internal/bytealg.MakeNoZero", "internal/reflectlite.TypeOf"], unfollowed := true, recurses := true, named := ["internal/bytealg.MaxLen", "unicode/utf8.first", "unicode/utf8.acceptRanges", "loop.example/pedlar/impl.errNoCall"], ifaces := true, apart := false, laid := [("unicode/utf8.acceptRanges", laid_unicode_utf8_acceptRanges), ("loop.example/pedlar/impl.errNoCall", laid_loop_example_pedlar_impl_errNoCall), ("unicode/utf8.first", laid_unicode_utf8_first)], narrowed := true }
def FnGoStepsUptoSaid : Prop := fnGoStepsUptoRow.holds Tryz.pinned (OpenSpec.upto fnGoStepsSpec)

/-- 'laws.FnGoKinds', WHERE WHAT IT READS IS OF BULK AT MOST 1048576: true; the input reads as it did. -/
def fnGoKindsUptoRow : OpenClaim := { program := "ytlclejemchbjiaagreatdoor", sum := "2691963d557a617582232bef84da922df89342e1e5eacfb1a898ef410fd6d676", func := "loop.example/pedlar/laws.FnGoKinds", spec := "fnGoKinds", inPlace := ["internal/bytealg.IndexByteString", "internal/bytealg.IndexString", "internal/bytealg.CountString", "internal/abi.NoEscape", "internal/bytealg.MakeNoZero", "internal/reflectlite.TypeOf"], unfollowed := true, recurses := true, named := ["internal/bytealg.MaxLen", "unicode/utf8.first", "unicode/utf8.acceptRanges", "loop.example/pedlar/impl.errNoCall"], ifaces := true, apart := false, laid := [("unicode/utf8.acceptRanges", laid_unicode_utf8_acceptRanges), ("loop.example/pedlar/impl.errNoCall", laid_loop_example_pedlar_impl_errNoCall), ("unicode/utf8.first", laid_unicode_utf8_first)], narrowed := true }
def FnGoKindsUptoSaid : Prop := fnGoKindsUptoRow.holds Tryz.pinned (OpenSpec.upto fnGoKindsSpec)

/-- 'laws.FnGoDoor', WHERE WHAT IT READS IS OF BULK AT MOST 1048576: true; the input reads as it did. -/
def fnGoDoorUptoRow : OpenClaim := { program := "ytlclejemchbjiaagreatdoor", sum := "2691963d557a617582232bef84da922df89342e1e5eacfb1a898ef410fd6d676", func := "loop.example/pedlar/laws.FnGoDoor", spec := "fnGoDoor", inPlace := ["internal/bytealg.IndexByteString", "internal/bytealg.IndexString", "internal/bytealg.CountString", "internal/abi.NoEscape", "internal/bytealg.MakeNoZero", "internal/reflectlite.TypeOf"], unfollowed := true, recurses := true, named := ["internal/bytealg.MaxLen", "unicode/utf8.first", "unicode/utf8.acceptRanges", "loop.example/pedlar/impl.errNoCall"], ifaces := true, apart := false, laid := [("unicode/utf8.acceptRanges", laid_unicode_utf8_acceptRanges), ("loop.example/pedlar/impl.errNoCall", laid_loop_example_pedlar_impl_errNoCall), ("unicode/utf8.first", laid_unicode_utf8_first)], narrowed := true }
def FnGoDoorUptoSaid : Prop := fnGoDoorUptoRow.holds Tryz.pinned (OpenSpec.upto fnGoDoorSpec)

/-- 'laws.FnGoWait', WHERE WHAT IT READS IS OF BULK AT MOST 1048576: true; the input reads as it did. -/
def fnGoWaitUptoRow : OpenClaim := { program := "ytlclejemchbjiaagreatdoor", sum := "2691963d557a617582232bef84da922df89342e1e5eacfb1a898ef410fd6d676", func := "loop.example/pedlar/laws.FnGoWait", spec := "fnGoWait", inPlace := ["internal/bytealg.IndexByteString", "internal/bytealg.IndexString", "internal/bytealg.CountString", "internal/abi.NoEscape", "internal/bytealg.MakeNoZero", "internal/reflectlite.TypeOf"], unfollowed := true, recurses := true, named := ["internal/bytealg.MaxLen", "unicode/utf8.first", "unicode/utf8.acceptRanges", "loop.example/pedlar/impl.errNoCall"], ifaces := true, apart := false, laid := [("unicode/utf8.acceptRanges", laid_unicode_utf8_acceptRanges), ("loop.example/pedlar/impl.errNoCall", laid_loop_example_pedlar_impl_errNoCall), ("unicode/utf8.first", laid_unicode_utf8_first)], narrowed := true }
def FnGoWaitUptoSaid : Prop := fnGoWaitUptoRow.holds Tryz.pinned (OpenSpec.upto fnGoWaitSpec)

end Rows
end Go.Proofs.YtlclejemchbjiaaGreatDoor
