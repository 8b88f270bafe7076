/-
  NARROWER THAN 'FOR EVERY INPUT', by the rows' own cells (each row's printed sentence says how): FnTripStep: ifaces, laid · FnTripStepWait: ifaces, laid · FnTripStepKnown: ifaces, laid · FnTripRunOne: ifaces, laid.
  DERIVED. THE GIVEN ROWS OF THIS SEAT. 4 by the template 'for every input the law returns true; each argument reads behind the call as it read before'; 0 by the template 'total and deterministic' (their statements: YtngholilfbdfkaaGreatDoorTotals.lean).
  GIVEN WITH THE SEED: the statements are not yours to turn. If you find one false, say at which input.
  Laid BY PROGRAM, IN A SANDBOX (cutbox-rows.mjs): the forced cells as the released guide's own fill.sh prints them over the translation 9d7616b290dc4d6c… (all of the seat's roots in one cut). By AI agents, Wed Nov 11 2026. No macro, syntax, notation, axiom, sorry.
-/
import Derived.Test.YtngholilfbdfkaaGreatDoorChecked
import GoSem.PinnedTables
import GoSem.Claim
import GoSem.ClaimJoined
import GoSem.ClaimMapViews
import Derived.JoinedTies
import Derived.KernelRfl
namespace Go.Proofs.YtngholilfbdfkaaGreatDoor
/- THE CELL 'sum', in the pinned program and in every row, IS THE sha256 OF THE DUMP (.gsa) THAT YtngholilfbdfkaaGreatDoorProg.lean LOADS. Nothing in Lean hashes anything: it is a label: what it is worth is what the hold of that sum in a sandbox is worth. -/
noncomputable def Tryz.pinned : Pinned := { name := "ytngholilfbdfkaagreatdoor", sum := "9d7616b290dc4d6c651c57b4cc7e5b79c15e5d7c85aba8eee529a53b7748454c", checked := Tryz.checked }
namespace Rows
def none {H : Type} : Left H := { results := [], args := [] }

/- WHAT THE LISTED PACKAGE-LEVEL VARIABLES READ AS WHEN THE CALL BEGINS. Each datum BY PROGRAM (the guide's laid-datum.mjs) off the statement by which the dump's own 'gosem.cut.vars' lays the variable. In a bare row this is a premise. The card (YtngholilfbdfkaaGreatDoorCards.lean) ties it to the program's text. -/
def laid_unicode_utf8_acceptRanges {H : Type} : DataW H := .agg [.agg [.lit (.int .u8 128), .lit (.int .u8 191)], .agg [.lit (.int .u8 160), .lit (.int .u8 191)], .agg [.lit (.int .u8 128), .lit (.int .u8 159)], .agg [.lit (.int .u8 144), .lit (.int .u8 191)], .agg [.lit (.int .u8 128), .lit (.int .u8 143)], .agg [.lit (.int .u8 0), .lit (.int .u8 0)], .agg [.lit (.int .u8 0), .lit (.int .u8 0)], .agg [.lit (.int .u8 0), .lit (.int .u8 0)], .agg [.lit (.int .u8 0), .lit (.int .u8 0)], .agg [.lit (.int .u8 0), .lit (.int .u8 0)], .agg [.lit (.int .u8 0), .lit (.int .u8 0)], .agg [.lit (.int .u8 0), .lit (.int .u8 0)], .agg [.lit (.int .u8 0), .lit (.int .u8 0)], .agg [.lit (.int .u8 0), .lit (.int .u8 0)], .agg [.lit (.int .u8 0), .lit (.int .u8 0)], .agg [.lit (.int .u8 0), .lit (.int .u8 0)]]
def laid_loop_example_pedlar_impl_errNoCall {H : Type} : DataW H := .iface "*errors.errorString" (.ptr (.agg [.lit (.string [110, 111, 32, 99, 97, 108, 108, 32, 99, 97, 110, 32, 98, 101, 32, 109, 97, 100, 101])]))
/-- One of Go's own tables, pinned by name: the form's constant. -/
def laid_unicode_utf8_first : DataW Unit := Go.Pinned.utf8First

/-- 'laws.FnTripStep': WHATEVER THE INPUT: true; the input reads as it did. -/
def fnTripStepSpec : ChangeSpec := { name := "fnTripStep", vars := ["loop.example/pedlar/impl.errNoCall"], fn := fun _ => fun
  | [d, g1] => { results := [.lit (.bool true)], args := [d], vars := [g1] }
  | _ => none }
def fnTripStepRow : OpenClaim := { program := "ytngholilfbdfkaagreatdoor", sum := "9d7616b290dc4d6c651c57b4cc7e5b79c15e5d7c85aba8eee529a53b7748454c", func := "loop.example/pedlar/laws.FnTripStep", spec := "fnTripStep", inPlace := ["internal/bytealg.IndexByteString", "internal/bytealg.IndexString", "internal/bytealg.CountString", "internal/abi.NoEscape", "internal/bytealg.MakeNoZero", "internal/reflectlite.TypeOf"], unfollowed := true, recurses := true, named := ["internal/bytealg.MaxLen", "unicode/utf8.first", "unicode/utf8.acceptRanges", "loop.example/pedlar/impl.errNoCall"], ifaces := true, apart := false, laid := [("unicode/utf8.acceptRanges", laid_unicode_utf8_acceptRanges), ("loop.example/pedlar/impl.errNoCall", laid_loop_example_pedlar_impl_errNoCall), ("unicode/utf8.first", laid_unicode_utf8_first)] }
def FnTripStepSaid : Prop := fnTripStepRow.holds Tryz.pinned (OpenSpec.ofChange fnTripStepSpec)

/-- ITS FALSE NEIGHBOUR: 'it returns false'. Refute it at one input. -/
def fnTripStepWrong : ChangeSpec := { name := "fnTripStep", vars := ["loop.example/pedlar/impl.errNoCall"], fn := fun _ => fun
  | [d, g1] => { results := [.lit (.bool false)], args := [d], vars := [g1] }
  | _ => none }
def FnTripStepWrongFalsely : Prop := fnTripStepRow.holds Tryz.pinned (OpenSpec.ofChange fnTripStepWrong)

/-- 'laws.FnTripStepWait': WHATEVER THE INPUT: true; the input reads as it did. -/
def fnTripStepWaitSpec : ChangeSpec := { name := "fnTripStepWait", vars := ["loop.example/pedlar/impl.errNoCall"], fn := fun _ => fun
  | [d, g1] => { results := [.lit (.bool true)], args := [d], vars := [g1] }
  | _ => none }
def fnTripStepWaitRow : OpenClaim := { program := "ytngholilfbdfkaagreatdoor", sum := "9d7616b290dc4d6c651c57b4cc7e5b79c15e5d7c85aba8eee529a53b7748454c", func := "loop.example/pedlar/laws.FnTripStepWait", spec := "fnTripStepWait", inPlace := ["internal/bytealg.IndexByteString", "internal/bytealg.IndexString", "internal/bytealg.CountString", "internal/abi.NoEscape", "internal/bytealg.MakeNoZero", "internal/reflectlite.TypeOf"], unfollowed := true, recurses := true, named := ["internal/bytealg.MaxLen", "unicode/utf8.first", "unicode/utf8.acceptRanges", "loop.example/pedlar/impl.errNoCall"], ifaces := true, apart := false, laid := [("unicode/utf8.acceptRanges", laid_unicode_utf8_acceptRanges), ("loop.example/pedlar/impl.errNoCall", laid_loop_example_pedlar_impl_errNoCall), ("unicode/utf8.first", laid_unicode_utf8_first)] }
def FnTripStepWaitSaid : Prop := fnTripStepWaitRow.holds Tryz.pinned (OpenSpec.ofChange fnTripStepWaitSpec)

/-- ITS FALSE NEIGHBOUR: 'it returns false'. Refute it at one input. -/
def fnTripStepWaitWrong : ChangeSpec := { name := "fnTripStepWait", vars := ["loop.example/pedlar/impl.errNoCall"], fn := fun _ => fun
  | [d, g1] => { results := [.lit (.bool false)], args := [d], vars := [g1] }
  | _ => none }
def FnTripStepWaitWrongFalsely : Prop := fnTripStepWaitRow.holds Tryz.pinned (OpenSpec.ofChange fnTripStepWaitWrong)

/-- 'laws.FnTripStepKnown': WHATEVER THE INPUT: true; the input reads as it did. -/
def fnTripStepKnownSpec : ChangeSpec := { name := "fnTripStepKnown", vars := ["loop.example/pedlar/impl.errNoCall"], fn := fun _ => fun
  | [d, g1] => { results := [.lit (.bool true)], args := [d], vars := [g1] }
  | _ => none }
def fnTripStepKnownRow : OpenClaim := { program := "ytngholilfbdfkaagreatdoor", sum := "9d7616b290dc4d6c651c57b4cc7e5b79c15e5d7c85aba8eee529a53b7748454c", func := "loop.example/pedlar/laws.FnTripStepKnown", spec := "fnTripStepKnown", inPlace := ["internal/bytealg.IndexByteString", "internal/bytealg.IndexString", "internal/bytealg.CountString", "internal/abi.NoEscape", "internal/bytealg.MakeNoZero", "internal/reflectlite.TypeOf"], unfollowed := true, recurses := true, named := ["internal/bytealg.MaxLen", "unicode/utf8.first", "unicode/utf8.acceptRanges", "loop.example/pedlar/impl.errNoCall"], ifaces := true, apart := false, laid := [("unicode/utf8.acceptRanges", laid_unicode_utf8_acceptRanges), ("loop.example/pedlar/impl.errNoCall", laid_loop_example_pedlar_impl_errNoCall), ("unicode/utf8.first", laid_unicode_utf8_first)] }
def FnTripStepKnownSaid : Prop := fnTripStepKnownRow.holds Tryz.pinned (OpenSpec.ofChange fnTripStepKnownSpec)

/-- ITS FALSE NEIGHBOUR: 'it returns false'. Refute it at one input. -/
def fnTripStepKnownWrong : ChangeSpec := { name := "fnTripStepKnown", vars := ["loop.example/pedlar/impl.errNoCall"], fn := fun _ => fun
  | [d, g1] => { results := [.lit (.bool false)], args := [d], vars := [g1] }
  | _ => none }
def FnTripStepKnownWrongFalsely : Prop := fnTripStepKnownRow.holds Tryz.pinned (OpenSpec.ofChange fnTripStepKnownWrong)

/-- 'laws.FnTripRunOne': WHATEVER THE INPUT: true; the input reads as it did. -/
def fnTripRunOneSpec : ChangeSpec := { name := "fnTripRunOne", vars := ["loop.example/pedlar/impl.errNoCall"], fn := fun _ => fun
  | [d, g1] => { results := [.lit (.bool true)], args := [d], vars := [g1] }
  | _ => none }
def fnTripRunOneRow : OpenClaim := { program := "ytngholilfbdfkaagreatdoor", sum := "9d7616b290dc4d6c651c57b4cc7e5b79c15e5d7c85aba8eee529a53b7748454c", func := "loop.example/pedlar/laws.FnTripRunOne", spec := "fnTripRunOne", inPlace := ["internal/bytealg.IndexByteString", "internal/bytealg.IndexString", "internal/bytealg.CountString", "internal/abi.NoEscape", "internal/bytealg.MakeNoZero", "internal/reflectlite.TypeOf"], unfollowed := true, recurses := true, named := ["internal/bytealg.MaxLen", "unicode/utf8.first", "unicode/utf8.acceptRanges", "loop.example/pedlar/impl.errNoCall"], ifaces := true, apart := false, laid := [("unicode/utf8.acceptRanges", laid_unicode_utf8_acceptRanges), ("loop.example/pedlar/impl.errNoCall", laid_loop_example_pedlar_impl_errNoCall), ("unicode/utf8.first", laid_unicode_utf8_first)] }
def FnTripRunOneSaid : Prop := fnTripRunOneRow.holds Tryz.pinned (OpenSpec.ofChange fnTripRunOneSpec)

/-- ITS FALSE NEIGHBOUR: 'it returns false'. Refute it at one input. -/
def fnTripRunOneWrong : ChangeSpec := { name := "fnTripRunOne", vars := ["loop.example/pedlar/impl.errNoCall"], fn := fun _ => fun
  | [d, g1] => { results := [.lit (.bool false)], args := [d], vars := [g1] }
  | _ => none }
def FnTripRunOneWrongFalsely : Prop := fnTripRunOneRow.holds Tryz.pinned (OpenSpec.ofChange fnTripRunOneWrong)

/- THE SECOND FORM. 'bulk': how many values and letters a reading holds, each counted each time it is reached (what is shared counts as often as it is met; a slice's spare places count too). A statement '..UptoSaid' is the law's where the arguments, and the package variables that the reading takes, are together of bulk at most 1048576: NARROWER than '..Said'. Prove '..Said' where nothing that the law and all that it calls make is longer than what came in: it says more and counts as full. Else prove '..UptoSaid'. A law counts once. -/
mutual
def uptoBulk {H : Type} : DataW H → Nat
  | .lit (.string bytes) => bytes.length + 1
  | .lit _ => 1
  | .nil => 1
  | .ptr d => uptoBulk d + 1
  | .slice elems spare => uptoBulkAll elems + uptoBulkAll spare + 1
  | .agg parts => uptoBulkAll parts + 1
  | .iface _ d => uptoBulk d + 1
  | .map entries => uptoBulkEntries entries + 1
  | .held _ => 1
def uptoBulkAll {H : Type} : List (DataW H) → Nat
  | [] => 0
  | d :: r => uptoBulk d + uptoBulkAll r
def uptoBulkEntries {H : Type} : List (Lit × DataW H) → Nat
  | [] => 0
  | x :: r => uptoBulkEntry x + uptoBulkEntries r
def uptoBulkEntry {H : Type} : Lit × DataW H → Nat
  | (.string bytes, d) => bytes.length + uptoBulk d + 1
  | (_, d) => uptoBulk d + 1
 end
def uptoSmall : (H : Type) → List (DataW H) → Bool := fun _ ds => decide (uptoBulkAll ds ≤ 1048576)
def OpenSpec.upto (s : _root_.Go.ChangeSpec) : _root_.Go.OpenSpec := { _root_.Go.OpenSpec.ofChange s with cond := some uptoSmall }

/-- 'laws.FnTripStep', WHERE WHAT IT READS IS OF BULK AT MOST 1048576: true; the input reads as it did. -/
def fnTripStepUptoRow : OpenClaim := { program := "ytngholilfbdfkaagreatdoor", sum := "9d7616b290dc4d6c651c57b4cc7e5b79c15e5d7c85aba8eee529a53b7748454c", func := "loop.example/pedlar/laws.FnTripStep", spec := "fnTripStep", inPlace := ["internal/bytealg.IndexByteString", "internal/bytealg.IndexString", "internal/bytealg.CountString", "internal/abi.NoEscape", "internal/bytealg.MakeNoZero", "internal/reflectlite.TypeOf"], unfollowed := true, recurses := true, named := ["internal/bytealg.MaxLen", "unicode/utf8.first", "unicode/utf8.acceptRanges", "loop.example/pedlar/impl.errNoCall"], ifaces := true, apart := false, laid := [("unicode/utf8.acceptRanges", laid_unicode_utf8_acceptRanges), ("loop.example/pedlar/impl.errNoCall", laid_loop_example_pedlar_impl_errNoCall), ("unicode/utf8.first", laid_unicode_utf8_first)], narrowed := true }
def FnTripStepUptoSaid : Prop := fnTripStepUptoRow.holds Tryz.pinned (OpenSpec.upto fnTripStepSpec)

/-- 'laws.FnTripStepWait', WHERE WHAT IT READS IS OF BULK AT MOST 1048576: true; the input reads as it did. -/
def fnTripStepWaitUptoRow : OpenClaim := { program := "ytngholilfbdfkaagreatdoor", sum := "9d7616b290dc4d6c651c57b4cc7e5b79c15e5d7c85aba8eee529a53b7748454c", func := "loop.example/pedlar/laws.FnTripStepWait", spec := "fnTripStepWait", inPlace := ["internal/bytealg.IndexByteString", "internal/bytealg.IndexString", "internal/bytealg.CountString", "internal/abi.NoEscape", "internal/bytealg.MakeNoZero", "internal/reflectlite.TypeOf"], unfollowed := true, recurses := true, named := ["internal/bytealg.MaxLen", "unicode/utf8.first", "unicode/utf8.acceptRanges", "loop.example/pedlar/impl.errNoCall"], ifaces := true, apart := false, laid := [("unicode/utf8.acceptRanges", laid_unicode_utf8_acceptRanges), ("loop.example/pedlar/impl.errNoCall", laid_loop_example_pedlar_impl_errNoCall), ("unicode/utf8.first", laid_unicode_utf8_first)], narrowed := true }
def FnTripStepWaitUptoSaid : Prop := fnTripStepWaitUptoRow.holds Tryz.pinned (OpenSpec.upto fnTripStepWaitSpec)

/-- 'laws.FnTripStepKnown', WHERE WHAT IT READS IS OF BULK AT MOST 1048576: true; the input reads as it did. -/
def fnTripStepKnownUptoRow : OpenClaim := { program := "ytngholilfbdfkaagreatdoor", sum := "9d7616b290dc4d6c651c57b4cc7e5b79c15e5d7c85aba8eee529a53b7748454c", func := "loop.example/pedlar/laws.FnTripStepKnown", spec := "fnTripStepKnown", inPlace := ["internal/bytealg.IndexByteString", "internal/bytealg.IndexString", "internal/bytealg.CountString", "internal/abi.NoEscape", "internal/bytealg.MakeNoZero", "internal/reflectlite.TypeOf"], unfollowed := true, recurses := true, named := ["internal/bytealg.MaxLen", "unicode/utf8.first", "unicode/utf8.acceptRanges", "loop.example/pedlar/impl.errNoCall"], ifaces := true, apart := false, laid := [("unicode/utf8.acceptRanges", laid_unicode_utf8_acceptRanges), ("loop.example/pedlar/impl.errNoCall", laid_loop_example_pedlar_impl_errNoCall), ("unicode/utf8.first", laid_unicode_utf8_first)], narrowed := true }
def FnTripStepKnownUptoSaid : Prop := fnTripStepKnownUptoRow.holds Tryz.pinned (OpenSpec.upto fnTripStepKnownSpec)

/-- 'laws.FnTripRunOne', WHERE WHAT IT READS IS OF BULK AT MOST 1048576: true; the input reads as it did. -/
def fnTripRunOneUptoRow : OpenClaim := { program := "ytngholilfbdfkaagreatdoor", sum := "9d7616b290dc4d6c651c57b4cc7e5b79c15e5d7c85aba8eee529a53b7748454c", func := "loop.example/pedlar/laws.FnTripRunOne", spec := "fnTripRunOne", inPlace := ["internal/bytealg.IndexByteString", "internal/bytealg.IndexString", "internal/bytealg.CountString", "internal/abi.NoEscape", "internal/bytealg.MakeNoZero", "internal/reflectlite.TypeOf"], unfollowed := true, recurses := true, named := ["internal/bytealg.MaxLen", "unicode/utf8.first", "unicode/utf8.acceptRanges", "loop.example/pedlar/impl.errNoCall"], ifaces := true, apart := false, laid := [("unicode/utf8.acceptRanges", laid_unicode_utf8_acceptRanges), ("loop.example/pedlar/impl.errNoCall", laid_loop_example_pedlar_impl_errNoCall), ("unicode/utf8.first", laid_unicode_utf8_first)], narrowed := true }
def FnTripRunOneUptoSaid : Prop := fnTripRunOneUptoRow.holds Tryz.pinned (OpenSpec.upto fnTripRunOneSpec)

end Rows
end Go.Proofs.YtngholilfbdfkaaGreatDoor
