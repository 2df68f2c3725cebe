/-
  NARROWER THAN 'FOR EVERY INPUT', by the rows' own cells (each row's printed sentence says how): FnExactWorldOk: laid · FnExactNeeded: laid · FnExactWrap: laid · FnExactRecover: laid.
  DERIVED. THE GIVEN ROWS OF THIS SEAT. 4 by the template 'for every input the law returns true; each argument reads behind the call as it read before'; 0 by the template 'total and deterministic' (their statements: YtcekmnclmldmmaaGreatDoorTotals.lean).
  GIVEN WITH THE SEED: the statements are not yours to turn. If you find one false, say at which input.
  Laid BY PROGRAM, IN A SANDBOX (cutbox-rows.mjs): the forced cells as the released guide's own fill.sh prints them over the translation c658a2e482cf9351… (all of the seat's roots in one cut). By AI agents, Wed Nov 11 2026. No macro, syntax, notation, axiom, sorry.
-/
import Derived.Test.YtcekmnclmldmmaaGreatDoorChecked
import GoSem.PinnedTables
import GoSem.Claim
import GoSem.ClaimJoined
import GoSem.ClaimMapViews
import Derived.JoinedTies
import Derived.KernelRfl
namespace Go.Proofs.YtcekmnclmldmmaaGreatDoor
/- THE CELL 'sum', in the pinned program and in every row, IS THE sha256 OF THE DUMP (.gsa) THAT YtcekmnclmldmmaaGreatDoorProg.lean LOADS. Nothing in Lean hashes anything: it is a label: what it is worth is what the hold of that sum in a sandbox is worth. -/
noncomputable def Tryz.pinned : Pinned := { name := "ytcekmnclmldmmaagreatdoor", sum := "c658a2e482cf9351e123c4adaac3e6d7bef174d7caaf7abe73fcc1a08f7e9fd2", checked := Tryz.checked }
namespace Rows
def none {H : Type} : Left H := { results := [], args := [] }

/- WHAT THE LISTED PACKAGE-LEVEL VARIABLES READ AS WHEN THE CALL BEGINS. Each datum BY PROGRAM (the guide's laid-datum.mjs) off the statement by which the dump's own 'gosem.cut.vars' lays the variable. In a bare row this is a premise. The card (YtcekmnclmldmmaaGreatDoorCards.lean) ties it to the program's text. -/
def laid_unicode_utf8_acceptRanges {H : Type} : DataW H := .agg [.agg [.lit (.int .u8 128), .lit (.int .u8 191)], .agg [.lit (.int .u8 160), .lit (.int .u8 191)], .agg [.lit (.int .u8 128), .lit (.int .u8 159)], .agg [.lit (.int .u8 144), .lit (.int .u8 191)], .agg [.lit (.int .u8 128), .lit (.int .u8 143)], .agg [.lit (.int .u8 0), .lit (.int .u8 0)], .agg [.lit (.int .u8 0), .lit (.int .u8 0)], .agg [.lit (.int .u8 0), .lit (.int .u8 0)], .agg [.lit (.int .u8 0), .lit (.int .u8 0)], .agg [.lit (.int .u8 0), .lit (.int .u8 0)], .agg [.lit (.int .u8 0), .lit (.int .u8 0)], .agg [.lit (.int .u8 0), .lit (.int .u8 0)], .agg [.lit (.int .u8 0), .lit (.int .u8 0)], .agg [.lit (.int .u8 0), .lit (.int .u8 0)], .agg [.lit (.int .u8 0), .lit (.int .u8 0)], .agg [.lit (.int .u8 0), .lit (.int .u8 0)]]
/-- One of Go's own tables, pinned by name: the form's constant. -/
def laid_unicode_utf8_first : DataW Unit := Go.Pinned.utf8First

/-- 'laws.FnExactWorldOk': WHATEVER THE INPUT: true; the input reads as it did. -/
def fnExactWorldOkSpec : ChangeSpec := { name := "fnExactWorldOk", fn := fun _ => fun
  | [d] => { results := [.lit (.bool true)], args := [d] }
  | _ => none }
def fnExactWorldOkRow : OpenClaim := { program := "ytcekmnclmldmmaagreatdoor", sum := "c658a2e482cf9351e123c4adaac3e6d7bef174d7caaf7abe73fcc1a08f7e9fd2", func := "loop.example/g00023/laws.FnExactWorldOk", spec := "fnExactWorldOk", inPlace := ["internal/bytealg.IndexByteString", "internal/bytealg.IndexString", "internal/bytealg.CountString"], recurses := true, named := ["unicode/utf8.first", "unicode/utf8.acceptRanges", "internal/bytealg.MaxLen"], apart := false, laid := [("unicode/utf8.acceptRanges", laid_unicode_utf8_acceptRanges), ("unicode/utf8.first", laid_unicode_utf8_first)] }
def FnExactWorldOkSaid : Prop := fnExactWorldOkRow.holds Tryz.pinned (OpenSpec.ofChange fnExactWorldOkSpec)

/-- ITS FALSE NEIGHBOUR: 'it returns false'. Refute it at one input. -/
def fnExactWorldOkWrong : ChangeSpec := { name := "fnExactWorldOk", fn := fun _ => fun
  | [d] => { results := [.lit (.bool false)], args := [d] }
  | _ => none }
def FnExactWorldOkWrongFalsely : Prop := fnExactWorldOkRow.holds Tryz.pinned (OpenSpec.ofChange fnExactWorldOkWrong)

/-- 'laws.FnExactNeeded': WHATEVER THE INPUT: true; the input reads as it did. -/
def fnExactNeededSpec : ChangeSpec := { name := "fnExactNeeded", fn := fun _ => fun
  | [d1, d2] => { results := [.lit (.bool true)], args := [d1, d2] }
  | _ => none }
def fnExactNeededRow : OpenClaim := { program := "ytcekmnclmldmmaagreatdoor", sum := "c658a2e482cf9351e123c4adaac3e6d7bef174d7caaf7abe73fcc1a08f7e9fd2", func := "loop.example/g00023/laws.FnExactNeeded", spec := "fnExactNeeded", inPlace := ["internal/bytealg.IndexByteString", "internal/bytealg.IndexString", "internal/bytealg.CountString"], recurses := true, named := ["unicode/utf8.first", "unicode/utf8.acceptRanges", "internal/bytealg.MaxLen"], apart := false, laid := [("unicode/utf8.acceptRanges", laid_unicode_utf8_acceptRanges), ("unicode/utf8.first", laid_unicode_utf8_first)] }
def FnExactNeededSaid : Prop := fnExactNeededRow.holds Tryz.pinned (OpenSpec.ofChange fnExactNeededSpec)

/-- ITS FALSE NEIGHBOUR: 'it returns false'. Refute it at one input. -/
def fnExactNeededWrong : ChangeSpec := { name := "fnExactNeeded", fn := fun _ => fun
  | [d1, d2] => { results := [.lit (.bool false)], args := [d1, d2] }
  | _ => none }
def FnExactNeededWrongFalsely : Prop := fnExactNeededRow.holds Tryz.pinned (OpenSpec.ofChange fnExactNeededWrong)

/-- 'laws.FnExactWrap': WHATEVER THE INPUT: true; the input reads as it did. -/
def fnExactWrapSpec : ChangeSpec := { name := "fnExactWrap", fn := fun _ => fun
  | [d1, d2] => { results := [.lit (.bool true)], args := [d1, d2] }
  | _ => none }
def fnExactWrapRow : OpenClaim := { program := "ytcekmnclmldmmaagreatdoor", sum := "c658a2e482cf9351e123c4adaac3e6d7bef174d7caaf7abe73fcc1a08f7e9fd2", func := "loop.example/g00023/laws.FnExactWrap", spec := "fnExactWrap", inPlace := ["internal/bytealg.IndexByteString", "internal/bytealg.IndexString", "internal/bytealg.CountString"], recurses := true, named := ["unicode/utf8.first", "unicode/utf8.acceptRanges", "internal/bytealg.MaxLen"], apart := false, laid := [("unicode/utf8.acceptRanges", laid_unicode_utf8_acceptRanges), ("unicode/utf8.first", laid_unicode_utf8_first)] }
def FnExactWrapSaid : Prop := fnExactWrapRow.holds Tryz.pinned (OpenSpec.ofChange fnExactWrapSpec)

/-- ITS FALSE NEIGHBOUR: 'it returns false'. Refute it at one input. -/
def fnExactWrapWrong : ChangeSpec := { name := "fnExactWrap", fn := fun _ => fun
  | [d1, d2] => { results := [.lit (.bool false)], args := [d1, d2] }
  | _ => none }
def FnExactWrapWrongFalsely : Prop := fnExactWrapRow.holds Tryz.pinned (OpenSpec.ofChange fnExactWrapWrong)

/-- 'laws.FnExactRecover': WHATEVER THE INPUT: true; the input reads as it did. -/
def fnExactRecoverSpec : ChangeSpec := { name := "fnExactRecover", fn := fun _ => fun
  | [d] => { results := [.lit (.bool true)], args := [d] }
  | _ => none }
def fnExactRecoverRow : OpenClaim := { program := "ytcekmnclmldmmaagreatdoor", sum := "c658a2e482cf9351e123c4adaac3e6d7bef174d7caaf7abe73fcc1a08f7e9fd2", func := "loop.example/g00023/laws.FnExactRecover", spec := "fnExactRecover", inPlace := ["internal/bytealg.IndexByteString", "internal/bytealg.IndexString", "internal/bytealg.CountString"], recurses := true, named := ["unicode/utf8.first", "unicode/utf8.acceptRanges", "internal/bytealg.MaxLen"], apart := false, laid := [("unicode/utf8.acceptRanges", laid_unicode_utf8_acceptRanges), ("unicode/utf8.first", laid_unicode_utf8_first)] }
def FnExactRecoverSaid : Prop := fnExactRecoverRow.holds Tryz.pinned (OpenSpec.ofChange fnExactRecoverSpec)

/-- ITS FALSE NEIGHBOUR: 'it returns false'. Refute it at one input. -/
def fnExactRecoverWrong : ChangeSpec := { name := "fnExactRecover", fn := fun _ => fun
  | [d] => { results := [.lit (.bool false)], args := [d] }
  | _ => none }
def FnExactRecoverWrongFalsely : Prop := fnExactRecoverRow.holds Tryz.pinned (OpenSpec.ofChange fnExactRecoverWrong)

/- THE SECOND FORM. 'bulk': how many values and letters a reading holds, each counted each time it is reached (what is shared counts as often as it is met; a slice's spare places count too). A statement '..UptoSaid' is the law's where the arguments, and the package variables that the reading takes, are together of bulk at most 1048576: NARROWER than '..Said'. Prove '..Said' where nothing that the law and all that it calls make is longer than what came in: it says more and counts as full. Else prove '..UptoSaid'. A law counts once. -/
mutual
def uptoBulk {H : Type} : DataW H → Nat
  | .lit (.string bytes) => bytes.length + 1
  | .lit _ => 1
  | .nil => 1
  | .ptr d => uptoBulk d + 1
  | .slice elems spare => uptoBulkAll elems + uptoBulkAll spare + 1
  | .agg parts => uptoBulkAll parts + 1
  | .iface _ d => uptoBulk d + 1
  | .map entries => uptoBulkEntries entries + 1
  | .held _ => 1
def uptoBulkAll {H : Type} : List (DataW H) → Nat
  | [] => 0
  | d :: r => uptoBulk d + uptoBulkAll r
def uptoBulkEntries {H : Type} : List (Lit × DataW H) → Nat
  | [] => 0
  | x :: r => uptoBulkEntry x + uptoBulkEntries r
def uptoBulkEntry {H : Type} : Lit × DataW H → Nat
  | (.string bytes, d) => bytes.length + uptoBulk d + 1
  | (_, d) => uptoBulk d + 1
 end
def uptoSmall : (H : Type) → List (DataW H) → Bool := fun _ ds => decide (uptoBulkAll ds ≤ 1048576)
def OpenSpec.upto (s : _root_.Go.ChangeSpec) : _root_.Go.OpenSpec := { _root_.Go.OpenSpec.ofChange s with cond := some uptoSmall }

/-- 'laws.FnExactWorldOk', WHERE WHAT IT READS IS OF BULK AT MOST 1048576: true; the input reads as it did. -/
def fnExactWorldOkUptoRow : OpenClaim := { program := "ytcekmnclmldmmaagreatdoor", sum := "c658a2e482cf9351e123c4adaac3e6d7bef174d7caaf7abe73fcc1a08f7e9fd2", func := "loop.example/g00023/laws.FnExactWorldOk", spec := "fnExactWorldOk", inPlace := ["internal/bytealg.IndexByteString", "internal/bytealg.IndexString", "internal/bytealg.CountString"], recurses := true, named := ["unicode/utf8.first", "unicode/utf8.acceptRanges", "internal/bytealg.MaxLen"], apart := false, laid := [("unicode/utf8.acceptRanges", laid_unicode_utf8_acceptRanges), ("unicode/utf8.first", laid_unicode_utf8_first)], narrowed := true }
def FnExactWorldOkUptoSaid : Prop := fnExactWorldOkUptoRow.holds Tryz.pinned (OpenSpec.upto fnExactWorldOkSpec)

/-- 'laws.FnExactNeeded', WHERE WHAT IT READS IS OF BULK AT MOST 1048576: true; the input reads as it did. -/
def fnExactNeededUptoRow : OpenClaim := { program := "ytcekmnclmldmmaagreatdoor", sum := "c658a2e482cf9351e123c4adaac3e6d7bef174d7caaf7abe73fcc1a08f7e9fd2", func := "loop.example/g00023/laws.FnExactNeeded", spec := "fnExactNeeded", inPlace := ["internal/bytealg.IndexByteString", "internal/bytealg.IndexString", "internal/bytealg.CountString"], recurses := true, named := ["unicode/utf8.first", "unicode/utf8.acceptRanges", "internal/bytealg.MaxLen"], apart := false, laid := [("unicode/utf8.acceptRanges", laid_unicode_utf8_acceptRanges), ("unicode/utf8.first", laid_unicode_utf8_first)], narrowed := true }
def FnExactNeededUptoSaid : Prop := fnExactNeededUptoRow.holds Tryz.pinned (OpenSpec.upto fnExactNeededSpec)

/-- 'laws.FnExactWrap', WHERE WHAT IT READS IS OF BULK AT MOST 1048576: true; the input reads as it did. -/
def fnExactWrapUptoRow : OpenClaim := { program := "ytcekmnclmldmmaagreatdoor", sum := "c658a2e482cf9351e123c4adaac3e6d7bef174d7caaf7abe73fcc1a08f7e9fd2", func := "loop.example/g00023/laws.FnExactWrap", spec := "fnExactWrap", inPlace := ["internal/bytealg.IndexByteString", "internal/bytealg.IndexString", "internal/bytealg.CountString"], recurses := true, named := ["unicode/utf8.first", "unicode/utf8.acceptRanges", "internal/bytealg.MaxLen"], apart := false, laid := [("unicode/utf8.acceptRanges", laid_unicode_utf8_acceptRanges), ("unicode/utf8.first", laid_unicode_utf8_first)], narrowed := true }
def FnExactWrapUptoSaid : Prop := fnExactWrapUptoRow.holds Tryz.pinned (OpenSpec.upto fnExactWrapSpec)

/-- 'laws.FnExactRecover', WHERE WHAT IT READS IS OF BULK AT MOST 1048576: true; the input reads as it did. -/
def fnExactRecoverUptoRow : OpenClaim := { program := "ytcekmnclmldmmaagreatdoor", sum := "c658a2e482cf9351e123c4adaac3e6d7bef174d7caaf7abe73fcc1a08f7e9fd2", func := "loop.example/g00023/laws.FnExactRecover", spec := "fnExactRecover", inPlace := ["internal/bytealg.IndexByteString", "internal/bytealg.IndexString", "internal/bytealg.CountString"], recurses := true, named := ["unicode/utf8.first", "unicode/utf8.acceptRanges", "internal/bytealg.MaxLen"], apart := false, laid := [("unicode/utf8.acceptRanges", laid_unicode_utf8_acceptRanges), ("unicode/utf8.first", laid_unicode_utf8_first)], narrowed := true }
def FnExactRecoverUptoSaid : Prop := fnExactRecoverUptoRow.holds Tryz.pinned (OpenSpec.upto fnExactRecoverSpec)

end Rows
end Go.Proofs.YtcekmnclmldmmaaGreatDoor
