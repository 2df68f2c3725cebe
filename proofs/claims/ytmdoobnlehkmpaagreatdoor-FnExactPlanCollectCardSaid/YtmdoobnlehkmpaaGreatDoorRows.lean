/-
  NARROWER THAN 'FOR EVERY INPUT', by the rows' own cells (each row's printed sentence says how): FnExactPlanAdd: laid · FnExactDoWrite: laid · FnExactPlanCollect: laid · FnExactPlanInstall: laid · FnExactRunWorld: laid.
  DERIVED. THE GIVEN ROWS OF THIS SEAT. 5 by the template 'for every input the law returns true; each argument reads behind the call as it read before'; 0 by the template 'total and deterministic' (their statements: YtmdoobnlehkmpaaGreatDoorTotals.lean).
  GIVEN WITH THE SEED: the statements are not yours to turn. If you find one false, say at which input.
  Laid BY PROGRAM, IN A SANDBOX (cutbox-rows.mjs): the forced cells as the released guide's own fill.sh prints them over the translation f9fe13cac4b0300b… (all of the seat's roots in one cut). By AI agents, Wed Nov 11 2026. No macro, syntax, notation, axiom, sorry.
-/
import Derived.Test.YtmdoobnlehkmpaaGreatDoorChecked
import GoSem.PinnedTables
import GoSem.Claim
import GoSem.ClaimJoined
import GoSem.ClaimMapViews
import Derived.JoinedTies
import Derived.KernelRfl
namespace Go.Proofs.YtmdoobnlehkmpaaGreatDoor
/- THE CELL 'sum', in the pinned program and in every row, IS THE sha256 OF THE DUMP (.gsa) THAT YtmdoobnlehkmpaaGreatDoorProg.lean LOADS. Nothing in Lean hashes anything: it is a label: what it is worth is what the hold of that sum in a sandbox is worth. -/
noncomputable def Tryz.pinned : Pinned := { name := "ytmdoobnlehkmpaagreatdoor", sum := "f9fe13cac4b0300bf9277c5993cdb80c1bfc7f372b7ff6dc005f8f944e65be35", checked := Tryz.checked }
namespace Rows
def none {H : Type} : Left H := { results := [], args := [] }

/- WHAT THE LISTED PACKAGE-LEVEL VARIABLES READ AS WHEN THE CALL BEGINS. Each datum BY PROGRAM (the guide's laid-datum.mjs) off the statement by which the dump's own 'gosem.cut.vars' lays the variable. In a bare row this is a premise. The card (YtmdoobnlehkmpaaGreatDoorCards.lean) ties it to the program's text. -/
def laid_unicode_utf8_acceptRanges {H : Type} : DataW H := .agg [.agg [.lit (.int .u8 128), .lit (.int .u8 191)], .agg [.lit (.int .u8 160), .lit (.int .u8 191)], .agg [.lit (.int .u8 128), .lit (.int .u8 159)], .agg [.lit (.int .u8 144), .lit (.int .u8 191)], .agg [.lit (.int .u8 128), .lit (.int .u8 143)], .agg [.lit (.int .u8 0), .lit (.int .u8 0)], .agg [.lit (.int .u8 0), .lit (.int .u8 0)], .agg [.lit (.int .u8 0), .lit (.int .u8 0)], .agg [.lit (.int .u8 0), .lit (.int .u8 0)], .agg [.lit (.int .u8 0), .lit (.int .u8 0)], .agg [.lit (.int .u8 0), .lit (.int .u8 0)], .agg [.lit (.int .u8 0), .lit (.int .u8 0)], .agg [.lit (.int .u8 0), .lit (.int .u8 0)], .agg [.lit (.int .u8 0), .lit (.int .u8 0)], .agg [.lit (.int .u8 0), .lit (.int .u8 0)], .agg [.lit (.int .u8 0), .lit (.int .u8 0)]]
/-- One of Go's own tables, pinned by name: the form's constant. -/
def laid_unicode_utf8_first : DataW Unit := Go.Pinned.utf8First

/-- 'laws.FnExactPlanAdd': WHATEVER THE INPUT: true; the input reads as it did. -/
def fnExactPlanAddSpec : ChangeSpec := { name := "fnExactPlanAdd", fn := fun _ => fun
  | [d1, d2, d3, d4] => { results := [.lit (.bool true)], args := [d1, d2, d3, d4] }
  | _ => none }
def fnExactPlanAddRow : OpenClaim := { program := "ytmdoobnlehkmpaagreatdoor", sum := "f9fe13cac4b0300bf9277c5993cdb80c1bfc7f372b7ff6dc005f8f944e65be35", func := "loop.example/g00023/laws.FnExactPlanAdd", spec := "fnExactPlanAdd", inPlace := ["internal/bytealg.IndexByteString", "internal/bytealg.IndexString", "internal/bytealg.CountString"], recurses := true, named := ["unicode/utf8.first", "unicode/utf8.acceptRanges", "internal/bytealg.MaxLen"], apart := false, laid := [("unicode/utf8.acceptRanges", laid_unicode_utf8_acceptRanges), ("unicode/utf8.first", laid_unicode_utf8_first)] }
def FnExactPlanAddSaid : Prop := fnExactPlanAddRow.holds Tryz.pinned (OpenSpec.ofChange fnExactPlanAddSpec)

/-- ITS FALSE NEIGHBOUR: 'it returns false'. Refute it at one input. -/
def fnExactPlanAddWrong : ChangeSpec := { name := "fnExactPlanAdd", fn := fun _ => fun
  | [d1, d2, d3, d4] => { results := [.lit (.bool false)], args := [d1, d2, d3, d4] }
  | _ => none }
def FnExactPlanAddWrongFalsely : Prop := fnExactPlanAddRow.holds Tryz.pinned (OpenSpec.ofChange fnExactPlanAddWrong)

/-- 'laws.FnExactDoWrite': WHATEVER THE INPUT: true; the input reads as it did. -/
def fnExactDoWriteSpec : ChangeSpec := { name := "fnExactDoWrite", fn := fun _ => fun
  | [d1, d2] => { results := [.lit (.bool true)], args := [d1, d2] }
  | _ => none }
def fnExactDoWriteRow : OpenClaim := { program := "ytmdoobnlehkmpaagreatdoor", sum := "f9fe13cac4b0300bf9277c5993cdb80c1bfc7f372b7ff6dc005f8f944e65be35", func := "loop.example/g00023/laws.FnExactDoWrite", spec := "fnExactDoWrite", inPlace := ["internal/bytealg.IndexByteString", "internal/bytealg.IndexString", "internal/bytealg.CountString"], recurses := true, named := ["unicode/utf8.first", "unicode/utf8.acceptRanges", "internal/bytealg.MaxLen"], apart := false, laid := [("unicode/utf8.acceptRanges", laid_unicode_utf8_acceptRanges), ("unicode/utf8.first", laid_unicode_utf8_first)] }
def FnExactDoWriteSaid : Prop := fnExactDoWriteRow.holds Tryz.pinned (OpenSpec.ofChange fnExactDoWriteSpec)

/-- ITS FALSE NEIGHBOUR: 'it returns false'. Refute it at one input. -/
def fnExactDoWriteWrong : ChangeSpec := { name := "fnExactDoWrite", fn := fun _ => fun
  | [d1, d2] => { results := [.lit (.bool false)], args := [d1, d2] }
  | _ => none }
def FnExactDoWriteWrongFalsely : Prop := fnExactDoWriteRow.holds Tryz.pinned (OpenSpec.ofChange fnExactDoWriteWrong)

/-- 'laws.FnExactPlanCollect': WHATEVER THE INPUT: true; the input reads as it did. -/
def fnExactPlanCollectSpec : ChangeSpec := { name := "fnExactPlanCollect", fn := fun _ => fun
  | [d] => { results := [.lit (.bool true)], args := [d] }
  | _ => none }
def fnExactPlanCollectRow : OpenClaim := { program := "ytmdoobnlehkmpaagreatdoor", sum := "f9fe13cac4b0300bf9277c5993cdb80c1bfc7f372b7ff6dc005f8f944e65be35", func := "loop.example/g00023/laws.FnExactPlanCollect", spec := "fnExactPlanCollect", inPlace := ["internal/bytealg.IndexByteString", "internal/bytealg.IndexString", "internal/bytealg.CountString"], recurses := true, named := ["unicode/utf8.first", "unicode/utf8.acceptRanges", "internal/bytealg.MaxLen"], apart := false, laid := [("unicode/utf8.acceptRanges", laid_unicode_utf8_acceptRanges), ("unicode/utf8.first", laid_unicode_utf8_first)] }
def FnExactPlanCollectSaid : Prop := fnExactPlanCollectRow.holds Tryz.pinned (OpenSpec.ofChange fnExactPlanCollectSpec)

/-- ITS FALSE NEIGHBOUR: 'it returns false'. Refute it at one input. -/
def fnExactPlanCollectWrong : ChangeSpec := { name := "fnExactPlanCollect", fn := fun _ => fun
  | [d] => { results := [.lit (.bool false)], args := [d] }
  | _ => none }
def FnExactPlanCollectWrongFalsely : Prop := fnExactPlanCollectRow.holds Tryz.pinned (OpenSpec.ofChange fnExactPlanCollectWrong)

/-- 'laws.FnExactPlanInstall': WHATEVER THE INPUT: true; the input reads as it did. -/
def fnExactPlanInstallSpec : ChangeSpec := { name := "fnExactPlanInstall", fn := fun _ => fun
  | [d1, d2, d3] => { results := [.lit (.bool true)], args := [d1, d2, d3] }
  | _ => none }
def fnExactPlanInstallRow : OpenClaim := { program := "ytmdoobnlehkmpaagreatdoor", sum := "f9fe13cac4b0300bf9277c5993cdb80c1bfc7f372b7ff6dc005f8f944e65be35", func := "loop.example/g00023/laws.FnExactPlanInstall", spec := "fnExactPlanInstall", inPlace := ["internal/bytealg.IndexByteString", "internal/bytealg.IndexString", "internal/bytealg.CountString"], recurses := true, named := ["unicode/utf8.first", "unicode/utf8.acceptRanges", "internal/bytealg.MaxLen"], apart := false, laid := [("unicode/utf8.acceptRanges", laid_unicode_utf8_acceptRanges), ("unicode/utf8.first", laid_unicode_utf8_first)] }
def FnExactPlanInstallSaid : Prop := fnExactPlanInstallRow.holds Tryz.pinned (OpenSpec.ofChange fnExactPlanInstallSpec)

/-- ITS FALSE NEIGHBOUR: 'it returns false'. Refute it at one input. -/
def fnExactPlanInstallWrong : ChangeSpec := { name := "fnExactPlanInstall", fn := fun _ => fun
  | [d1, d2, d3] => { results := [.lit (.bool false)], args := [d1, d2, d3] }
  | _ => none }
def FnExactPlanInstallWrongFalsely : Prop := fnExactPlanInstallRow.holds Tryz.pinned (OpenSpec.ofChange fnExactPlanInstallWrong)

/-- 'laws.FnExactRunWorld': WHATEVER THE INPUT: true; the input reads as it did. -/
def fnExactRunWorldSpec : ChangeSpec := { name := "fnExactRunWorld", fn := fun _ => fun
  | [d1, d2, d3] => { results := [.lit (.bool true)], args := [d1, d2, d3] }
  | _ => none }
def fnExactRunWorldRow : OpenClaim := { program := "ytmdoobnlehkmpaagreatdoor", sum := "f9fe13cac4b0300bf9277c5993cdb80c1bfc7f372b7ff6dc005f8f944e65be35", func := "loop.example/g00023/laws.FnExactRunWorld", spec := "fnExactRunWorld", inPlace := ["internal/bytealg.IndexByteString", "internal/bytealg.IndexString", "internal/bytealg.CountString"], recurses := true, named := ["unicode/utf8.first", "unicode/utf8.acceptRanges", "internal/bytealg.MaxLen"], apart := false, laid := [("unicode/utf8.acceptRanges", laid_unicode_utf8_acceptRanges), ("unicode/utf8.first", laid_unicode_utf8_first)] }
def FnExactRunWorldSaid : Prop := fnExactRunWorldRow.holds Tryz.pinned (OpenSpec.ofChange fnExactRunWorldSpec)

/-- ITS FALSE NEIGHBOUR: 'it returns false'. Refute it at one input. -/
def fnExactRunWorldWrong : ChangeSpec := { name := "fnExactRunWorld", fn := fun _ => fun
  | [d1, d2, d3] => { results := [.lit (.bool false)], args := [d1, d2, d3] }
  | _ => none }
def FnExactRunWorldWrongFalsely : Prop := fnExactRunWorldRow.holds Tryz.pinned (OpenSpec.ofChange fnExactRunWorldWrong)

/- THE SECOND FORM. 'bulk': how many values and letters a reading holds, each counted each time it is reached (what is shared counts as often as it is met; a slice's spare places count too). A statement '..UptoSaid' is the law's where the arguments, and the package variables that the reading takes, are together of bulk at most 1048576: NARROWER than '..Said'. Prove '..Said' where nothing that the law and all that it calls make is longer than what came in: it says more and counts as full. Else prove '..UptoSaid'. A law counts once. -/
mutual
def uptoBulk {H : Type} : DataW H → Nat
  | .lit (.string bytes) => bytes.length + 1
  | .lit _ => 1
  | .nil => 1
  | .ptr d => uptoBulk d + 1
  | .slice elems spare => uptoBulkAll elems + uptoBulkAll spare + 1
  | .agg parts => uptoBulkAll parts + 1
  | .iface _ d => uptoBulk d + 1
  | .map entries => uptoBulkEntries entries + 1
  | .held _ => 1
def uptoBulkAll {H : Type} : List (DataW H) → Nat
  | [] => 0
  | d :: r => uptoBulk d + uptoBulkAll r
def uptoBulkEntries {H : Type} : List (Lit × DataW H) → Nat
  | [] => 0
  | x :: r => uptoBulkEntry x + uptoBulkEntries r
def uptoBulkEntry {H : Type} : Lit × DataW H → Nat
  | (.string bytes, d) => bytes.length + uptoBulk d + 1
  | (_, d) => uptoBulk d + 1
 end
def uptoSmall : (H : Type) → List (DataW H) → Bool := fun _ ds => decide (uptoBulkAll ds ≤ 1048576)
def OpenSpec.upto (s : _root_.Go.ChangeSpec) : _root_.Go.OpenSpec := { _root_.Go.OpenSpec.ofChange s with cond := some uptoSmall }

/-- 'laws.FnExactPlanAdd', WHERE WHAT IT READS IS OF BULK AT MOST 1048576: true; the input reads as it did. -/
def fnExactPlanAddUptoRow : OpenClaim := { program := "ytmdoobnlehkmpaagreatdoor", sum := "f9fe13cac4b0300bf9277c5993cdb80c1bfc7f372b7ff6dc005f8f944e65be35", func := "loop.example/g00023/laws.FnExactPlanAdd", spec := "fnExactPlanAdd", inPlace := ["internal/bytealg.IndexByteString", "internal/bytealg.IndexString", "internal/bytealg.CountString"], recurses := true, named := ["unicode/utf8.first", "unicode/utf8.acceptRanges", "internal/bytealg.MaxLen"], apart := false, laid := [("unicode/utf8.acceptRanges", laid_unicode_utf8_acceptRanges), ("unicode/utf8.first", laid_unicode_utf8_first)], narrowed := true }
def FnExactPlanAddUptoSaid : Prop := fnExactPlanAddUptoRow.holds Tryz.pinned (OpenSpec.upto fnExactPlanAddSpec)

/-- 'laws.FnExactDoWrite', WHERE WHAT IT READS IS OF BULK AT MOST 1048576: true; the input reads as it did. -/
def fnExactDoWriteUptoRow : OpenClaim := { program := "ytmdoobnlehkmpaagreatdoor", sum := "f9fe13cac4b0300bf9277c5993cdb80c1bfc7f372b7ff6dc005f8f944e65be35", func := "loop.example/g00023/laws.FnExactDoWrite", spec := "fnExactDoWrite", inPlace := ["internal/bytealg.IndexByteString", "internal/bytealg.IndexString", "internal/bytealg.CountString"], recurses := true, named := ["unicode/utf8.first", "unicode/utf8.acceptRanges", "internal/bytealg.MaxLen"], apart := false, laid := [("unicode/utf8.acceptRanges", laid_unicode_utf8_acceptRanges), ("unicode/utf8.first", laid_unicode_utf8_first)], narrowed := true }
def FnExactDoWriteUptoSaid : Prop := fnExactDoWriteUptoRow.holds Tryz.pinned (OpenSpec.upto fnExactDoWriteSpec)

/-- 'laws.FnExactPlanCollect', WHERE WHAT IT READS IS OF BULK AT MOST 1048576: true; the input reads as it did. -/
def fnExactPlanCollectUptoRow : OpenClaim := { program := "ytmdoobnlehkmpaagreatdoor", sum := "f9fe13cac4b0300bf9277c5993cdb80c1bfc7f372b7ff6dc005f8f944e65be35", func := "loop.example/g00023/laws.FnExactPlanCollect", spec := "fnExactPlanCollect", inPlace := ["internal/bytealg.IndexByteString", "internal/bytealg.IndexString", "internal/bytealg.CountString"], recurses := true, named := ["unicode/utf8.first", "unicode/utf8.acceptRanges", "internal/bytealg.MaxLen"], apart := false, laid := [("unicode/utf8.acceptRanges", laid_unicode_utf8_acceptRanges), ("unicode/utf8.first", laid_unicode_utf8_first)], narrowed := true }
def FnExactPlanCollectUptoSaid : Prop := fnExactPlanCollectUptoRow.holds Tryz.pinned (OpenSpec.upto fnExactPlanCollectSpec)

/-- 'laws.FnExactPlanInstall', WHERE WHAT IT READS IS OF BULK AT MOST 1048576: true; the input reads as it did. -/
def fnExactPlanInstallUptoRow : OpenClaim := { program := "ytmdoobnlehkmpaagreatdoor", sum := "f9fe13cac4b0300bf9277c5993cdb80c1bfc7f372b7ff6dc005f8f944e65be35", func := "loop.example/g00023/laws.FnExactPlanInstall", spec := "fnExactPlanInstall", inPlace := ["internal/bytealg.IndexByteString", "internal/bytealg.IndexString", "internal/bytealg.CountString"], recurses := true, named := ["unicode/utf8.first", "unicode/utf8.acceptRanges", "internal/bytealg.MaxLen"], apart := false, laid := [("unicode/utf8.acceptRanges", laid_unicode_utf8_acceptRanges), ("unicode/utf8.first", laid_unicode_utf8_first)], narrowed := true }
def FnExactPlanInstallUptoSaid : Prop := fnExactPlanInstallUptoRow.holds Tryz.pinned (OpenSpec.upto fnExactPlanInstallSpec)

/-- 'laws.FnExactRunWorld', WHERE WHAT IT READS IS OF BULK AT MOST 1048576: true; the input reads as it did. -/
def fnExactRunWorldUptoRow : OpenClaim := { program := "ytmdoobnlehkmpaagreatdoor", sum := "f9fe13cac4b0300bf9277c5993cdb80c1bfc7f372b7ff6dc005f8f944e65be35", func := "loop.example/g00023/laws.FnExactRunWorld", spec := "fnExactRunWorld", inPlace := ["internal/bytealg.IndexByteString", "internal/bytealg.IndexString", "internal/bytealg.CountString"], recurses := true, named := ["unicode/utf8.first", "unicode/utf8.acceptRanges", "internal/bytealg.MaxLen"], apart := false, laid := [("unicode/utf8.acceptRanges", laid_unicode_utf8_acceptRanges), ("unicode/utf8.first", laid_unicode_utf8_first)], narrowed := true }
def FnExactRunWorldUptoSaid : Prop := fnExactRunWorldUptoRow.holds Tryz.pinned (OpenSpec.upto fnExactRunWorldSpec)

end Rows
end Go.Proofs.YtmdoobnlehkmpaaGreatDoor
