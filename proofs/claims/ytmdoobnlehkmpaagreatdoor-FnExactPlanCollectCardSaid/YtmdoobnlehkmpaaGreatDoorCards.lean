/-
  DERIVED. GIVEN WITH THE SEED: THE CARDS: each row of YtmdoobnlehkmpaaGreatDoorRows.lean that lists a variable, with what it lists TIED to the program's text (the seventh form; the later family's looks); each row that meets fmt, with fmt's text TOLD by the authors' own Lean function (tested against real Go, not proved from fmt's source: count such statements apart). THE CARD IS WHAT COUNTS. Prove the row's statement (the work); the ties are given (YtmdoobnlehkmpaaGreatDoorTie.lean); close each card by the builder's one call (the guide's Derived/Test/ToyasCard.lean, 'card_holds'). Laid BY PROGRAM, IN A SANDBOX (cutbox-door.mjs). By AI agents, Wed Nov 11 2026. No macro, syntax, notation, axiom, sorry.
-/
import Derived.Test.YtmdoobnlehkmpaaGreatDoorRows
import GoSem.ClaimSeven
namespace Go.Proofs.YtmdoobnlehkmpaaGreatDoor
namespace Rows

/-- THE TIED CARD OF 'laws.FnExactPlanAdd'. -/
def fnExactPlanAddCard : Claim7 := { stood := { row := fnExactPlanAddRow, standIns := [], harness := (true, "2006edfa340c2525872e3a66aa465db9bf357aa5a76787accb2a57ac72e6cf36"), looks := false }, kinds := [], alts := [], laidByText := true, laidKinds := [.data, .pinned], laidTests := true, laidLooks := .later }
def FnExactPlanAddCardSaid : Prop := Claim7.holds Tryz.pinned (.plain (OpenSpec.ofChange fnExactPlanAddSpec)) fnExactPlanAddCard

/-- THE TIED CARD OF 'laws.FnExactDoWrite'. -/
def fnExactDoWriteCard : Claim7 := { stood := { row := fnExactDoWriteRow, standIns := [], harness := (true, "2006edfa340c2525872e3a66aa465db9bf357aa5a76787accb2a57ac72e6cf36"), looks := false }, kinds := [], alts := [], laidByText := true, laidKinds := [.data, .pinned], laidTests := true, laidLooks := .later }
def FnExactDoWriteCardSaid : Prop := Claim7.holds Tryz.pinned (.plain (OpenSpec.ofChange fnExactDoWriteSpec)) fnExactDoWriteCard

/-- THE TIED CARD OF 'laws.FnExactPlanCollect'. -/
def fnExactPlanCollectCard : Claim7 := { stood := { row := fnExactPlanCollectRow, standIns := [], harness := (true, "2006edfa340c2525872e3a66aa465db9bf357aa5a76787accb2a57ac72e6cf36"), looks := false }, kinds := [], alts := [], laidByText := true, laidKinds := [.data, .pinned], laidTests := true, laidLooks := .later }
def FnExactPlanCollectCardSaid : Prop := Claim7.holds Tryz.pinned (.plain (OpenSpec.ofChange fnExactPlanCollectSpec)) fnExactPlanCollectCard

/-- THE TIED CARD OF 'laws.FnExactPlanInstall'. -/
def fnExactPlanInstallCard : Claim7 := { stood := { row := fnExactPlanInstallRow, standIns := [], harness := (true, "2006edfa340c2525872e3a66aa465db9bf357aa5a76787accb2a57ac72e6cf36"), looks := false }, kinds := [], alts := [], laidByText := true, laidKinds := [.data, .pinned], laidTests := true, laidLooks := .later }
def FnExactPlanInstallCardSaid : Prop := Claim7.holds Tryz.pinned (.plain (OpenSpec.ofChange fnExactPlanInstallSpec)) fnExactPlanInstallCard

/-- THE TIED CARD OF 'laws.FnExactRunWorld'. -/
def fnExactRunWorldCard : Claim7 := { stood := { row := fnExactRunWorldRow, standIns := [], harness := (true, "2006edfa340c2525872e3a66aa465db9bf357aa5a76787accb2a57ac72e6cf36"), looks := false }, kinds := [], alts := [], laidByText := true, laidKinds := [.data, .pinned], laidTests := true, laidLooks := .later }
def FnExactRunWorldCardSaid : Prop := Claim7.holds Tryz.pinned (.plain (OpenSpec.ofChange fnExactRunWorldSpec)) fnExactRunWorldCard

/-- THE SECOND FORM's CARD OF 'laws.FnExactPlanAdd'. -/
def fnExactPlanAddUptoCard : Claim7 := { stood := { row := fnExactPlanAddUptoRow, standIns := [], harness := (true, "2006edfa340c2525872e3a66aa465db9bf357aa5a76787accb2a57ac72e6cf36"), looks := false }, kinds := [], alts := [], laidByText := true, laidKinds := [.data, .pinned], laidTests := true, laidLooks := .later }
def FnExactPlanAddUptoCardSaid : Prop := Claim7.holds Tryz.pinned (.plain (OpenSpec.upto fnExactPlanAddSpec)) fnExactPlanAddUptoCard

/-- THE SECOND FORM's CARD OF 'laws.FnExactDoWrite'. -/
def fnExactDoWriteUptoCard : Claim7 := { stood := { row := fnExactDoWriteUptoRow, standIns := [], harness := (true, "2006edfa340c2525872e3a66aa465db9bf357aa5a76787accb2a57ac72e6cf36"), looks := false }, kinds := [], alts := [], laidByText := true, laidKinds := [.data, .pinned], laidTests := true, laidLooks := .later }
def FnExactDoWriteUptoCardSaid : Prop := Claim7.holds Tryz.pinned (.plain (OpenSpec.upto fnExactDoWriteSpec)) fnExactDoWriteUptoCard

/-- THE SECOND FORM's CARD OF 'laws.FnExactPlanCollect'. -/
def fnExactPlanCollectUptoCard : Claim7 := { stood := { row := fnExactPlanCollectUptoRow, standIns := [], harness := (true, "2006edfa340c2525872e3a66aa465db9bf357aa5a76787accb2a57ac72e6cf36"), looks := false }, kinds := [], alts := [], laidByText := true, laidKinds := [.data, .pinned], laidTests := true, laidLooks := .later }
def FnExactPlanCollectUptoCardSaid : Prop := Claim7.holds Tryz.pinned (.plain (OpenSpec.upto fnExactPlanCollectSpec)) fnExactPlanCollectUptoCard

/-- THE SECOND FORM's CARD OF 'laws.FnExactPlanInstall'. -/
def fnExactPlanInstallUptoCard : Claim7 := { stood := { row := fnExactPlanInstallUptoRow, standIns := [], harness := (true, "2006edfa340c2525872e3a66aa465db9bf357aa5a76787accb2a57ac72e6cf36"), looks := false }, kinds := [], alts := [], laidByText := true, laidKinds := [.data, .pinned], laidTests := true, laidLooks := .later }
def FnExactPlanInstallUptoCardSaid : Prop := Claim7.holds Tryz.pinned (.plain (OpenSpec.upto fnExactPlanInstallSpec)) fnExactPlanInstallUptoCard

/-- THE SECOND FORM's CARD OF 'laws.FnExactRunWorld'. -/
def fnExactRunWorldUptoCard : Claim7 := { stood := { row := fnExactRunWorldUptoRow, standIns := [], harness := (true, "2006edfa340c2525872e3a66aa465db9bf357aa5a76787accb2a57ac72e6cf36"), looks := false }, kinds := [], alts := [], laidByText := true, laidKinds := [.data, .pinned], laidTests := true, laidLooks := .later }
def FnExactRunWorldUptoCardSaid : Prop := Claim7.holds Tryz.pinned (.plain (OpenSpec.upto fnExactRunWorldSpec)) fnExactRunWorldUptoCard
end Rows
end Go.Proofs.YtmdoobnlehkmpaaGreatDoor
