/-
  DERIVED. GIVEN WITH THE SEED: THE CARDS: each row of YtcekmnclmldmmaaGreatDoorRows.lean that lists a variable, with what it lists TIED to the program's text (the seventh form; the later family's looks); each row that meets fmt, with fmt's text TOLD by the authors' own Lean function (tested against real Go, not proved from fmt's source: count such statements apart). THE CARD IS WHAT COUNTS. Prove the row's statement (the work); the ties are given (YtcekmnclmldmmaaGreatDoorTie.lean); close each card by the builder's one call (the guide's Derived/Test/ToyasCard.lean, 'card_holds'). Laid BY PROGRAM, IN A SANDBOX (cutbox-door.mjs). By AI agents, Wed Nov 11 2026. No macro, syntax, notation, axiom, sorry.
-/
import Derived.Test.YtcekmnclmldmmaaGreatDoorRows
import GoSem.ClaimSeven
namespace Go.Proofs.YtcekmnclmldmmaaGreatDoor
namespace Rows

/-- THE TIED CARD OF 'laws.FnExactWorldOk'. -/
def fnExactWorldOkCard : Claim7 := { stood := { row := fnExactWorldOkRow, standIns := [], harness := (true, "99afc5a29af5a04db0b6d2a0182420a6ca6179fab8d5add1538c5249fd447804"), looks := false }, kinds := [], alts := [], laidByText := true, laidKinds := [.data, .pinned], laidTests := true, laidLooks := .later }
def FnExactWorldOkCardSaid : Prop := Claim7.holds Tryz.pinned (.plain (OpenSpec.ofChange fnExactWorldOkSpec)) fnExactWorldOkCard

/-- THE TIED CARD OF 'laws.FnExactNeeded'. -/
def fnExactNeededCard : Claim7 := { stood := { row := fnExactNeededRow, standIns := [], harness := (true, "99afc5a29af5a04db0b6d2a0182420a6ca6179fab8d5add1538c5249fd447804"), looks := false }, kinds := [], alts := [], laidByText := true, laidKinds := [.data, .pinned], laidTests := true, laidLooks := .later }
def FnExactNeededCardSaid : Prop := Claim7.holds Tryz.pinned (.plain (OpenSpec.ofChange fnExactNeededSpec)) fnExactNeededCard

/-- THE TIED CARD OF 'laws.FnExactWrap'. -/
def fnExactWrapCard : Claim7 := { stood := { row := fnExactWrapRow, standIns := [], harness := (true, "99afc5a29af5a04db0b6d2a0182420a6ca6179fab8d5add1538c5249fd447804"), looks := false }, kinds := [], alts := [], laidByText := true, laidKinds := [.data, .pinned], laidTests := true, laidLooks := .later }
def FnExactWrapCardSaid : Prop := Claim7.holds Tryz.pinned (.plain (OpenSpec.ofChange fnExactWrapSpec)) fnExactWrapCard

/-- THE TIED CARD OF 'laws.FnExactRecover'. -/
def fnExactRecoverCard : Claim7 := { stood := { row := fnExactRecoverRow, standIns := [], harness := (true, "99afc5a29af5a04db0b6d2a0182420a6ca6179fab8d5add1538c5249fd447804"), looks := false }, kinds := [], alts := [], laidByText := true, laidKinds := [.data, .pinned], laidTests := true, laidLooks := .later }
def FnExactRecoverCardSaid : Prop := Claim7.holds Tryz.pinned (.plain (OpenSpec.ofChange fnExactRecoverSpec)) fnExactRecoverCard

/-- THE SECOND FORM's CARD OF 'laws.FnExactWorldOk'. -/
def fnExactWorldOkUptoCard : Claim7 := { stood := { row := fnExactWorldOkUptoRow, standIns := [], harness := (true, "99afc5a29af5a04db0b6d2a0182420a6ca6179fab8d5add1538c5249fd447804"), looks := false }, kinds := [], alts := [], laidByText := true, laidKinds := [.data, .pinned], laidTests := true, laidLooks := .later }
def FnExactWorldOkUptoCardSaid : Prop := Claim7.holds Tryz.pinned (.plain (OpenSpec.upto fnExactWorldOkSpec)) fnExactWorldOkUptoCard

/-- THE SECOND FORM's CARD OF 'laws.FnExactNeeded'. -/
def fnExactNeededUptoCard : Claim7 := { stood := { row := fnExactNeededUptoRow, standIns := [], harness := (true, "99afc5a29af5a04db0b6d2a0182420a6ca6179fab8d5add1538c5249fd447804"), looks := false }, kinds := [], alts := [], laidByText := true, laidKinds := [.data, .pinned], laidTests := true, laidLooks := .later }
def FnExactNeededUptoCardSaid : Prop := Claim7.holds Tryz.pinned (.plain (OpenSpec.upto fnExactNeededSpec)) fnExactNeededUptoCard

/-- THE SECOND FORM's CARD OF 'laws.FnExactWrap'. -/
def fnExactWrapUptoCard : Claim7 := { stood := { row := fnExactWrapUptoRow, standIns := [], harness := (true, "99afc5a29af5a04db0b6d2a0182420a6ca6179fab8d5add1538c5249fd447804"), looks := false }, kinds := [], alts := [], laidByText := true, laidKinds := [.data, .pinned], laidTests := true, laidLooks := .later }
def FnExactWrapUptoCardSaid : Prop := Claim7.holds Tryz.pinned (.plain (OpenSpec.upto fnExactWrapSpec)) fnExactWrapUptoCard

/-- THE SECOND FORM's CARD OF 'laws.FnExactRecover'. -/
def fnExactRecoverUptoCard : Claim7 := { stood := { row := fnExactRecoverUptoRow, standIns := [], harness := (true, "99afc5a29af5a04db0b6d2a0182420a6ca6179fab8d5add1538c5249fd447804"), looks := false }, kinds := [], alts := [], laidByText := true, laidKinds := [.data, .pinned], laidTests := true, laidLooks := .later }
def FnExactRecoverUptoCardSaid : Prop := Claim7.holds Tryz.pinned (.plain (OpenSpec.upto fnExactRecoverSpec)) fnExactRecoverUptoCard
end Rows
end Go.Proofs.YtcekmnclmldmmaaGreatDoor
