/-
  DERIVED. GIVEN WITH THE SEED: THE CARDS: each row of YtgccknmddhbdgaaGreatDoorRows.lean that lists a variable, with what it lists TIED to the program's text (the seventh form; the later family's looks); each row that meets fmt, with fmt's text TOLD by the authors' own Lean function (tested against real Go, not proved from fmt's source: count such statements apart). THE CARD IS WHAT COUNTS. Prove the row's statement (the work); the ties are given (YtgccknmddhbdgaaGreatDoorTie.lean); close each card by the builder's one call (the guide's Derived/Test/ToyasCard.lean, 'card_holds'). Laid BY PROGRAM, IN A SANDBOX (cutbox-door.mjs). By AI agents, Wed Nov 11 2026. No macro, syntax, notation, axiom, sorry.
-/
import Derived.Test.YtgccknmddhbdgaaGreatDoorRows
import GoSem.ClaimSeven
namespace Go.Proofs.YtgccknmddhbdgaaGreatDoor
namespace Rows

/-- THE TIED CARD OF 'laws.FnExactWrap'. -/
def fnExactWrapCard : Claim7 := { stood := { row := fnExactWrapRow, standIns := [], harness := (true, "04ceb5c1c46bccc135015deefd72715c47be6b871ecadd268841a9fed62d1ade"), looks := false }, kinds := [], alts := [], laidByText := true, laidKinds := [.data, .pinned], laidTests := true, laidLooks := .later }
def FnExactWrapCardSaid : Prop := Claim7.holds Tryz.pinned (.plain (OpenSpec.ofChange fnExactWrapSpec)) fnExactWrapCard

/-- THE SECOND FORM's CARD OF 'laws.FnExactWrap'. -/
def fnExactWrapUptoCard : Claim7 := { stood := { row := fnExactWrapUptoRow, standIns := [], harness := (true, "04ceb5c1c46bccc135015deefd72715c47be6b871ecadd268841a9fed62d1ade"), looks := false }, kinds := [], alts := [], laidByText := true, laidKinds := [.data, .pinned], laidTests := true, laidLooks := .later }
def FnExactWrapUptoCardSaid : Prop := Claim7.holds Tryz.pinned (.plain (OpenSpec.upto fnExactWrapSpec)) fnExactWrapUptoCard
end Rows
end Go.Proofs.YtgccknmddhbdgaaGreatDoor
