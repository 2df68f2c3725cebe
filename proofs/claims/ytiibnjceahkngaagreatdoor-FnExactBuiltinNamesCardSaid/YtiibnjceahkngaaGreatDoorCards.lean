/-
  DERIVED. GIVEN WITH THE SEED: THE CARDS: each row of YtiibnjceahkngaaGreatDoorRows.lean that lists a variable, with what it lists TIED to the program's text (the seventh form; the later family's looks); each row that meets fmt, with fmt's text TOLD by the authors' own Lean function (tested against real Go, not proved from fmt's source: count such statements apart). THE CARD IS WHAT COUNTS. Prove the row's statement (the work); the ties are given (YtiibnjceahkngaaGreatDoorTie.lean); close each card by the builder's one call (the guide's Derived/Test/ToyasCard.lean, 'card_holds'). Laid BY PROGRAM, IN A SANDBOX (cutbox-door.mjs). By AI agents, Wed Nov 11 2026. No macro, syntax, notation, axiom, sorry.
-/
import Derived.Test.YtiibnjceahkngaaGreatDoorRows
import GoSem.ClaimSeven
namespace Go.Proofs.YtiibnjceahkngaaGreatDoor
namespace Rows

/-- THE TIED CARD OF 'laws.FnExactBuiltinNames'. -/
def fnExactBuiltinNamesCard : Claim7 := { stood := { row := fnExactBuiltinNamesRow, standIns := [], harness := (true, "1687f0f53a13afc13d6a04cf4cf82ddb8731d0894f344db1ef80f1fc63a4db52"), looks := true }, kinds := [], alts := [], laidByText := true, laidKinds := [.data, .data, .data, .data, .sentinel, .sentinel, .data, .pinned], laidTests := true, laidLooks := .later }
def FnExactBuiltinNamesCardSaid : Prop := Claim7.holds Tryz.pinned (.plain (OpenSpec.ofChange fnExactBuiltinNamesSpec)) fnExactBuiltinNamesCard

/-- THE SECOND FORM's CARD OF 'laws.FnExactBuiltinNames'. -/
def fnExactBuiltinNamesUptoCard : Claim7 := { stood := { row := fnExactBuiltinNamesUptoRow, standIns := [], harness := (true, "1687f0f53a13afc13d6a04cf4cf82ddb8731d0894f344db1ef80f1fc63a4db52"), looks := true }, kinds := [], alts := [], laidByText := true, laidKinds := [.data, .data, .data, .data, .sentinel, .sentinel, .data, .pinned], laidTests := true, laidLooks := .later }
def FnExactBuiltinNamesUptoCardSaid : Prop := Claim7.holds Tryz.pinned (.plain (OpenSpec.upto fnExactBuiltinNamesSpec)) fnExactBuiltinNamesUptoCard
end Rows
end Go.Proofs.YtiibnjceahkngaaGreatDoor
