/-
  DERIVED. GIVEN WITH THE SEED: THE CARDS: each row of YtkencjbbibdamaaGreatDoorRows.lean that lists a variable, with what it lists TIED to the program's text (the seventh form; the later family's looks); each row that meets fmt, with fmt's text TOLD by the authors' own Lean function (tested against real Go, not proved from fmt's source: count such statements apart). THE CARD IS WHAT COUNTS. Prove the row's statement (the work); the ties are given (YtkencjbbibdamaaGreatDoorTie.lean); close each card by the builder's one call (the guide's Derived/Test/ToyasCard.lean, 'card_holds'). Laid BY PROGRAM, IN A SANDBOX (cutbox-door.mjs). By AI agents, Wed Nov 11 2026. No macro, syntax, notation, axiom, sorry.
-/
import Derived.Test.YtkencjbbibdamaaGreatDoorRows
import GoSem.ClaimSeven
namespace Go.Proofs.YtkencjbbibdamaaGreatDoor
namespace Rows

/-- THE TIED CARD OF 'scarfjointlaw51.UnfoldingTurned'. -/
def unfoldingTurnedCard : Claim7 := { stood := { row := unfoldingTurnedRow, standIns := [], harness := (true, "a6fba684f2c19d8034bfabe44a07a76de6e455ab0559137ed96a3539a2223a4e"), looks := false }, kinds := [], alts := [], laidByText := true, laidKinds := [.data], laidTests := true, laidLooks := .later }
def UnfoldingTurnedCardSaid : Prop := Claim7.holds Tryz.pinned (.plain (OpenSpec.ofChange unfoldingTurnedSpec)) unfoldingTurnedCard

/-- THE SECOND FORM's CARD OF 'scarfjointlaw51.UnfoldingTurned'. -/
def unfoldingTurnedUptoCard : Claim7 := { stood := { row := unfoldingTurnedUptoRow, standIns := [], harness := (true, "a6fba684f2c19d8034bfabe44a07a76de6e455ab0559137ed96a3539a2223a4e"), looks := false }, kinds := [], alts := [], laidByText := true, laidKinds := [.data], laidTests := true, laidLooks := .later }
def UnfoldingTurnedUptoCardSaid : Prop := Claim7.holds Tryz.pinned (.plain (OpenSpec.upto unfoldingTurnedSpec)) unfoldingTurnedUptoCard
end Rows
end Go.Proofs.YtkencjbbibdamaaGreatDoor
