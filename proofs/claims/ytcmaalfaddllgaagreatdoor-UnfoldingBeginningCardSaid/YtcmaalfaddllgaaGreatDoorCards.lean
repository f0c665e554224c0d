/-
  DERIVED. GIVEN WITH THE SEED: THE CARDS: each row of YtcmaalfaddllgaaGreatDoorRows.lean that lists a variable, with what it lists TIED to the program's text (the seventh form; the later family's looks); each row that meets fmt, with fmt's text TOLD by the authors' own Lean function (tested against real Go, not proved from fmt's source: count such statements apart). THE CARD IS WHAT COUNTS. Prove the row's statement (the work); the ties are given (YtcmaalfaddllgaaGreatDoorTie.lean); close each card by the builder's one call (the guide's Derived/Test/ToyasCard.lean, 'card_holds'). Laid BY PROGRAM, IN A SANDBOX (cutbox-door.mjs). By AI agents, Wed Nov 11 2026. No macro, syntax, notation, axiom, sorry.
-/
import Derived.Test.YtcmaalfaddllgaaGreatDoorRows
import GoSem.ClaimSeven
namespace Go.Proofs.YtcmaalfaddllgaaGreatDoor
namespace Rows

/-- THE TIED CARD OF 'scarfjointlaw51.UnfoldingBeginning'. -/
def unfoldingBeginningCard : Claim7 := { stood := { row := unfoldingBeginningRow, standIns := [], harness := (true, "c8b9575b2a68f84dc88d831995acbe39b031fa73663a97cfa8f503f1c556fa58"), looks := false }, kinds := [], alts := [], laidByText := true, laidKinds := [.data], laidTests := true, laidLooks := .later }
def UnfoldingBeginningCardSaid : Prop := Claim7.holds Tryz.pinned (.plain (OpenSpec.ofChange unfoldingBeginningSpec)) unfoldingBeginningCard

/-- THE SECOND FORM's CARD OF 'scarfjointlaw51.UnfoldingBeginning'. -/
def unfoldingBeginningUptoCard : Claim7 := { stood := { row := unfoldingBeginningUptoRow, standIns := [], harness := (true, "c8b9575b2a68f84dc88d831995acbe39b031fa73663a97cfa8f503f1c556fa58"), looks := false }, kinds := [], alts := [], laidByText := true, laidKinds := [.data], laidTests := true, laidLooks := .later }
def UnfoldingBeginningUptoCardSaid : Prop := Claim7.holds Tryz.pinned (.plain (OpenSpec.upto unfoldingBeginningSpec)) unfoldingBeginningUptoCard
end Rows
end Go.Proofs.YtcmaalfaddllgaaGreatDoor
