/-
  DERIVED. GIVEN WITH THE SEED: THE CARDS: each row of YtfmnaigedgmhoaaGreatDoorRows.lean that lists a variable, with what it lists TIED to the program's text (the seventh form; the later family's looks); each row that meets fmt, with fmt's text TOLD by the authors' own Lean function (tested against real Go, not proved from fmt's source: count such statements apart). THE CARD IS WHAT COUNTS. Prove the row's statement (the work); the ties are given (YtfmnaigedgmhoaaGreatDoorTie.lean); close each card by the builder's one call (the guide's Derived/Test/ToyasCard.lean, 'card_holds'). Laid BY PROGRAM, IN A SANDBOX (cutbox-door.mjs). By AI agents, Wed Nov 11 2026. No macro, syntax, notation, axiom, sorry.
-/
import Derived.Test.YtfmnaigedgmhoaaGreatDoorRows
import GoSem.ClaimSeven
namespace Go.Proofs.YtfmnaigedgmhoaaGreatDoor
namespace Rows

/-- THE TIED CARD OF 'baggagelaw38.EventDecodes'. -/
def eventDecodesCard : Claim7 := { stood := { row := eventDecodesRow, standIns := [], harness := (true, "018467cc79174ee215a231dc35e751ba36a63bea3a9cb937b3fb29f22c4c7b0b"), looks := false }, kinds := [], alts := [], laidByText := true, laidKinds := [.data], laidTests := true, laidLooks := .later }
def EventDecodesCardSaid : Prop := Claim7.holds Tryz.pinned (.plain (OpenSpec.ofChange eventDecodesSpec)) eventDecodesCard

/-- THE SECOND FORM's CARD OF 'baggagelaw38.EventDecodes'. -/
def eventDecodesUptoCard : Claim7 := { stood := { row := eventDecodesUptoRow, standIns := [], harness := (true, "018467cc79174ee215a231dc35e751ba36a63bea3a9cb937b3fb29f22c4c7b0b"), looks := false }, kinds := [], alts := [], laidByText := true, laidKinds := [.data], laidTests := true, laidLooks := .later }
def EventDecodesUptoCardSaid : Prop := Claim7.holds Tryz.pinned (.plain (OpenSpec.upto eventDecodesSpec)) eventDecodesUptoCard
end Rows
end Go.Proofs.YtfmnaigedgmhoaaGreatDoor
