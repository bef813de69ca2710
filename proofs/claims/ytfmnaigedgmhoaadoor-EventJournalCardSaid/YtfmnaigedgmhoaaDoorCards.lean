/-
  DERIVED. GIVEN WITH THE SEED: THE CARDS: each row of YtfmnaigedgmhoaaDoorRows.lean that lists a variable, with what it lists TIED to the program's text (the seventh form; the later family's looks); each row that meets fmt, with fmt's text TOLD by the authors' own Lean function (tested against real Go, not proved from fmt's source: count such statements apart). THE CARD IS WHAT COUNTS. Prove the row's statement (the work); the ties are given (YtfmnaigedgmhoaaDoorTie.lean); close each card by the builder's one call (the guide's Derived/Test/ToyasCard.lean, 'card_holds'). Laid BY PROGRAM, IN A SANDBOX (cutbox-door.mjs). By AI agents, Wed Nov 11 2026. No macro, syntax, notation, axiom, sorry.
-/
import Derived.Test.YtfmnaigedgmhoaaDoorRows
import GoSem.ClaimSeven
namespace Go.Proofs.YtfmnaigedgmhoaaDoor
namespace Rows

/-- THE TIED CARD OF 'baggagelaw38.EventEncodes'. -/
def eventEncodesCard : Claim7 := { stood := { row := eventEncodesRow, standIns := [], harness := (true, "8294881ec5e1edb6874d967390ca3000085223c0fc600e9050720ca6e5c36786"), looks := false }, kinds := [], alts := [], laidByText := true, laidKinds := [.data], laidTests := true, laidLooks := .later }
def EventEncodesCardSaid : Prop := Claim7.holds Tryd.pinned (.plain (OpenSpec.ofChange eventEncodesSpec)) eventEncodesCard

/-- THE TIED CARD OF 'baggagelaw38.EventBack'. -/
def eventBackCard : Claim7 := { stood := { row := eventBackRow, standIns := [], harness := (true, "8294881ec5e1edb6874d967390ca3000085223c0fc600e9050720ca6e5c36786"), looks := false }, kinds := [], alts := [], laidByText := true, laidKinds := [.data], laidTests := true, laidLooks := .later }
def EventBackCardSaid : Prop := Claim7.holds Tryd.pinned (.plain (OpenSpec.ofChange eventBackSpec)) eventBackCard

/-- THE TIED CARD OF 'baggagelaw38.EventPrefix'. -/
def eventPrefixCard : Claim7 := { stood := { row := eventPrefixRow, standIns := [], harness := (true, "8294881ec5e1edb6874d967390ca3000085223c0fc600e9050720ca6e5c36786"), looks := false }, kinds := [], alts := [], laidByText := true, laidKinds := [.data], laidTests := true, laidLooks := .later }
def EventPrefixCardSaid : Prop := Claim7.holds Tryd.pinned (.plain (OpenSpec.ofChange eventPrefixSpec)) eventPrefixCard

/-- THE TIED CARD OF 'baggagelaw38.EventDiffers'. -/
def eventDiffersCard : Claim7 := { stood := { row := eventDiffersRow, standIns := [], harness := (true, "8294881ec5e1edb6874d967390ca3000085223c0fc600e9050720ca6e5c36786"), looks := false }, kinds := [], alts := [], laidByText := true, laidKinds := [.data], laidTests := true, laidLooks := .later }
def EventDiffersCardSaid : Prop := Claim7.holds Tryd.pinned (.plain (OpenSpec.ofChange eventDiffersSpec)) eventDiffersCard

/-- THE TIED CARD OF 'baggagelaw38.EventJournal'. -/
def eventJournalCard : Claim7 := { stood := { row := eventJournalRow, standIns := [], harness := (true, "8294881ec5e1edb6874d967390ca3000085223c0fc600e9050720ca6e5c36786"), looks := false }, kinds := [], alts := [], laidByText := true, laidKinds := [.data], laidTests := true, laidLooks := .later }
def EventJournalCardSaid : Prop := Claim7.holds Tryd.pinned (.plain (OpenSpec.ofChange eventJournalSpec)) eventJournalCard

/-- THE SECOND FORM's CARD OF 'baggagelaw38.EventEncodes'. -/
def eventEncodesUptoCard : Claim7 := { stood := { row := eventEncodesUptoRow, standIns := [], harness := (true, "8294881ec5e1edb6874d967390ca3000085223c0fc600e9050720ca6e5c36786"), looks := false }, kinds := [], alts := [], laidByText := true, laidKinds := [.data], laidTests := true, laidLooks := .later }
def EventEncodesUptoCardSaid : Prop := Claim7.holds Tryd.pinned (.plain (OpenSpec.upto eventEncodesSpec)) eventEncodesUptoCard

/-- THE SECOND FORM's CARD OF 'baggagelaw38.EventBack'. -/
def eventBackUptoCard : Claim7 := { stood := { row := eventBackUptoRow, standIns := [], harness := (true, "8294881ec5e1edb6874d967390ca3000085223c0fc600e9050720ca6e5c36786"), looks := false }, kinds := [], alts := [], laidByText := true, laidKinds := [.data], laidTests := true, laidLooks := .later }
def EventBackUptoCardSaid : Prop := Claim7.holds Tryd.pinned (.plain (OpenSpec.upto eventBackSpec)) eventBackUptoCard

/-- THE SECOND FORM's CARD OF 'baggagelaw38.EventPrefix'. -/
def eventPrefixUptoCard : Claim7 := { stood := { row := eventPrefixUptoRow, standIns := [], harness := (true, "8294881ec5e1edb6874d967390ca3000085223c0fc600e9050720ca6e5c36786"), looks := false }, kinds := [], alts := [], laidByText := true, laidKinds := [.data], laidTests := true, laidLooks := .later }
def EventPrefixUptoCardSaid : Prop := Claim7.holds Tryd.pinned (.plain (OpenSpec.upto eventPrefixSpec)) eventPrefixUptoCard

/-- THE SECOND FORM's CARD OF 'baggagelaw38.EventDiffers'. -/
def eventDiffersUptoCard : Claim7 := { stood := { row := eventDiffersUptoRow, standIns := [], harness := (true, "8294881ec5e1edb6874d967390ca3000085223c0fc600e9050720ca6e5c36786"), looks := false }, kinds := [], alts := [], laidByText := true, laidKinds := [.data], laidTests := true, laidLooks := .later }
def EventDiffersUptoCardSaid : Prop := Claim7.holds Tryd.pinned (.plain (OpenSpec.upto eventDiffersSpec)) eventDiffersUptoCard

/-- THE SECOND FORM's CARD OF 'baggagelaw38.EventJournal'. -/
def eventJournalUptoCard : Claim7 := { stood := { row := eventJournalUptoRow, standIns := [], harness := (true, "8294881ec5e1edb6874d967390ca3000085223c0fc600e9050720ca6e5c36786"), looks := false }, kinds := [], alts := [], laidByText := true, laidKinds := [.data], laidTests := true, laidLooks := .later }
def EventJournalUptoCardSaid : Prop := Claim7.holds Tryd.pinned (.plain (OpenSpec.upto eventJournalSpec)) eventJournalUptoCard
end Rows
end Go.Proofs.YtfmnaigedgmhoaaDoor
