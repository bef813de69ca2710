/-
  NARROWER THAN 'FOR EVERY INPUT', by the rows' own cells (each row's printed sentence says how): EventEncodes: laid · EventBack: laid · EventPrefix: laid · EventDiffers: laid · EventJournal: laid.
  DERIVED. THE GIVEN ROWS OF THIS SEAT. 5 by the template 'for every input the law returns true; each argument reads behind the call as it read before'; 0 by the template 'total and deterministic' (their statements: YtfmnaigedgmhoaaDoorTotals.lean).
  GIVEN WITH THE SEED: the statements are not yours to turn. If you find one false, say at which input.
  Laid BY PROGRAM, IN A SANDBOX (cutbox-rows.mjs): the forced cells as the released guide's own fill.sh prints them over the translation 1fdc7c84b1d73651… (all of the seat's roots in one cut). By AI agents, Wed Nov 11 2026. No macro, syntax, notation, axiom, sorry.
-/
import Derived.Test.YtfmnaigedgmhoaaDoorChecked
import GoSem.Claim
import GoSem.ClaimJoined
import GoSem.ClaimMapViews
import Derived.JoinedTies
import Derived.KernelRfl
namespace Go.Proofs.YtfmnaigedgmhoaaDoor
/- THE CELL 'sum', in the pinned program and in every row, IS THE sha256 OF THE DUMP (.gsa) THAT YtfmnaigedgmhoaaDoorProg.lean LOADS. Nothing in Lean hashes anything: it is a label: what it is worth is what the hold of that sum in a sandbox is worth. -/
noncomputable def Tryd.pinned : Pinned := { name := "ytfmnaigedgmhoaadoor", sum := "1fdc7c84b1d73651c3031da85ad42f40de79be6f473cdd1c29409bc0a240df00", checked := Tryd.checked }
namespace Rows
def none {H : Type} : Left H := { results := [], args := [] }

/- WHAT THE LISTED PACKAGE-LEVEL VARIABLES READ AS WHEN THE CALL BEGINS. Each datum BY PROGRAM (the guide's laid-datum.mjs) off the statement by which the dump's own 'gosem.cut.vars' lays the variable. In a bare row this is a premise. The card (YtfmnaigedgmhoaaDoorCards.lean) ties it to the program's text. -/
def laid_baggage_event_fields {H : Type} : DataW H := .agg [.nil, .slice [.lit (.int .i64 1)] [], .slice [.lit (.int .i64 2), .lit (.int .i64 3)] [], .slice [.lit (.int .i64 0), .lit (.int .i64 6)] [], .slice [.lit (.int .i64 4), .lit (.int .i64 5)] [], .slice [.lit (.int .i64 7)] [], .slice [.lit (.int .i64 3)] [], .slice [.lit (.int .i64 3)] [], .slice [.lit (.int .i64 9), .lit (.int .i64 3)] [], .slice [.lit (.int .i64 9)] [], .slice [.lit (.int .i64 2), .lit (.int .i64 3)] [], .slice [.lit (.int .i64 8)] [], .slice [.lit (.int .i64 8), .lit (.int .i64 10)] [], .slice [.lit (.int .i64 11)] [], .nil]

/-- 'baggagelaw38.EventEncodes': WHATEVER THE INPUT: true; the input reads as it did. -/
def eventEncodesSpec : ChangeSpec := { name := "eventEncodes", fn := fun _ => fun
  | [d1, d2, d3] => { results := [.lit (.bool true)], args := [d1, d2, d3] }
  | _ => none }
def eventEncodesRow : OpenClaim := { program := "ytfmnaigedgmhoaadoor", sum := "1fdc7c84b1d73651c3031da85ad42f40de79be6f473cdd1c29409bc0a240df00", func := "baggage/baggagelaw38.EventEncodes", spec := "eventEncodes", unfollowed := true, recurses := true, named := ["baggage/event.fields"], apart := false, laid := [("baggage/event.fields", laid_baggage_event_fields)] }
def EventEncodesSaid : Prop := eventEncodesRow.holds Tryd.pinned (OpenSpec.ofChange eventEncodesSpec)

/-- ITS FALSE NEIGHBOUR: 'it returns false'. Refute it at one input. -/
def eventEncodesWrong : ChangeSpec := { name := "eventEncodes", fn := fun _ => fun
  | [d1, d2, d3] => { results := [.lit (.bool false)], args := [d1, d2, d3] }
  | _ => none }
def EventEncodesWrongFalsely : Prop := eventEncodesRow.holds Tryd.pinned (OpenSpec.ofChange eventEncodesWrong)

/-- 'baggagelaw38.EventBack': WHATEVER THE INPUT: true; the input reads as it did. -/
def eventBackSpec : ChangeSpec := { name := "eventBack", fn := fun _ => fun
  | [d1, d2] => { results := [.lit (.bool true)], args := [d1, d2] }
  | _ => none }
def eventBackRow : OpenClaim := { program := "ytfmnaigedgmhoaadoor", sum := "1fdc7c84b1d73651c3031da85ad42f40de79be6f473cdd1c29409bc0a240df00", func := "baggage/baggagelaw38.EventBack", spec := "eventBack", unfollowed := true, recurses := true, named := ["baggage/event.fields"], apart := false, laid := [("baggage/event.fields", laid_baggage_event_fields)] }
def EventBackSaid : Prop := eventBackRow.holds Tryd.pinned (OpenSpec.ofChange eventBackSpec)

/-- ITS FALSE NEIGHBOUR: 'it returns false'. Refute it at one input. -/
def eventBackWrong : ChangeSpec := { name := "eventBack", fn := fun _ => fun
  | [d1, d2] => { results := [.lit (.bool false)], args := [d1, d2] }
  | _ => none }
def EventBackWrongFalsely : Prop := eventBackRow.holds Tryd.pinned (OpenSpec.ofChange eventBackWrong)

/-- 'baggagelaw38.EventPrefix': WHATEVER THE INPUT: true; the input reads as it did. -/
def eventPrefixSpec : ChangeSpec := { name := "eventPrefix", fn := fun _ => fun
  | [d1, d2, d3] => { results := [.lit (.bool true)], args := [d1, d2, d3] }
  | _ => none }
def eventPrefixRow : OpenClaim := { program := "ytfmnaigedgmhoaadoor", sum := "1fdc7c84b1d73651c3031da85ad42f40de79be6f473cdd1c29409bc0a240df00", func := "baggage/baggagelaw38.EventPrefix", spec := "eventPrefix", unfollowed := true, recurses := true, named := ["baggage/event.fields"], apart := false, laid := [("baggage/event.fields", laid_baggage_event_fields)] }
def EventPrefixSaid : Prop := eventPrefixRow.holds Tryd.pinned (OpenSpec.ofChange eventPrefixSpec)

/-- ITS FALSE NEIGHBOUR: 'it returns false'. Refute it at one input. -/
def eventPrefixWrong : ChangeSpec := { name := "eventPrefix", fn := fun _ => fun
  | [d1, d2, d3] => { results := [.lit (.bool false)], args := [d1, d2, d3] }
  | _ => none }
def EventPrefixWrongFalsely : Prop := eventPrefixRow.holds Tryd.pinned (OpenSpec.ofChange eventPrefixWrong)

/-- 'baggagelaw38.EventDiffers': WHATEVER THE INPUT: true; the input reads as it did. -/
def eventDiffersSpec : ChangeSpec := { name := "eventDiffers", fn := fun _ => fun
  | [d] => { results := [.lit (.bool true)], args := [d] }
  | _ => none }
def eventDiffersRow : OpenClaim := { program := "ytfmnaigedgmhoaadoor", sum := "1fdc7c84b1d73651c3031da85ad42f40de79be6f473cdd1c29409bc0a240df00", func := "baggage/baggagelaw38.EventDiffers", spec := "eventDiffers", unfollowed := true, recurses := true, named := ["baggage/event.fields"], apart := false, laid := [("baggage/event.fields", laid_baggage_event_fields)] }
def EventDiffersSaid : Prop := eventDiffersRow.holds Tryd.pinned (OpenSpec.ofChange eventDiffersSpec)

/-- ITS FALSE NEIGHBOUR: 'it returns false'. Refute it at one input. -/
def eventDiffersWrong : ChangeSpec := { name := "eventDiffers", fn := fun _ => fun
  | [d] => { results := [.lit (.bool false)], args := [d] }
  | _ => none }
def EventDiffersWrongFalsely : Prop := eventDiffersRow.holds Tryd.pinned (OpenSpec.ofChange eventDiffersWrong)

/-- 'baggagelaw38.EventJournal': WHATEVER THE INPUT: true; the input reads as it did. -/
def eventJournalSpec : ChangeSpec := { name := "eventJournal", fn := fun _ => fun
  | [d1, d2] => { results := [.lit (.bool true)], args := [d1, d2] }
  | _ => none }
def eventJournalRow : OpenClaim := { program := "ytfmnaigedgmhoaadoor", sum := "1fdc7c84b1d73651c3031da85ad42f40de79be6f473cdd1c29409bc0a240df00", func := "baggage/baggagelaw38.EventJournal", spec := "eventJournal", unfollowed := true, recurses := true, named := ["baggage/event.fields"], apart := false, laid := [("baggage/event.fields", laid_baggage_event_fields)] }
def EventJournalSaid : Prop := eventJournalRow.holds Tryd.pinned (OpenSpec.ofChange eventJournalSpec)

/-- ITS FALSE NEIGHBOUR: 'it returns false'. Refute it at one input. -/
def eventJournalWrong : ChangeSpec := { name := "eventJournal", fn := fun _ => fun
  | [d1, d2] => { results := [.lit (.bool false)], args := [d1, d2] }
  | _ => none }
def EventJournalWrongFalsely : Prop := eventJournalRow.holds Tryd.pinned (OpenSpec.ofChange eventJournalWrong)

/- THE SECOND FORM. 'bulk': how many values and letters a reading holds, each counted each time it is reached (what is shared counts as often as it is met; a slice's spare places count too). A statement '..UptoSaid' is the law's where the arguments, and the package variables that the reading takes, are together of bulk at most 1048576: NARROWER than '..Said'. Prove '..Said' where nothing that the law and all that it calls make is longer than what came in: it says more and counts as full. Else prove '..UptoSaid'. A law counts once. -/
mutual
def uptoBulk {H : Type} : DataW H → Nat
  | .lit (.string bytes) => bytes.length + 1
  | .lit _ => 1
  | .nil => 1
  | .ptr d => uptoBulk d + 1
  | .slice elems spare => uptoBulkAll elems + uptoBulkAll spare + 1
  | .agg parts => uptoBulkAll parts + 1
  | .iface _ d => uptoBulk d + 1
  | .map entries => uptoBulkEntries entries + 1
  | .held _ => 1
def uptoBulkAll {H : Type} : List (DataW H) → Nat
  | [] => 0
  | d :: r => uptoBulk d + uptoBulkAll r
def uptoBulkEntries {H : Type} : List (Lit × DataW H) → Nat
  | [] => 0
  | x :: r => uptoBulkEntry x + uptoBulkEntries r
def uptoBulkEntry {H : Type} : Lit × DataW H → Nat
  | (.string bytes, d) => bytes.length + uptoBulk d + 1
  | (_, d) => uptoBulk d + 1
 end
def uptoSmall : (H : Type) → List (DataW H) → Bool := fun _ ds => decide (uptoBulkAll ds ≤ 1048576)
def OpenSpec.upto (s : _root_.Go.ChangeSpec) : _root_.Go.OpenSpec := { _root_.Go.OpenSpec.ofChange s with cond := some uptoSmall }

/-- 'baggagelaw38.EventEncodes', WHERE WHAT IT READS IS OF BULK AT MOST 1048576: true; the input reads as it did. -/
def eventEncodesUptoRow : OpenClaim := { program := "ytfmnaigedgmhoaadoor", sum := "1fdc7c84b1d73651c3031da85ad42f40de79be6f473cdd1c29409bc0a240df00", func := "baggage/baggagelaw38.EventEncodes", spec := "eventEncodes", unfollowed := true, recurses := true, named := ["baggage/event.fields"], apart := false, laid := [("baggage/event.fields", laid_baggage_event_fields)], narrowed := true }
def EventEncodesUptoSaid : Prop := eventEncodesUptoRow.holds Tryd.pinned (OpenSpec.upto eventEncodesSpec)

/-- 'baggagelaw38.EventBack', WHERE WHAT IT READS IS OF BULK AT MOST 1048576: true; the input reads as it did. -/
def eventBackUptoRow : OpenClaim := { program := "ytfmnaigedgmhoaadoor", sum := "1fdc7c84b1d73651c3031da85ad42f40de79be6f473cdd1c29409bc0a240df00", func := "baggage/baggagelaw38.EventBack", spec := "eventBack", unfollowed := true, recurses := true, named := ["baggage/event.fields"], apart := false, laid := [("baggage/event.fields", laid_baggage_event_fields)], narrowed := true }
def EventBackUptoSaid : Prop := eventBackUptoRow.holds Tryd.pinned (OpenSpec.upto eventBackSpec)

/-- 'baggagelaw38.EventPrefix', WHERE WHAT IT READS IS OF BULK AT MOST 1048576: true; the input reads as it did. -/
def eventPrefixUptoRow : OpenClaim := { program := "ytfmnaigedgmhoaadoor", sum := "1fdc7c84b1d73651c3031da85ad42f40de79be6f473cdd1c29409bc0a240df00", func := "baggage/baggagelaw38.EventPrefix", spec := "eventPrefix", unfollowed := true, recurses := true, named := ["baggage/event.fields"], apart := false, laid := [("baggage/event.fields", laid_baggage_event_fields)], narrowed := true }
def EventPrefixUptoSaid : Prop := eventPrefixUptoRow.holds Tryd.pinned (OpenSpec.upto eventPrefixSpec)

/-- 'baggagelaw38.EventDiffers', WHERE WHAT IT READS IS OF BULK AT MOST 1048576: true; the input reads as it did. -/
def eventDiffersUptoRow : OpenClaim := { program := "ytfmnaigedgmhoaadoor", sum := "1fdc7c84b1d73651c3031da85ad42f40de79be6f473cdd1c29409bc0a240df00", func := "baggage/baggagelaw38.EventDiffers", spec := "eventDiffers", unfollowed := true, recurses := true, named := ["baggage/event.fields"], apart := false, laid := [("baggage/event.fields", laid_baggage_event_fields)], narrowed := true }
def EventDiffersUptoSaid : Prop := eventDiffersUptoRow.holds Tryd.pinned (OpenSpec.upto eventDiffersSpec)

/-- 'baggagelaw38.EventJournal', WHERE WHAT IT READS IS OF BULK AT MOST 1048576: true; the input reads as it did. -/
def eventJournalUptoRow : OpenClaim := { program := "ytfmnaigedgmhoaadoor", sum := "1fdc7c84b1d73651c3031da85ad42f40de79be6f473cdd1c29409bc0a240df00", func := "baggage/baggagelaw38.EventJournal", spec := "eventJournal", unfollowed := true, recurses := true, named := ["baggage/event.fields"], apart := false, laid := [("baggage/event.fields", laid_baggage_event_fields)], narrowed := true }
def EventJournalUptoSaid : Prop := eventJournalUptoRow.holds Tryd.pinned (OpenSpec.upto eventJournalSpec)

end Rows
end Go.Proofs.YtfmnaigedgmhoaaDoor
