/-
  NARROWER THAN 'FOR EVERY INPUT', by the rows' own cells (each row's printed sentence says how): EventDecodes: laid.
  DERIVED. THE GIVEN ROWS OF THIS SEAT. 1 by the template 'for every input the law returns true; each argument reads behind the call as it read before'; 0 by the template 'total and deterministic' (their statements: YtfmnaigedgmhoaaGreatDoorTotals.lean).
  GIVEN WITH THE SEED: the statements are not yours to turn. If you find one false, say at which input.
  Laid BY PROGRAM, IN A SANDBOX (cutbox-rows.mjs): the forced cells as the released guide's own fill.sh prints them over the translation 86f5833d1c0c0a6a… (all of the seat's roots in one cut). By AI agents, Wed Nov 11 2026. No macro, syntax, notation, axiom, sorry.
-/
import Derived.Test.YtfmnaigedgmhoaaGreatDoorChecked
import GoSem.Claim
import GoSem.ClaimJoined
import GoSem.ClaimMapViews
import Derived.JoinedTies
import Derived.KernelRfl
namespace Go.Proofs.YtfmnaigedgmhoaaGreatDoor
/- THE CELL 'sum', in the pinned program and in every row, IS THE sha256 OF THE DUMP (.gsa) THAT YtfmnaigedgmhoaaGreatDoorProg.lean LOADS. Nothing in Lean hashes anything: it is a label: what it is worth is what the hold of that sum in a sandbox is worth. -/
noncomputable def Tryz.pinned : Pinned := { name := "ytfmnaigedgmhoaagreatdoor", sum := "86f5833d1c0c0a6ab11fb544abd2f21e0c32287acb452e3f4bb07cd480351319", checked := Tryz.checked }
namespace Rows
def none {H : Type} : Left H := { results := [], args := [] }

/- WHAT THE LISTED PACKAGE-LEVEL VARIABLES READ AS WHEN THE CALL BEGINS. Each datum BY PROGRAM (the guide's laid-datum.mjs) off the statement by which the dump's own 'gosem.cut.vars' lays the variable. In a bare row this is a premise. The card (YtfmnaigedgmhoaaGreatDoorCards.lean) ties it to the program's text. -/
def laid_baggage_event_fields {H : Type} : DataW H := .agg [.nil, .slice [.lit (.int .i64 1)] [], .slice [.lit (.int .i64 2), .lit (.int .i64 3)] [], .slice [.lit (.int .i64 0), .lit (.int .i64 6)] [], .slice [.lit (.int .i64 4), .lit (.int .i64 5)] [], .slice [.lit (.int .i64 7)] [], .slice [.lit (.int .i64 3)] [], .slice [.lit (.int .i64 3)] [], .slice [.lit (.int .i64 9), .lit (.int .i64 3)] [], .slice [.lit (.int .i64 9)] [], .slice [.lit (.int .i64 2), .lit (.int .i64 3)] [], .slice [.lit (.int .i64 8)] [], .slice [.lit (.int .i64 8), .lit (.int .i64 10)] [], .slice [.lit (.int .i64 11)] [], .nil]

/-- 'baggagelaw38.EventDecodes': WHATEVER THE INPUT: true; the input reads as it did. -/
def eventDecodesSpec : ChangeSpec := { name := "eventDecodes", fn := fun _ => fun
  | [d1, d2, d3, d4] => { results := [.lit (.bool true)], args := [d1, d2, d3, d4] }
  | _ => none }
def eventDecodesRow : OpenClaim := { program := "ytfmnaigedgmhoaagreatdoor", sum := "86f5833d1c0c0a6ab11fb544abd2f21e0c32287acb452e3f4bb07cd480351319", func := "baggage/baggagelaw38.EventDecodes", spec := "eventDecodes", unfollowed := true, recurses := true, named := ["baggage/event.fields"], apart := false, laid := [("baggage/event.fields", laid_baggage_event_fields)] }
def EventDecodesSaid : Prop := eventDecodesRow.holds Tryz.pinned (OpenSpec.ofChange eventDecodesSpec)

/-- ITS FALSE NEIGHBOUR: 'it returns false'. Refute it at one input. -/
def eventDecodesWrong : ChangeSpec := { name := "eventDecodes", fn := fun _ => fun
  | [d1, d2, d3, d4] => { results := [.lit (.bool false)], args := [d1, d2, d3, d4] }
  | _ => none }
def EventDecodesWrongFalsely : Prop := eventDecodesRow.holds Tryz.pinned (OpenSpec.ofChange eventDecodesWrong)

/- THE SECOND FORM. 'bulk': how many values and letters a reading holds, each counted each time it is reached (what is shared counts as often as it is met; a slice's spare places count too). A statement '..UptoSaid' is the law's where the arguments, and the package variables that the reading takes, are together of bulk at most 1048576: NARROWER than '..Said'. Prove '..Said' where nothing that the law and all that it calls make is longer than what came in: it says more and counts as full. Else prove '..UptoSaid'. A law counts once. -/
mutual
def uptoBulk {H : Type} : DataW H → Nat
  | .lit (.string bytes) => bytes.length + 1
  | .lit _ => 1
  | .nil => 1
  | .ptr d => uptoBulk d + 1
  | .slice elems spare => uptoBulkAll elems + uptoBulkAll spare + 1
  | .agg parts => uptoBulkAll parts + 1
  | .iface _ d => uptoBulk d + 1
  | .map entries => uptoBulkEntries entries + 1
  | .held _ => 1
def uptoBulkAll {H : Type} : List (DataW H) → Nat
  | [] => 0
  | d :: r => uptoBulk d + uptoBulkAll r
def uptoBulkEntries {H : Type} : List (Lit × DataW H) → Nat
  | [] => 0
  | x :: r => uptoBulkEntry x + uptoBulkEntries r
def uptoBulkEntry {H : Type} : Lit × DataW H → Nat
  | (.string bytes, d) => bytes.length + uptoBulk d + 1
  | (_, d) => uptoBulk d + 1
 end
def uptoSmall : (H : Type) → List (DataW H) → Bool := fun _ ds => decide (uptoBulkAll ds ≤ 1048576)
def OpenSpec.upto (s : _root_.Go.ChangeSpec) : _root_.Go.OpenSpec := { _root_.Go.OpenSpec.ofChange s with cond := some uptoSmall }

/-- 'baggagelaw38.EventDecodes', WHERE WHAT IT READS IS OF BULK AT MOST 1048576: true; the input reads as it did. -/
def eventDecodesUptoRow : OpenClaim := { program := "ytfmnaigedgmhoaagreatdoor", sum := "86f5833d1c0c0a6ab11fb544abd2f21e0c32287acb452e3f4bb07cd480351319", func := "baggage/baggagelaw38.EventDecodes", spec := "eventDecodes", unfollowed := true, recurses := true, named := ["baggage/event.fields"], apart := false, laid := [("baggage/event.fields", laid_baggage_event_fields)], narrowed := true }
def EventDecodesUptoSaid : Prop := eventDecodesUptoRow.holds Tryz.pinned (OpenSpec.upto eventDecodesSpec)

end Rows
end Go.Proofs.YtfmnaigedgmhoaaGreatDoor
