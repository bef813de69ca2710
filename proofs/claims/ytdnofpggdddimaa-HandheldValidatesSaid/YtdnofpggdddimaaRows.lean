/-
  No cell of these rows narrows 'for every input' (looked for: loops, veiled, ifaces, maps, wideKeys, modest, calm, conditions, laid).
  DERIVED. THE GIVEN ROWS OF THIS SEAT. 7 by the template 'for every input the law returns true; each argument reads behind the call as it read before'; 0 by the template 'total and deterministic' (their statements: YtdnofpggdddimaaTotals.lean).
  GIVEN WITH THE SEED: the statements are not yours to turn. If you find one false, say at which input.
  Laid BY PROGRAM, IN A SANDBOX (cutbox-rows.mjs): the forced cells as the released guide's own fill.sh prints them over the translation 13e032d53af9411d… (all of the seat's roots in one cut). By AI agents, Wed Nov 11 2026. No macro, syntax, notation, axiom, sorry.
-/
import Derived.Test.YtdnofpggdddimaaChecked
import GoSem.Claim
import GoSem.ClaimJoined
import GoSem.ClaimMapViews
import Derived.JoinedTies
import Derived.KernelRfl
namespace Go.Proofs.Ytdnofpggdddimaa
/- THE CELL 'sum', in the pinned program and in every row, IS THE sha256 OF THE DUMP (.gsa) THAT YtdnofpggdddimaaProg.lean LOADS. Nothing in Lean hashes anything: it is a label: what it is worth is what the hold of that sum in a sandbox is worth. -/
noncomputable def Try.pinned : Pinned := { name := "ytdnofpggdddimaa", sum := "13e032d53af9411d3df1b8a0ee535021d718e9104ba3b50bcc55b1c64d6c761b", checked := Try.checked }
namespace Rows
def none {H : Type} : Left H := { results := [], args := [] }

/-- 'baggagelaw29.HandheldValidates': WHATEVER THE INPUT: true; the input reads as it did. -/
def handheldValidatesSpec : ChangeSpec := { name := "handheldValidates", fn := fun _ => fun
  | [d1, d2, d3, d4] => { results := [.lit (.bool true)], args := [d1, d2, d3, d4] }
  | _ => none }
def handheldValidatesRow : OpenClaim := { program := "ytdnofpggdddimaa", sum := "13e032d53af9411d3df1b8a0ee535021d718e9104ba3b50bcc55b1c64d6c761b", func := "baggage/baggagelaw29.HandheldValidates", spec := "handheldValidates", unfollowed := true, recurses := true, plainKeys := false, apart := false }
def HandheldValidatesSaid : Prop := handheldValidatesRow.holds Try.pinned (OpenSpec.ofChange handheldValidatesSpec)

/-- ITS FALSE NEIGHBOUR: 'it returns false'. Refute it at one input. -/
def handheldValidatesWrong : ChangeSpec := { name := "handheldValidates", fn := fun _ => fun
  | [d1, d2, d3, d4] => { results := [.lit (.bool false)], args := [d1, d2, d3, d4] }
  | _ => none }
def HandheldValidatesWrongFalsely : Prop := handheldValidatesRow.holds Try.pinned (OpenSpec.ofChange handheldValidatesWrong)

/-- 'baggagelaw29.HandheldScans': WHATEVER THE INPUT: true; the input reads as it did. -/
def handheldScansSpec : ChangeSpec := { name := "handheldScans", fn := fun _ => fun
  | [d1, d2, d3, d4, d5, d6] => { results := [.lit (.bool true)], args := [d1, d2, d3, d4, d5, d6] }
  | _ => none }
def handheldScansRow : OpenClaim := { program := "ytdnofpggdddimaa", sum := "13e032d53af9411d3df1b8a0ee535021d718e9104ba3b50bcc55b1c64d6c761b", func := "baggage/baggagelaw29.HandheldScans", spec := "handheldScans", unfollowed := true, recurses := true, plainKeys := false, apart := false }
def HandheldScansSaid : Prop := handheldScansRow.holds Try.pinned (OpenSpec.ofChange handheldScansSpec)

/-- ITS FALSE NEIGHBOUR: 'it returns false'. Refute it at one input. -/
def handheldScansWrong : ChangeSpec := { name := "handheldScans", fn := fun _ => fun
  | [d1, d2, d3, d4, d5, d6] => { results := [.lit (.bool false)], args := [d1, d2, d3, d4, d5, d6] }
  | _ => none }
def HandheldScansWrongFalsely : Prop := handheldScansRow.holds Try.pinned (OpenSpec.ofChange handheldScansWrong)

/-- 'baggagelaw29.HandheldFree': WHATEVER THE INPUT: true; the input reads as it did. -/
def handheldFreeSpec : ChangeSpec := { name := "handheldFree", fn := fun _ => fun
  | [d1, d2] => { results := [.lit (.bool true)], args := [d1, d2] }
  | _ => none }
def handheldFreeRow : OpenClaim := { program := "ytdnofpggdddimaa", sum := "13e032d53af9411d3df1b8a0ee535021d718e9104ba3b50bcc55b1c64d6c761b", func := "baggage/baggagelaw29.HandheldFree", spec := "handheldFree", unfollowed := true, recurses := true, plainKeys := false, apart := false }
def HandheldFreeSaid : Prop := handheldFreeRow.holds Try.pinned (OpenSpec.ofChange handheldFreeSpec)

/-- ITS FALSE NEIGHBOUR: 'it returns false'. Refute it at one input. -/
def handheldFreeWrong : ChangeSpec := { name := "handheldFree", fn := fun _ => fun
  | [d1, d2] => { results := [.lit (.bool false)], args := [d1, d2] }
  | _ => none }
def HandheldFreeWrongFalsely : Prop := handheldFreeRow.holds Try.pinned (OpenSpec.ofChange handheldFreeWrong)

/-- 'baggagelaw29.HandheldConnects': WHATEVER THE INPUT: true; the input reads as it did. -/
def handheldConnectsSpec : ChangeSpec := { name := "handheldConnects", fn := fun _ => fun
  | [d1, d2, d3, d4] => { results := [.lit (.bool true)], args := [d1, d2, d3, d4] }
  | _ => none }
def handheldConnectsRow : OpenClaim := { program := "ytdnofpggdddimaa", sum := "13e032d53af9411d3df1b8a0ee535021d718e9104ba3b50bcc55b1c64d6c761b", func := "baggage/baggagelaw29.HandheldConnects", spec := "handheldConnects", unfollowed := true, recurses := true, plainKeys := false, apart := false }
def HandheldConnectsSaid : Prop := handheldConnectsRow.holds Try.pinned (OpenSpec.ofChange handheldConnectsSpec)

/-- ITS FALSE NEIGHBOUR: 'it returns false'. Refute it at one input. -/
def handheldConnectsWrong : ChangeSpec := { name := "handheldConnects", fn := fun _ => fun
  | [d1, d2, d3, d4] => { results := [.lit (.bool false)], args := [d1, d2, d3, d4] }
  | _ => none }
def HandheldConnectsWrongFalsely : Prop := handheldConnectsRow.holds Try.pinned (OpenSpec.ofChange handheldConnectsWrong)

/-- 'baggagelaw29.HandheldLogs': WHATEVER THE INPUT: true; the input reads as it did. -/
def handheldLogsSpec : ChangeSpec := { name := "handheldLogs", fn := fun _ => fun
  | [d] => { results := [.lit (.bool true)], args := [d] }
  | _ => none }
def handheldLogsRow : OpenClaim := { program := "ytdnofpggdddimaa", sum := "13e032d53af9411d3df1b8a0ee535021d718e9104ba3b50bcc55b1c64d6c761b", func := "baggage/baggagelaw29.HandheldLogs", spec := "handheldLogs", unfollowed := true, recurses := true, plainKeys := false, apart := false }
def HandheldLogsSaid : Prop := handheldLogsRow.holds Try.pinned (OpenSpec.ofChange handheldLogsSpec)

/-- ITS FALSE NEIGHBOUR: 'it returns false'. Refute it at one input. -/
def handheldLogsWrong : ChangeSpec := { name := "handheldLogs", fn := fun _ => fun
  | [d] => { results := [.lit (.bool false)], args := [d] }
  | _ => none }
def HandheldLogsWrongFalsely : Prop := handheldLogsRow.holds Try.pinned (OpenSpec.ofChange handheldLogsWrong)

/-- 'baggagelaw29.HandheldGrants': WHATEVER THE INPUT: true; the input reads as it did. -/
def handheldGrantsSpec : ChangeSpec := { name := "handheldGrants", fn := fun _ => fun
  | [d] => { results := [.lit (.bool true)], args := [d] }
  | _ => none }
def handheldGrantsRow : OpenClaim := { program := "ytdnofpggdddimaa", sum := "13e032d53af9411d3df1b8a0ee535021d718e9104ba3b50bcc55b1c64d6c761b", func := "baggage/baggagelaw29.HandheldGrants", spec := "handheldGrants", unfollowed := true, recurses := true, plainKeys := false, apart := false }
def HandheldGrantsSaid : Prop := handheldGrantsRow.holds Try.pinned (OpenSpec.ofChange handheldGrantsSpec)

/-- ITS FALSE NEIGHBOUR: 'it returns false'. Refute it at one input. -/
def handheldGrantsWrong : ChangeSpec := { name := "handheldGrants", fn := fun _ => fun
  | [d] => { results := [.lit (.bool false)], args := [d] }
  | _ => none }
def HandheldGrantsWrongFalsely : Prop := handheldGrantsRow.holds Try.pinned (OpenSpec.ofChange handheldGrantsWrong)

/-- 'baggagelaw29.HandheldKeeps': WHATEVER THE INPUT: true; the input reads as it did. -/
def handheldKeepsSpec : ChangeSpec := { name := "handheldKeeps", fn := fun _ => fun
  | [d] => { results := [.lit (.bool true)], args := [d] }
  | _ => none }
def handheldKeepsRow : OpenClaim := { program := "ytdnofpggdddimaa", sum := "13e032d53af9411d3df1b8a0ee535021d718e9104ba3b50bcc55b1c64d6c761b", func := "baggage/baggagelaw29.HandheldKeeps", spec := "handheldKeeps", unfollowed := true, recurses := true, plainKeys := false, apart := false }
def HandheldKeepsSaid : Prop := handheldKeepsRow.holds Try.pinned (OpenSpec.ofChange handheldKeepsSpec)

/-- ITS FALSE NEIGHBOUR: 'it returns false'. Refute it at one input. -/
def handheldKeepsWrong : ChangeSpec := { name := "handheldKeeps", fn := fun _ => fun
  | [d] => { results := [.lit (.bool false)], args := [d] }
  | _ => none }
def HandheldKeepsWrongFalsely : Prop := handheldKeepsRow.holds Try.pinned (OpenSpec.ofChange handheldKeepsWrong)

/- THE SECOND FORM. 'bulk': how many values and letters a reading holds, each counted each time it is reached (what is shared counts as often as it is met; a slice's spare places count too). A statement '..UptoSaid' is the law's where the arguments, and the package variables that the reading takes, are together of bulk at most 1048576: NARROWER than '..Said'. Prove '..Said' where nothing that the law and all that it calls make is longer than what came in: it says more and counts as full. Else prove '..UptoSaid'. A law counts once. -/
mutual
def uptoBulk {H : Type} : DataW H → Nat
  | .lit (.string bytes) => bytes.length + 1
  | .lit _ => 1
  | .nil => 1
  | .ptr d => uptoBulk d + 1
  | .slice elems spare => uptoBulkAll elems + uptoBulkAll spare + 1
  | .agg parts => uptoBulkAll parts + 1
  | .iface _ d => uptoBulk d + 1
  | .map entries => uptoBulkEntries entries + 1
  | .held _ => 1
def uptoBulkAll {H : Type} : List (DataW H) → Nat
  | [] => 0
  | d :: r => uptoBulk d + uptoBulkAll r
def uptoBulkEntries {H : Type} : List (Lit × DataW H) → Nat
  | [] => 0
  | x :: r => uptoBulkEntry x + uptoBulkEntries r
def uptoBulkEntry {H : Type} : Lit × DataW H → Nat
  | (.string bytes, d) => bytes.length + uptoBulk d + 1
  | (_, d) => uptoBulk d + 1
 end
def uptoSmall : (H : Type) → List (DataW H) → Bool := fun _ ds => decide (uptoBulkAll ds ≤ 1048576)
def OpenSpec.upto (s : _root_.Go.ChangeSpec) : _root_.Go.OpenSpec := { _root_.Go.OpenSpec.ofChange s with cond := some uptoSmall }

/-- 'baggagelaw29.HandheldValidates', WHERE WHAT IT READS IS OF BULK AT MOST 1048576: true; the input reads as it did. -/
def handheldValidatesUptoRow : OpenClaim := { program := "ytdnofpggdddimaa", sum := "13e032d53af9411d3df1b8a0ee535021d718e9104ba3b50bcc55b1c64d6c761b", func := "baggage/baggagelaw29.HandheldValidates", spec := "handheldValidates", unfollowed := true, recurses := true, plainKeys := false, apart := false, narrowed := true }
def HandheldValidatesUptoSaid : Prop := handheldValidatesUptoRow.holds Try.pinned (OpenSpec.upto handheldValidatesSpec)

/-- 'baggagelaw29.HandheldScans', WHERE WHAT IT READS IS OF BULK AT MOST 1048576: true; the input reads as it did. -/
def handheldScansUptoRow : OpenClaim := { program := "ytdnofpggdddimaa", sum := "13e032d53af9411d3df1b8a0ee535021d718e9104ba3b50bcc55b1c64d6c761b", func := "baggage/baggagelaw29.HandheldScans", spec := "handheldScans", unfollowed := true, recurses := true, plainKeys := false, apart := false, narrowed := true }
def HandheldScansUptoSaid : Prop := handheldScansUptoRow.holds Try.pinned (OpenSpec.upto handheldScansSpec)

/-- 'baggagelaw29.HandheldFree', WHERE WHAT IT READS IS OF BULK AT MOST 1048576: true; the input reads as it did. -/
def handheldFreeUptoRow : OpenClaim := { program := "ytdnofpggdddimaa", sum := "13e032d53af9411d3df1b8a0ee535021d718e9104ba3b50bcc55b1c64d6c761b", func := "baggage/baggagelaw29.HandheldFree", spec := "handheldFree", unfollowed := true, recurses := true, plainKeys := false, apart := false, narrowed := true }
def HandheldFreeUptoSaid : Prop := handheldFreeUptoRow.holds Try.pinned (OpenSpec.upto handheldFreeSpec)

/-- 'baggagelaw29.HandheldConnects', WHERE WHAT IT READS IS OF BULK AT MOST 1048576: true; the input reads as it did. -/
def handheldConnectsUptoRow : OpenClaim := { program := "ytdnofpggdddimaa", sum := "13e032d53af9411d3df1b8a0ee535021d718e9104ba3b50bcc55b1c64d6c761b", func := "baggage/baggagelaw29.HandheldConnects", spec := "handheldConnects", unfollowed := true, recurses := true, plainKeys := false, apart := false, narrowed := true }
def HandheldConnectsUptoSaid : Prop := handheldConnectsUptoRow.holds Try.pinned (OpenSpec.upto handheldConnectsSpec)

/-- 'baggagelaw29.HandheldLogs', WHERE WHAT IT READS IS OF BULK AT MOST 1048576: true; the input reads as it did. -/
def handheldLogsUptoRow : OpenClaim := { program := "ytdnofpggdddimaa", sum := "13e032d53af9411d3df1b8a0ee535021d718e9104ba3b50bcc55b1c64d6c761b", func := "baggage/baggagelaw29.HandheldLogs", spec := "handheldLogs", unfollowed := true, recurses := true, plainKeys := false, apart := false, narrowed := true }
def HandheldLogsUptoSaid : Prop := handheldLogsUptoRow.holds Try.pinned (OpenSpec.upto handheldLogsSpec)

/-- 'baggagelaw29.HandheldGrants', WHERE WHAT IT READS IS OF BULK AT MOST 1048576: true; the input reads as it did. -/
def handheldGrantsUptoRow : OpenClaim := { program := "ytdnofpggdddimaa", sum := "13e032d53af9411d3df1b8a0ee535021d718e9104ba3b50bcc55b1c64d6c761b", func := "baggage/baggagelaw29.HandheldGrants", spec := "handheldGrants", unfollowed := true, recurses := true, plainKeys := false, apart := false, narrowed := true }
def HandheldGrantsUptoSaid : Prop := handheldGrantsUptoRow.holds Try.pinned (OpenSpec.upto handheldGrantsSpec)

/-- 'baggagelaw29.HandheldKeeps', WHERE WHAT IT READS IS OF BULK AT MOST 1048576: true; the input reads as it did. -/
def handheldKeepsUptoRow : OpenClaim := { program := "ytdnofpggdddimaa", sum := "13e032d53af9411d3df1b8a0ee535021d718e9104ba3b50bcc55b1c64d6c761b", func := "baggage/baggagelaw29.HandheldKeeps", spec := "handheldKeeps", unfollowed := true, recurses := true, plainKeys := false, apart := false, narrowed := true }
def HandheldKeepsUptoSaid : Prop := handheldKeepsUptoRow.holds Try.pinned (OpenSpec.upto handheldKeepsSpec)

end Rows
end Go.Proofs.Ytdnofpggdddimaa
