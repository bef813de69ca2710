/-
  No cell of these rows narrows 'for every input' (looked for: loops, veiled, ifaces, maps, wideKeys, modest, calm, conditions, laid).
  DERIVED. THE GIVEN ROWS OF THIS SEAT. 7 by the template 'for every input the law returns true; each argument reads behind the call as it read before'; 0 by the template 'total and deterministic' (their statements: YtnedeajebhbjbaaTotals.lean).
  GIVEN WITH THE SEED: the statements are not yours to turn. If you find one false, say at which input.
  Laid BY PROGRAM, IN A SANDBOX (cutbox-rows.mjs): the forced cells as the released guide's own fill.sh prints them over the translation 2ebe2a3f44dd2c46… (all of the seat's roots in one cut). By AI agents, Wed Nov 11 2026. No macro, syntax, notation, axiom, sorry.
-/
import Derived.Test.YtnedeajebhbjbaaChecked
import GoSem.Claim
import GoSem.ClaimJoined
import GoSem.ClaimMapViews
import Derived.JoinedTies
import Derived.KernelRfl
namespace Go.Proofs.Ytnedeajebhbjbaa
/- THE CELL 'sum', in the pinned program and in every row, IS THE sha256 OF THE DUMP (.gsa) THAT YtnedeajebhbjbaaProg.lean LOADS. Nothing in Lean hashes anything: it is a label: what it is worth is what the hold of that sum in a sandbox is worth. -/
noncomputable def Try.pinned : Pinned := { name := "ytnedeajebhbjbaa", sum := "2ebe2a3f44dd2c46f39f3de39215d9c4a1a76c77b2bfb0546788b02568e1009a", checked := Try.checked }
namespace Rows
def none {H : Type} : Left H := { results := [], args := [] }

/-- 'baggagelaw37.JournalChecks': WHATEVER THE INPUT: true; the input reads as it did. -/
def journalChecksSpec : ChangeSpec := { name := "journalChecks", fn := fun _ => fun
  | [d1, d2, d3] => { results := [.lit (.bool true)], args := [d1, d2, d3] }
  | _ => none }
def journalChecksRow : OpenClaim := { program := "ytnedeajebhbjbaa", sum := "2ebe2a3f44dd2c46f39f3de39215d9c4a1a76c77b2bfb0546788b02568e1009a", func := "baggage/baggagelaw37.JournalChecks", spec := "journalChecks", apart := false }
def JournalChecksSaid : Prop := journalChecksRow.holds Try.pinned (OpenSpec.ofChange journalChecksSpec)

/-- ITS FALSE NEIGHBOUR: 'it returns false'. Refute it at one input. -/
def journalChecksWrong : ChangeSpec := { name := "journalChecks", fn := fun _ => fun
  | [d1, d2, d3] => { results := [.lit (.bool false)], args := [d1, d2, d3] }
  | _ => none }
def JournalChecksWrongFalsely : Prop := journalChecksRow.holds Try.pinned (OpenSpec.ofChange journalChecksWrong)

/-- 'baggagelaw37.JournalDamage': WHATEVER THE INPUT: true; the input reads as it did. -/
def journalDamageSpec : ChangeSpec := { name := "journalDamage", fn := fun _ => fun
  | [d1, d2, d3] => { results := [.lit (.bool true)], args := [d1, d2, d3] }
  | _ => none }
def journalDamageRow : OpenClaim := { program := "ytnedeajebhbjbaa", sum := "2ebe2a3f44dd2c46f39f3de39215d9c4a1a76c77b2bfb0546788b02568e1009a", func := "baggage/baggagelaw37.JournalDamage", spec := "journalDamage", apart := false }
def JournalDamageSaid : Prop := journalDamageRow.holds Try.pinned (OpenSpec.ofChange journalDamageSpec)

/-- ITS FALSE NEIGHBOUR: 'it returns false'. Refute it at one input. -/
def journalDamageWrong : ChangeSpec := { name := "journalDamage", fn := fun _ => fun
  | [d1, d2, d3] => { results := [.lit (.bool false)], args := [d1, d2, d3] }
  | _ => none }
def JournalDamageWrongFalsely : Prop := journalDamageRow.holds Try.pinned (OpenSpec.ofChange journalDamageWrong)

/-- 'baggagelaw37.JournalBursts': WHATEVER THE INPUT: true; the input reads as it did. -/
def journalBurstsSpec : ChangeSpec := { name := "journalBursts", fn := fun _ => fun
  | [d1, d2, d3] => { results := [.lit (.bool true)], args := [d1, d2, d3] }
  | _ => none }
def journalBurstsRow : OpenClaim := { program := "ytnedeajebhbjbaa", sum := "2ebe2a3f44dd2c46f39f3de39215d9c4a1a76c77b2bfb0546788b02568e1009a", func := "baggage/baggagelaw37.JournalBursts", spec := "journalBursts", apart := false }
def JournalBurstsSaid : Prop := journalBurstsRow.holds Try.pinned (OpenSpec.ofChange journalBurstsSpec)

/-- ITS FALSE NEIGHBOUR: 'it returns false'. Refute it at one input. -/
def journalBurstsWrong : ChangeSpec := { name := "journalBursts", fn := fun _ => fun
  | [d1, d2, d3] => { results := [.lit (.bool false)], args := [d1, d2, d3] }
  | _ => none }
def JournalBurstsWrongFalsely : Prop := journalBurstsRow.holds Try.pinned (OpenSpec.ofChange journalBurstsWrong)

/-- 'baggagelaw37.JournalPlaces': WHATEVER THE INPUT: true; the input reads as it did. -/
def journalPlacesSpec : ChangeSpec := { name := "journalPlaces", fn := fun _ => fun
  | [d1, d2, d3] => { results := [.lit (.bool true)], args := [d1, d2, d3] }
  | _ => none }
def journalPlacesRow : OpenClaim := { program := "ytnedeajebhbjbaa", sum := "2ebe2a3f44dd2c46f39f3de39215d9c4a1a76c77b2bfb0546788b02568e1009a", func := "baggage/baggagelaw37.JournalPlaces", spec := "journalPlaces", apart := false }
def JournalPlacesSaid : Prop := journalPlacesRow.holds Try.pinned (OpenSpec.ofChange journalPlacesSpec)

/-- ITS FALSE NEIGHBOUR: 'it returns false'. Refute it at one input. -/
def journalPlacesWrong : ChangeSpec := { name := "journalPlaces", fn := fun _ => fun
  | [d1, d2, d3] => { results := [.lit (.bool false)], args := [d1, d2, d3] }
  | _ => none }
def JournalPlacesWrongFalsely : Prop := journalPlacesRow.holds Try.pinned (OpenSpec.ofChange journalPlacesWrong)

/-- 'baggagelaw37.JournalReads': WHATEVER THE INPUT: true; the input reads as it did. -/
def journalReadsSpec : ChangeSpec := { name := "journalReads", fn := fun _ => fun
  | [d1, d2, d3] => { results := [.lit (.bool true)], args := [d1, d2, d3] }
  | _ => none }
def journalReadsRow : OpenClaim := { program := "ytnedeajebhbjbaa", sum := "2ebe2a3f44dd2c46f39f3de39215d9c4a1a76c77b2bfb0546788b02568e1009a", func := "baggage/baggagelaw37.JournalReads", spec := "journalReads", apart := false }
def JournalReadsSaid : Prop := journalReadsRow.holds Try.pinned (OpenSpec.ofChange journalReadsSpec)

/-- ITS FALSE NEIGHBOUR: 'it returns false'. Refute it at one input. -/
def journalReadsWrong : ChangeSpec := { name := "journalReads", fn := fun _ => fun
  | [d1, d2, d3] => { results := [.lit (.bool false)], args := [d1, d2, d3] }
  | _ => none }
def JournalReadsWrongFalsely : Prop := journalReadsRow.holds Try.pinned (OpenSpec.ofChange journalReadsWrong)

/-- 'baggagelaw37.JournalBack': WHATEVER THE INPUT: true; the input reads as it did. -/
def journalBackSpec : ChangeSpec := { name := "journalBack", fn := fun _ => fun
  | [d1, d2] => { results := [.lit (.bool true)], args := [d1, d2] }
  | _ => none }
def journalBackRow : OpenClaim := { program := "ytnedeajebhbjbaa", sum := "2ebe2a3f44dd2c46f39f3de39215d9c4a1a76c77b2bfb0546788b02568e1009a", func := "baggage/baggagelaw37.JournalBack", spec := "journalBack", apart := false }
def JournalBackSaid : Prop := journalBackRow.holds Try.pinned (OpenSpec.ofChange journalBackSpec)

/-- ITS FALSE NEIGHBOUR: 'it returns false'. Refute it at one input. -/
def journalBackWrong : ChangeSpec := { name := "journalBack", fn := fun _ => fun
  | [d1, d2] => { results := [.lit (.bool false)], args := [d1, d2] }
  | _ => none }
def JournalBackWrongFalsely : Prop := journalBackRow.holds Try.pinned (OpenSpec.ofChange journalBackWrong)

/-- 'baggagelaw37.JournalTorn': WHATEVER THE INPUT: true; the input reads as it did. -/
def journalTornSpec : ChangeSpec := { name := "journalTorn", fn := fun _ => fun
  | [d1, d2] => { results := [.lit (.bool true)], args := [d1, d2] }
  | _ => none }
def journalTornRow : OpenClaim := { program := "ytnedeajebhbjbaa", sum := "2ebe2a3f44dd2c46f39f3de39215d9c4a1a76c77b2bfb0546788b02568e1009a", func := "baggage/baggagelaw37.JournalTorn", spec := "journalTorn", apart := false }
def JournalTornSaid : Prop := journalTornRow.holds Try.pinned (OpenSpec.ofChange journalTornSpec)

/-- ITS FALSE NEIGHBOUR: 'it returns false'. Refute it at one input. -/
def journalTornWrong : ChangeSpec := { name := "journalTorn", fn := fun _ => fun
  | [d1, d2] => { results := [.lit (.bool false)], args := [d1, d2] }
  | _ => none }
def JournalTornWrongFalsely : Prop := journalTornRow.holds Try.pinned (OpenSpec.ofChange journalTornWrong)

/- THE SECOND FORM. 'bulk': how many values and letters a reading holds, each counted each time it is reached (what is shared counts as often as it is met; a slice's spare places count too). A statement '..UptoSaid' is the law's where the arguments, and the package variables that the reading takes, are together of bulk at most 1048576: NARROWER than '..Said'. Prove '..Said' where nothing that the law and all that it calls make is longer than what came in: it says more and counts as full. Else prove '..UptoSaid'. A law counts once. -/
mutual
def uptoBulk {H : Type} : DataW H → Nat
  | .lit (.string bytes) => bytes.length + 1
  | .lit _ => 1
  | .nil => 1
  | .ptr d => uptoBulk d + 1
  | .slice elems spare => uptoBulkAll elems + uptoBulkAll spare + 1
  | .agg parts => uptoBulkAll parts + 1
  | .iface _ d => uptoBulk d + 1
  | .map entries => uptoBulkEntries entries + 1
  | .held _ => 1
def uptoBulkAll {H : Type} : List (DataW H) → Nat
  | [] => 0
  | d :: r => uptoBulk d + uptoBulkAll r
def uptoBulkEntries {H : Type} : List (Lit × DataW H) → Nat
  | [] => 0
  | x :: r => uptoBulkEntry x + uptoBulkEntries r
def uptoBulkEntry {H : Type} : Lit × DataW H → Nat
  | (.string bytes, d) => bytes.length + uptoBulk d + 1
  | (_, d) => uptoBulk d + 1
 end
def uptoSmall : (H : Type) → List (DataW H) → Bool := fun _ ds => decide (uptoBulkAll ds ≤ 1048576)
def OpenSpec.upto (s : _root_.Go.ChangeSpec) : _root_.Go.OpenSpec := { _root_.Go.OpenSpec.ofChange s with cond := some uptoSmall }

/-- 'baggagelaw37.JournalChecks', WHERE WHAT IT READS IS OF BULK AT MOST 1048576: true; the input reads as it did. -/
def journalChecksUptoRow : OpenClaim := { program := "ytnedeajebhbjbaa", sum := "2ebe2a3f44dd2c46f39f3de39215d9c4a1a76c77b2bfb0546788b02568e1009a", func := "baggage/baggagelaw37.JournalChecks", spec := "journalChecks", apart := false, narrowed := true }
def JournalChecksUptoSaid : Prop := journalChecksUptoRow.holds Try.pinned (OpenSpec.upto journalChecksSpec)

/-- 'baggagelaw37.JournalDamage', WHERE WHAT IT READS IS OF BULK AT MOST 1048576: true; the input reads as it did. -/
def journalDamageUptoRow : OpenClaim := { program := "ytnedeajebhbjbaa", sum := "2ebe2a3f44dd2c46f39f3de39215d9c4a1a76c77b2bfb0546788b02568e1009a", func := "baggage/baggagelaw37.JournalDamage", spec := "journalDamage", apart := false, narrowed := true }
def JournalDamageUptoSaid : Prop := journalDamageUptoRow.holds Try.pinned (OpenSpec.upto journalDamageSpec)

/-- 'baggagelaw37.JournalBursts', WHERE WHAT IT READS IS OF BULK AT MOST 1048576: true; the input reads as it did. -/
def journalBurstsUptoRow : OpenClaim := { program := "ytnedeajebhbjbaa", sum := "2ebe2a3f44dd2c46f39f3de39215d9c4a1a76c77b2bfb0546788b02568e1009a", func := "baggage/baggagelaw37.JournalBursts", spec := "journalBursts", apart := false, narrowed := true }
def JournalBurstsUptoSaid : Prop := journalBurstsUptoRow.holds Try.pinned (OpenSpec.upto journalBurstsSpec)

/-- 'baggagelaw37.JournalPlaces', WHERE WHAT IT READS IS OF BULK AT MOST 1048576: true; the input reads as it did. -/
def journalPlacesUptoRow : OpenClaim := { program := "ytnedeajebhbjbaa", sum := "2ebe2a3f44dd2c46f39f3de39215d9c4a1a76c77b2bfb0546788b02568e1009a", func := "baggage/baggagelaw37.JournalPlaces", spec := "journalPlaces", apart := false, narrowed := true }
def JournalPlacesUptoSaid : Prop := journalPlacesUptoRow.holds Try.pinned (OpenSpec.upto journalPlacesSpec)

/-- 'baggagelaw37.JournalReads', WHERE WHAT IT READS IS OF BULK AT MOST 1048576: true; the input reads as it did. -/
def journalReadsUptoRow : OpenClaim := { program := "ytnedeajebhbjbaa", sum := "2ebe2a3f44dd2c46f39f3de39215d9c4a1a76c77b2bfb0546788b02568e1009a", func := "baggage/baggagelaw37.JournalReads", spec := "journalReads", apart := false, narrowed := true }
def JournalReadsUptoSaid : Prop := journalReadsUptoRow.holds Try.pinned (OpenSpec.upto journalReadsSpec)

/-- 'baggagelaw37.JournalBack', WHERE WHAT IT READS IS OF BULK AT MOST 1048576: true; the input reads as it did. -/
def journalBackUptoRow : OpenClaim := { program := "ytnedeajebhbjbaa", sum := "2ebe2a3f44dd2c46f39f3de39215d9c4a1a76c77b2bfb0546788b02568e1009a", func := "baggage/baggagelaw37.JournalBack", spec := "journalBack", apart := false, narrowed := true }
def JournalBackUptoSaid : Prop := journalBackUptoRow.holds Try.pinned (OpenSpec.upto journalBackSpec)

/-- 'baggagelaw37.JournalTorn', WHERE WHAT IT READS IS OF BULK AT MOST 1048576: true; the input reads as it did. -/
def journalTornUptoRow : OpenClaim := { program := "ytnedeajebhbjbaa", sum := "2ebe2a3f44dd2c46f39f3de39215d9c4a1a76c77b2bfb0546788b02568e1009a", func := "baggage/baggagelaw37.JournalTorn", spec := "journalTorn", apart := false, narrowed := true }
def JournalTornUptoSaid : Prop := journalTornUptoRow.holds Try.pinned (OpenSpec.upto journalTornSpec)

end Rows
end Go.Proofs.Ytnedeajebhbjbaa
