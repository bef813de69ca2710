/-
  No cell of these rows narrows 'for every input' (looked for: loops, veiled, ifaces, maps, wideKeys, modest, calm, conditions, laid).
  DERIVED. THE GIVEN ROWS OF THIS SEAT. 7 by the template 'for every input the law returns true; each argument reads behind the call as it read before'; 0 by the template 'total and deterministic' (their statements: YtjgbbffcjbmjmaaTotals.lean).
  GIVEN WITH THE SEED: the statements are not yours to turn. If you find one false, say at which input.
  Laid BY PROGRAM, IN A SANDBOX (cutbox-rows.mjs): the forced cells as the released guide's own fill.sh prints them over the translation c10746dd25592a99… (all of the seat's roots in one cut). By AI agents, Wed Nov 11 2026. No macro, syntax, notation, axiom, sorry.
-/
import Derived.Test.YtjgbbffcjbmjmaaChecked
import GoSem.Claim
import GoSem.ClaimJoined
import GoSem.ClaimMapViews
import Derived.JoinedTies
import Derived.KernelRfl
namespace Go.Proofs.Ytjgbbffcjbmjmaa
/- THE CELL 'sum', in the pinned program and in every row, IS THE sha256 OF THE DUMP (.gsa) THAT YtjgbbffcjbmjmaaProg.lean LOADS. Nothing in Lean hashes anything: it is a label: what it is worth is what the hold of that sum in a sandbox is worth. -/
noncomputable def Try.pinned : Pinned := { name := "ytjgbbffcjbmjmaa", sum := "c10746dd25592a994d06dcf391c55f3552aacace9a2dc8b9a0ccea2d4d11fdd6", checked := Try.checked }
namespace Rows
def none {H : Type} : Left H := { results := [], args := [] }

/-- 'baggagelaw33.DescribeScores': WHATEVER THE INPUT: true; the input reads as it did. -/
def describeScoresSpec : ChangeSpec := { name := "describeScores", fn := fun _ => fun
  | [d1, d2] => { results := [.lit (.bool true)], args := [d1, d2] }
  | _ => none }
def describeScoresRow : OpenClaim := { program := "ytjgbbffcjbmjmaa", sum := "c10746dd25592a994d06dcf391c55f3552aacace9a2dc8b9a0ccea2d4d11fdd6", func := "baggage/baggagelaw33.DescribeScores", spec := "describeScores", unfollowed := true, recurses := true, apart := false }
def DescribeScoresSaid : Prop := describeScoresRow.holds Try.pinned (OpenSpec.ofChange describeScoresSpec)

/-- ITS FALSE NEIGHBOUR: 'it returns false'. Refute it at one input. -/
def describeScoresWrong : ChangeSpec := { name := "describeScores", fn := fun _ => fun
  | [d1, d2] => { results := [.lit (.bool false)], args := [d1, d2] }
  | _ => none }
def DescribeScoresWrongFalsely : Prop := describeScoresRow.holds Try.pinned (OpenSpec.ofChange describeScoresWrong)

/-- 'baggagelaw33.DescribeSymmetric': WHATEVER THE INPUT: true; the input reads as it did. -/
def describeSymmetricSpec : ChangeSpec := { name := "describeSymmetric", fn := fun _ => fun
  | [d1, d2] => { results := [.lit (.bool true)], args := [d1, d2] }
  | _ => none }
def describeSymmetricRow : OpenClaim := { program := "ytjgbbffcjbmjmaa", sum := "c10746dd25592a994d06dcf391c55f3552aacace9a2dc8b9a0ccea2d4d11fdd6", func := "baggage/baggagelaw33.DescribeSymmetric", spec := "describeSymmetric", unfollowed := true, recurses := true, apart := false }
def DescribeSymmetricSaid : Prop := describeSymmetricRow.holds Try.pinned (OpenSpec.ofChange describeSymmetricSpec)

/-- ITS FALSE NEIGHBOUR: 'it returns false'. Refute it at one input. -/
def describeSymmetricWrong : ChangeSpec := { name := "describeSymmetric", fn := fun _ => fun
  | [d1, d2] => { results := [.lit (.bool false)], args := [d1, d2] }
  | _ => none }
def DescribeSymmetricWrongFalsely : Prop := describeSymmetricRow.holds Try.pinned (OpenSpec.ofChange describeSymmetricWrong)

/-- 'baggagelaw33.DescribeMatches': WHATEVER THE INPUT: true; the input reads as it did. -/
def describeMatchesSpec : ChangeSpec := { name := "describeMatches", fn := fun _ => fun
  | [d1, d2, d3] => { results := [.lit (.bool true)], args := [d1, d2, d3] }
  | _ => none }
def describeMatchesRow : OpenClaim := { program := "ytjgbbffcjbmjmaa", sum := "c10746dd25592a994d06dcf391c55f3552aacace9a2dc8b9a0ccea2d4d11fdd6", func := "baggage/baggagelaw33.DescribeMatches", spec := "describeMatches", unfollowed := true, recurses := true, apart := false }
def DescribeMatchesSaid : Prop := describeMatchesRow.holds Try.pinned (OpenSpec.ofChange describeMatchesSpec)

/-- ITS FALSE NEIGHBOUR: 'it returns false'. Refute it at one input. -/
def describeMatchesWrong : ChangeSpec := { name := "describeMatches", fn := fun _ => fun
  | [d1, d2, d3] => { results := [.lit (.bool false)], args := [d1, d2, d3] }
  | _ => none }
def DescribeMatchesWrongFalsely : Prop := describeMatchesRow.holds Try.pinned (OpenSpec.ofChange describeMatchesWrong)

/-- 'baggagelaw33.DescribeBest': WHATEVER THE INPUT: true; the input reads as it did. -/
def describeBestSpec : ChangeSpec := { name := "describeBest", fn := fun _ => fun
  | [d] => { results := [.lit (.bool true)], args := [d] }
  | _ => none }
def describeBestRow : OpenClaim := { program := "ytjgbbffcjbmjmaa", sum := "c10746dd25592a994d06dcf391c55f3552aacace9a2dc8b9a0ccea2d4d11fdd6", func := "baggage/baggagelaw33.DescribeBest", spec := "describeBest", unfollowed := true, recurses := true, apart := false }
def DescribeBestSaid : Prop := describeBestRow.holds Try.pinned (OpenSpec.ofChange describeBestSpec)

/-- ITS FALSE NEIGHBOUR: 'it returns false'. Refute it at one input. -/
def describeBestWrong : ChangeSpec := { name := "describeBest", fn := fun _ => fun
  | [d] => { results := [.lit (.bool false)], args := [d] }
  | _ => none }
def DescribeBestWrongFalsely : Prop := describeBestRow.holds Try.pinned (OpenSpec.ofChange describeBestWrong)

/-- 'baggagelaw33.DescribeProves': WHATEVER THE INPUT: true; the input reads as it did. -/
def describeProvesSpec : ChangeSpec := { name := "describeProves", fn := fun _ => fun
  | [d1, d2] => { results := [.lit (.bool true)], args := [d1, d2] }
  | _ => none }
def describeProvesRow : OpenClaim := { program := "ytjgbbffcjbmjmaa", sum := "c10746dd25592a994d06dcf391c55f3552aacace9a2dc8b9a0ccea2d4d11fdd6", func := "baggage/baggagelaw33.DescribeProves", spec := "describeProves", unfollowed := true, recurses := true, apart := false }
def DescribeProvesSaid : Prop := describeProvesRow.holds Try.pinned (OpenSpec.ofChange describeProvesSpec)

/-- ITS FALSE NEIGHBOUR: 'it returns false'. Refute it at one input. -/
def describeProvesWrong : ChangeSpec := { name := "describeProves", fn := fun _ => fun
  | [d1, d2] => { results := [.lit (.bool false)], args := [d1, d2] }
  | _ => none }
def DescribeProvesWrongFalsely : Prop := describeProvesRow.holds Try.pinned (OpenSpec.ofChange describeProvesWrong)

/-- 'baggagelaw33.DescribeGrows': WHATEVER THE INPUT: true; the input reads as it did. -/
def describeGrowsSpec : ChangeSpec := { name := "describeGrows", fn := fun _ => fun
  | [d] => { results := [.lit (.bool true)], args := [d] }
  | _ => none }
def describeGrowsRow : OpenClaim := { program := "ytjgbbffcjbmjmaa", sum := "c10746dd25592a994d06dcf391c55f3552aacace9a2dc8b9a0ccea2d4d11fdd6", func := "baggage/baggagelaw33.DescribeGrows", spec := "describeGrows", unfollowed := true, recurses := true, apart := false }
def DescribeGrowsSaid : Prop := describeGrowsRow.holds Try.pinned (OpenSpec.ofChange describeGrowsSpec)

/-- ITS FALSE NEIGHBOUR: 'it returns false'. Refute it at one input. -/
def describeGrowsWrong : ChangeSpec := { name := "describeGrows", fn := fun _ => fun
  | [d] => { results := [.lit (.bool false)], args := [d] }
  | _ => none }
def DescribeGrowsWrongFalsely : Prop := describeGrowsRow.holds Try.pinned (OpenSpec.ofChange describeGrowsWrong)

/-- 'baggagelaw33.DescribeChecks': WHATEVER THE INPUT: true; the input reads as it did. -/
def describeChecksSpec : ChangeSpec := { name := "describeChecks", fn := fun _ => fun
  | [d1, d2, d3] => { results := [.lit (.bool true)], args := [d1, d2, d3] }
  | _ => none }
def describeChecksRow : OpenClaim := { program := "ytjgbbffcjbmjmaa", sum := "c10746dd25592a994d06dcf391c55f3552aacace9a2dc8b9a0ccea2d4d11fdd6", func := "baggage/baggagelaw33.DescribeChecks", spec := "describeChecks", unfollowed := true, recurses := true, apart := false }
def DescribeChecksSaid : Prop := describeChecksRow.holds Try.pinned (OpenSpec.ofChange describeChecksSpec)

/-- ITS FALSE NEIGHBOUR: 'it returns false'. Refute it at one input. -/
def describeChecksWrong : ChangeSpec := { name := "describeChecks", fn := fun _ => fun
  | [d1, d2, d3] => { results := [.lit (.bool false)], args := [d1, d2, d3] }
  | _ => none }
def DescribeChecksWrongFalsely : Prop := describeChecksRow.holds Try.pinned (OpenSpec.ofChange describeChecksWrong)

/- THE SECOND FORM. 'bulk': how many values and letters a reading holds, each counted each time it is reached (what is shared counts as often as it is met; a slice's spare places count too). A statement '..UptoSaid' is the law's where the arguments, and the package variables that the reading takes, are together of bulk at most 1048576: NARROWER than '..Said'. Prove '..Said' where nothing that the law and all that it calls make is longer than what came in: it says more and counts as full. Else prove '..UptoSaid'. A law counts once. -/
mutual
def uptoBulk {H : Type} : DataW H → Nat
  | .lit (.string bytes) => bytes.length + 1
  | .lit _ => 1
  | .nil => 1
  | .ptr d => uptoBulk d + 1
  | .slice elems spare => uptoBulkAll elems + uptoBulkAll spare + 1
  | .agg parts => uptoBulkAll parts + 1
  | .iface _ d => uptoBulk d + 1
  | .map entries => uptoBulkEntries entries + 1
  | .held _ => 1
def uptoBulkAll {H : Type} : List (DataW H) → Nat
  | [] => 0
  | d :: r => uptoBulk d + uptoBulkAll r
def uptoBulkEntries {H : Type} : List (Lit × DataW H) → Nat
  | [] => 0
  | x :: r => uptoBulkEntry x + uptoBulkEntries r
def uptoBulkEntry {H : Type} : Lit × DataW H → Nat
  | (.string bytes, d) => bytes.length + uptoBulk d + 1
  | (_, d) => uptoBulk d + 1
 end
def uptoSmall : (H : Type) → List (DataW H) → Bool := fun _ ds => decide (uptoBulkAll ds ≤ 1048576)
def OpenSpec.upto (s : _root_.Go.ChangeSpec) : _root_.Go.OpenSpec := { _root_.Go.OpenSpec.ofChange s with cond := some uptoSmall }

/-- 'baggagelaw33.DescribeScores', WHERE WHAT IT READS IS OF BULK AT MOST 1048576: true; the input reads as it did. -/
def describeScoresUptoRow : OpenClaim := { program := "ytjgbbffcjbmjmaa", sum := "c10746dd25592a994d06dcf391c55f3552aacace9a2dc8b9a0ccea2d4d11fdd6", func := "baggage/baggagelaw33.DescribeScores", spec := "describeScores", unfollowed := true, recurses := true, apart := false, narrowed := true }
def DescribeScoresUptoSaid : Prop := describeScoresUptoRow.holds Try.pinned (OpenSpec.upto describeScoresSpec)

/-- 'baggagelaw33.DescribeSymmetric', WHERE WHAT IT READS IS OF BULK AT MOST 1048576: true; the input reads as it did. -/
def describeSymmetricUptoRow : OpenClaim := { program := "ytjgbbffcjbmjmaa", sum := "c10746dd25592a994d06dcf391c55f3552aacace9a2dc8b9a0ccea2d4d11fdd6", func := "baggage/baggagelaw33.DescribeSymmetric", spec := "describeSymmetric", unfollowed := true, recurses := true, apart := false, narrowed := true }
def DescribeSymmetricUptoSaid : Prop := describeSymmetricUptoRow.holds Try.pinned (OpenSpec.upto describeSymmetricSpec)

/-- 'baggagelaw33.DescribeMatches', WHERE WHAT IT READS IS OF BULK AT MOST 1048576: true; the input reads as it did. -/
def describeMatchesUptoRow : OpenClaim := { program := "ytjgbbffcjbmjmaa", sum := "c10746dd25592a994d06dcf391c55f3552aacace9a2dc8b9a0ccea2d4d11fdd6", func := "baggage/baggagelaw33.DescribeMatches", spec := "describeMatches", unfollowed := true, recurses := true, apart := false, narrowed := true }
def DescribeMatchesUptoSaid : Prop := describeMatchesUptoRow.holds Try.pinned (OpenSpec.upto describeMatchesSpec)

/-- 'baggagelaw33.DescribeBest', WHERE WHAT IT READS IS OF BULK AT MOST 1048576: true; the input reads as it did. -/
def describeBestUptoRow : OpenClaim := { program := "ytjgbbffcjbmjmaa", sum := "c10746dd25592a994d06dcf391c55f3552aacace9a2dc8b9a0ccea2d4d11fdd6", func := "baggage/baggagelaw33.DescribeBest", spec := "describeBest", unfollowed := true, recurses := true, apart := false, narrowed := true }
def DescribeBestUptoSaid : Prop := describeBestUptoRow.holds Try.pinned (OpenSpec.upto describeBestSpec)

/-- 'baggagelaw33.DescribeProves', WHERE WHAT IT READS IS OF BULK AT MOST 1048576: true; the input reads as it did. -/
def describeProvesUptoRow : OpenClaim := { program := "ytjgbbffcjbmjmaa", sum := "c10746dd25592a994d06dcf391c55f3552aacace9a2dc8b9a0ccea2d4d11fdd6", func := "baggage/baggagelaw33.DescribeProves", spec := "describeProves", unfollowed := true, recurses := true, apart := false, narrowed := true }
def DescribeProvesUptoSaid : Prop := describeProvesUptoRow.holds Try.pinned (OpenSpec.upto describeProvesSpec)

/-- 'baggagelaw33.DescribeGrows', WHERE WHAT IT READS IS OF BULK AT MOST 1048576: true; the input reads as it did. -/
def describeGrowsUptoRow : OpenClaim := { program := "ytjgbbffcjbmjmaa", sum := "c10746dd25592a994d06dcf391c55f3552aacace9a2dc8b9a0ccea2d4d11fdd6", func := "baggage/baggagelaw33.DescribeGrows", spec := "describeGrows", unfollowed := true, recurses := true, apart := false, narrowed := true }
def DescribeGrowsUptoSaid : Prop := describeGrowsUptoRow.holds Try.pinned (OpenSpec.upto describeGrowsSpec)

/-- 'baggagelaw33.DescribeChecks', WHERE WHAT IT READS IS OF BULK AT MOST 1048576: true; the input reads as it did. -/
def describeChecksUptoRow : OpenClaim := { program := "ytjgbbffcjbmjmaa", sum := "c10746dd25592a994d06dcf391c55f3552aacace9a2dc8b9a0ccea2d4d11fdd6", func := "baggage/baggagelaw33.DescribeChecks", spec := "describeChecks", unfollowed := true, recurses := true, apart := false, narrowed := true }
def DescribeChecksUptoSaid : Prop := describeChecksUptoRow.holds Try.pinned (OpenSpec.upto describeChecksSpec)

end Rows
end Go.Proofs.Ytjgbbffcjbmjmaa
