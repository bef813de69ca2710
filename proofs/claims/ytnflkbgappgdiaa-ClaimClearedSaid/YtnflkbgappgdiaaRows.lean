/-
  No cell of these rows narrows 'for every input' (looked for: loops, veiled, ifaces, maps, wideKeys, modest, calm, conditions, laid).
  DERIVED. THE GIVEN ROWS OF THIS SEAT. 6 by the template 'for every input the law returns true; each argument reads behind the call as it read before'; 0 by the template 'total and deterministic' (their statements: YtnflkbgappgdiaaTotals.lean).
  GIVEN WITH THE SEED: the statements are not yours to turn. If you find one false, say at which input.
  Laid BY PROGRAM, IN A SANDBOX (cutbox-rows.mjs): the forced cells as the released guide's own fill.sh prints them over the translation cf9cd336550b2245… (all of the seat's roots in one cut). By AI agents, Wed Nov 11 2026. No macro, syntax, notation, axiom, sorry.
-/
import Derived.Test.YtnflkbgappgdiaaChecked
import GoSem.Claim
import GoSem.ClaimJoined
import GoSem.ClaimMapViews
import Derived.JoinedTies
import Derived.KernelRfl
namespace Go.Proofs.Ytnflkbgappgdiaa
/- THE CELL 'sum', in the pinned program and in every row, IS THE sha256 OF THE DUMP (.gsa) THAT YtnflkbgappgdiaaProg.lean LOADS. Nothing in Lean hashes anything: it is a label: what it is worth is what the hold of that sum in a sandbox is worth. -/
noncomputable def Try.pinned : Pinned := { name := "ytnflkbgappgdiaa", sum := "cf9cd336550b2245e88d1b5691956b40a92d814a4dadda540c78233ed4e2bdcd", checked := Try.checked }
namespace Rows
def none {H : Type} : Left H := { results := [], args := [] }

/-- 'baggagelaw35.ClaimShares': WHATEVER THE INPUT: true; the input reads as it did. -/
def claimSharesSpec : ChangeSpec := { name := "claimShares", fn := fun _ => fun
  | [d1, d2, d3] => { results := [.lit (.bool true)], args := [d1, d2, d3] }
  | _ => none }
def claimSharesRow : OpenClaim := { program := "ytnflkbgappgdiaa", sum := "cf9cd336550b2245e88d1b5691956b40a92d814a4dadda540c78233ed4e2bdcd", func := "baggage/baggagelaw35.ClaimShares", spec := "claimShares", inPlace := ["internal/reflectlite.ValueOf", "internal/reflectlite.Swapper", "(internal/reflectlite.Value).Len"], unfollowed := true, recurses := true, apart := false }
def ClaimSharesSaid : Prop := claimSharesRow.holds Try.pinned (OpenSpec.ofChange claimSharesSpec)

/-- ITS FALSE NEIGHBOUR: 'it returns false'. Refute it at one input. -/
def claimSharesWrong : ChangeSpec := { name := "claimShares", fn := fun _ => fun
  | [d1, d2, d3] => { results := [.lit (.bool false)], args := [d1, d2, d3] }
  | _ => none }
def ClaimSharesWrongFalsely : Prop := claimSharesRow.holds Try.pinned (OpenSpec.ofChange claimSharesWrong)

/-- 'baggagelaw35.ClaimExact': WHATEVER THE INPUT: true; the input reads as it did. -/
def claimExactSpec : ChangeSpec := { name := "claimExact", fn := fun _ => fun
  | [d1, d2] => { results := [.lit (.bool true)], args := [d1, d2] }
  | _ => none }
def claimExactRow : OpenClaim := { program := "ytnflkbgappgdiaa", sum := "cf9cd336550b2245e88d1b5691956b40a92d814a4dadda540c78233ed4e2bdcd", func := "baggage/baggagelaw35.ClaimExact", spec := "claimExact", inPlace := ["internal/reflectlite.ValueOf", "internal/reflectlite.Swapper", "(internal/reflectlite.Value).Len"], unfollowed := true, recurses := true, apart := false }
def ClaimExactSaid : Prop := claimExactRow.holds Try.pinned (OpenSpec.ofChange claimExactSpec)

/-- ITS FALSE NEIGHBOUR: 'it returns false'. Refute it at one input. -/
def claimExactWrong : ChangeSpec := { name := "claimExact", fn := fun _ => fun
  | [d1, d2] => { results := [.lit (.bool false)], args := [d1, d2] }
  | _ => none }
def ClaimExactWrongFalsely : Prop := claimExactRow.holds Try.pinned (OpenSpec.ofChange claimExactWrong)

/-- 'baggagelaw35.ClaimOrder': WHATEVER THE INPUT: true; the input reads as it did. -/
def claimOrderSpec : ChangeSpec := { name := "claimOrder", fn := fun _ => fun
  | [d1, d2, d3] => { results := [.lit (.bool true)], args := [d1, d2, d3] }
  | _ => none }
def claimOrderRow : OpenClaim := { program := "ytnflkbgappgdiaa", sum := "cf9cd336550b2245e88d1b5691956b40a92d814a4dadda540c78233ed4e2bdcd", func := "baggage/baggagelaw35.ClaimOrder", spec := "claimOrder", inPlace := ["internal/reflectlite.ValueOf", "internal/reflectlite.Swapper", "(internal/reflectlite.Value).Len"], unfollowed := true, recurses := true, apart := false }
def ClaimOrderSaid : Prop := claimOrderRow.holds Try.pinned (OpenSpec.ofChange claimOrderSpec)

/-- ITS FALSE NEIGHBOUR: 'it returns false'. Refute it at one input. -/
def claimOrderWrong : ChangeSpec := { name := "claimOrder", fn := fun _ => fun
  | [d1, d2, d3] => { results := [.lit (.bool false)], args := [d1, d2, d3] }
  | _ => none }
def ClaimOrderWrongFalsely : Prop := claimOrderRow.holds Try.pinned (OpenSpec.ofChange claimOrderWrong)

/-- 'baggagelaw35.ClaimSettles': WHATEVER THE INPUT: true; the input reads as it did. -/
def claimSettlesSpec : ChangeSpec := { name := "claimSettles", fn := fun _ => fun
  | [d] => { results := [.lit (.bool true)], args := [d] }
  | _ => none }
def claimSettlesRow : OpenClaim := { program := "ytnflkbgappgdiaa", sum := "cf9cd336550b2245e88d1b5691956b40a92d814a4dadda540c78233ed4e2bdcd", func := "baggage/baggagelaw35.ClaimSettles", spec := "claimSettles", inPlace := ["internal/reflectlite.ValueOf", "internal/reflectlite.Swapper", "(internal/reflectlite.Value).Len"], unfollowed := true, recurses := true, apart := false }
def ClaimSettlesSaid : Prop := claimSettlesRow.holds Try.pinned (OpenSpec.ofChange claimSettlesSpec)

/-- ITS FALSE NEIGHBOUR: 'it returns false'. Refute it at one input. -/
def claimSettlesWrong : ChangeSpec := { name := "claimSettles", fn := fun _ => fun
  | [d] => { results := [.lit (.bool false)], args := [d] }
  | _ => none }
def ClaimSettlesWrongFalsely : Prop := claimSettlesRow.holds Try.pinned (OpenSpec.ofChange claimSettlesWrong)

/-- 'baggagelaw35.ClaimBalances': WHATEVER THE INPUT: true; the input reads as it did. -/
def claimBalancesSpec : ChangeSpec := { name := "claimBalances", fn := fun _ => fun
  | [d1, d2, d3, d4] => { results := [.lit (.bool true)], args := [d1, d2, d3, d4] }
  | _ => none }
def claimBalancesRow : OpenClaim := { program := "ytnflkbgappgdiaa", sum := "cf9cd336550b2245e88d1b5691956b40a92d814a4dadda540c78233ed4e2bdcd", func := "baggage/baggagelaw35.ClaimBalances", spec := "claimBalances", inPlace := ["internal/reflectlite.ValueOf", "internal/reflectlite.Swapper", "(internal/reflectlite.Value).Len"], unfollowed := true, recurses := true, apart := false }
def ClaimBalancesSaid : Prop := claimBalancesRow.holds Try.pinned (OpenSpec.ofChange claimBalancesSpec)

/-- ITS FALSE NEIGHBOUR: 'it returns false'. Refute it at one input. -/
def claimBalancesWrong : ChangeSpec := { name := "claimBalances", fn := fun _ => fun
  | [d1, d2, d3, d4] => { results := [.lit (.bool false)], args := [d1, d2, d3, d4] }
  | _ => none }
def ClaimBalancesWrongFalsely : Prop := claimBalancesRow.holds Try.pinned (OpenSpec.ofChange claimBalancesWrong)

/-- 'baggagelaw35.ClaimCleared': WHATEVER THE INPUT: true; the input reads as it did. -/
def claimClearedSpec : ChangeSpec := { name := "claimCleared", fn := fun _ => fun
  | [d] => { results := [.lit (.bool true)], args := [d] }
  | _ => none }
def claimClearedRow : OpenClaim := { program := "ytnflkbgappgdiaa", sum := "cf9cd336550b2245e88d1b5691956b40a92d814a4dadda540c78233ed4e2bdcd", func := "baggage/baggagelaw35.ClaimCleared", spec := "claimCleared", inPlace := ["internal/reflectlite.ValueOf", "internal/reflectlite.Swapper", "(internal/reflectlite.Value).Len"], unfollowed := true, recurses := true, apart := false }
def ClaimClearedSaid : Prop := claimClearedRow.holds Try.pinned (OpenSpec.ofChange claimClearedSpec)

/-- ITS FALSE NEIGHBOUR: 'it returns false'. Refute it at one input. -/
def claimClearedWrong : ChangeSpec := { name := "claimCleared", fn := fun _ => fun
  | [d] => { results := [.lit (.bool false)], args := [d] }
  | _ => none }
def ClaimClearedWrongFalsely : Prop := claimClearedRow.holds Try.pinned (OpenSpec.ofChange claimClearedWrong)

/- THE SECOND FORM. 'bulk': how many values and letters a reading holds, each counted each time it is reached (what is shared counts as often as it is met; a slice's spare places count too). A statement '..UptoSaid' is the law's where the arguments, and the package variables that the reading takes, are together of bulk at most 1048576: NARROWER than '..Said'. Prove '..Said' where nothing that the law and all that it calls make is longer than what came in: it says more and counts as full. Else prove '..UptoSaid'. A law counts once. -/
mutual
def uptoBulk {H : Type} : DataW H → Nat
  | .lit (.string bytes) => bytes.length + 1
  | .lit _ => 1
  | .nil => 1
  | .ptr d => uptoBulk d + 1
  | .slice elems spare => uptoBulkAll elems + uptoBulkAll spare + 1
  | .agg parts => uptoBulkAll parts + 1
  | .iface _ d => uptoBulk d + 1
  | .map entries => uptoBulkEntries entries + 1
  | .held _ => 1
def uptoBulkAll {H : Type} : List (DataW H) → Nat
  | [] => 0
  | d :: r => uptoBulk d + uptoBulkAll r
def uptoBulkEntries {H : Type} : List (Lit × DataW H) → Nat
  | [] => 0
  | x :: r => uptoBulkEntry x + uptoBulkEntries r
def uptoBulkEntry {H : Type} : Lit × DataW H → Nat
  | (.string bytes, d) => bytes.length + uptoBulk d + 1
  | (_, d) => uptoBulk d + 1
 end
def uptoSmall : (H : Type) → List (DataW H) → Bool := fun _ ds => decide (uptoBulkAll ds ≤ 1048576)
def OpenSpec.upto (s : _root_.Go.ChangeSpec) : _root_.Go.OpenSpec := { _root_.Go.OpenSpec.ofChange s with cond := some uptoSmall }

/-- 'baggagelaw35.ClaimShares', WHERE WHAT IT READS IS OF BULK AT MOST 1048576: true; the input reads as it did. -/
def claimSharesUptoRow : OpenClaim := { program := "ytnflkbgappgdiaa", sum := "cf9cd336550b2245e88d1b5691956b40a92d814a4dadda540c78233ed4e2bdcd", func := "baggage/baggagelaw35.ClaimShares", spec := "claimShares", inPlace := ["internal/reflectlite.ValueOf", "internal/reflectlite.Swapper", "(internal/reflectlite.Value).Len"], unfollowed := true, recurses := true, apart := false, narrowed := true }
def ClaimSharesUptoSaid : Prop := claimSharesUptoRow.holds Try.pinned (OpenSpec.upto claimSharesSpec)

/-- 'baggagelaw35.ClaimExact', WHERE WHAT IT READS IS OF BULK AT MOST 1048576: true; the input reads as it did. -/
def claimExactUptoRow : OpenClaim := { program := "ytnflkbgappgdiaa", sum := "cf9cd336550b2245e88d1b5691956b40a92d814a4dadda540c78233ed4e2bdcd", func := "baggage/baggagelaw35.ClaimExact", spec := "claimExact", inPlace := ["internal/reflectlite.ValueOf", "internal/reflectlite.Swapper", "(internal/reflectlite.Value).Len"], unfollowed := true, recurses := true, apart := false, narrowed := true }
def ClaimExactUptoSaid : Prop := claimExactUptoRow.holds Try.pinned (OpenSpec.upto claimExactSpec)

/-- 'baggagelaw35.ClaimOrder', WHERE WHAT IT READS IS OF BULK AT MOST 1048576: true; the input reads as it did. -/
def claimOrderUptoRow : OpenClaim := { program := "ytnflkbgappgdiaa", sum := "cf9cd336550b2245e88d1b5691956b40a92d814a4dadda540c78233ed4e2bdcd", func := "baggage/baggagelaw35.ClaimOrder", spec := "claimOrder", inPlace := ["internal/reflectlite.ValueOf", "internal/reflectlite.Swapper", "(internal/reflectlite.Value).Len"], unfollowed := true, recurses := true, apart := false, narrowed := true }
def ClaimOrderUptoSaid : Prop := claimOrderUptoRow.holds Try.pinned (OpenSpec.upto claimOrderSpec)

/-- 'baggagelaw35.ClaimSettles', WHERE WHAT IT READS IS OF BULK AT MOST 1048576: true; the input reads as it did. -/
def claimSettlesUptoRow : OpenClaim := { program := "ytnflkbgappgdiaa", sum := "cf9cd336550b2245e88d1b5691956b40a92d814a4dadda540c78233ed4e2bdcd", func := "baggage/baggagelaw35.ClaimSettles", spec := "claimSettles", inPlace := ["internal/reflectlite.ValueOf", "internal/reflectlite.Swapper", "(internal/reflectlite.Value).Len"], unfollowed := true, recurses := true, apart := false, narrowed := true }
def ClaimSettlesUptoSaid : Prop := claimSettlesUptoRow.holds Try.pinned (OpenSpec.upto claimSettlesSpec)

/-- 'baggagelaw35.ClaimBalances', WHERE WHAT IT READS IS OF BULK AT MOST 1048576: true; the input reads as it did. -/
def claimBalancesUptoRow : OpenClaim := { program := "ytnflkbgappgdiaa", sum := "cf9cd336550b2245e88d1b5691956b40a92d814a4dadda540c78233ed4e2bdcd", func := "baggage/baggagelaw35.ClaimBalances", spec := "claimBalances", inPlace := ["internal/reflectlite.ValueOf", "internal/reflectlite.Swapper", "(internal/reflectlite.Value).Len"], unfollowed := true, recurses := true, apart := false, narrowed := true }
def ClaimBalancesUptoSaid : Prop := claimBalancesUptoRow.holds Try.pinned (OpenSpec.upto claimBalancesSpec)

/-- 'baggagelaw35.ClaimCleared', WHERE WHAT IT READS IS OF BULK AT MOST 1048576: true; the input reads as it did. -/
def claimClearedUptoRow : OpenClaim := { program := "ytnflkbgappgdiaa", sum := "cf9cd336550b2245e88d1b5691956b40a92d814a4dadda540c78233ed4e2bdcd", func := "baggage/baggagelaw35.ClaimCleared", spec := "claimCleared", inPlace := ["internal/reflectlite.ValueOf", "internal/reflectlite.Swapper", "(internal/reflectlite.Value).Len"], unfollowed := true, recurses := true, apart := false, narrowed := true }
def ClaimClearedUptoSaid : Prop := claimClearedUptoRow.holds Try.pinned (OpenSpec.upto claimClearedSpec)

end Rows
end Go.Proofs.Ytnflkbgappgdiaa
