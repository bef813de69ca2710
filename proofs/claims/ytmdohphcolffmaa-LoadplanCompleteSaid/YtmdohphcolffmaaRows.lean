/-
  No cell of these rows narrows 'for every input' (looked for: loops, veiled, ifaces, maps, wideKeys, modest, calm, conditions, laid).
  DERIVED. THE GIVEN ROWS OF THIS SEAT. 4 by the template 'for every input the law returns true; each argument reads behind the call as it read before'; 0 by the template 'total and deterministic' (their statements: YtmdohphcolffmaaTotals.lean).
  GIVEN WITH THE SEED: the statements are not yours to turn. If you find one false, say at which input.
  Laid BY PROGRAM, IN A SANDBOX (cutbox-rows.mjs): the forced cells as the released guide's own fill.sh prints them over the translation 4b43757e36c7b4f6… (all of the seat's roots in one cut). By AI agents, Wed Nov 11 2026. No macro, syntax, notation, axiom, sorry.
-/
import Derived.Test.YtmdohphcolffmaaChecked
import GoSem.Claim
import GoSem.ClaimJoined
import GoSem.ClaimMapViews
import Derived.JoinedTies
import Derived.KernelRfl
namespace Go.Proofs.Ytmdohphcolffmaa
/- THE CELL 'sum', in the pinned program and in every row, IS THE sha256 OF THE DUMP (.gsa) THAT YtmdohphcolffmaaProg.lean LOADS. Nothing in Lean hashes anything: it is a label: what it is worth is what the hold of that sum in a sandbox is worth. -/
noncomputable def Try.pinned : Pinned := { name := "ytmdohphcolffmaa", sum := "4b43757e36c7b4f63a044801a3608c7d22fd413b83f38c7352f3e05ddebc7bbc", checked := Try.checked }
namespace Rows
def none {H : Type} : Left H := { results := [], args := [] }

/-- 'baggagelaw28.LoadplanSteps': WHATEVER THE INPUT: true; the input reads as it did. -/
def loadplanStepsSpec : ChangeSpec := { name := "loadplanSteps", fn := fun _ => fun
  | [d] => { results := [.lit (.bool true)], args := [d] }
  | _ => none }
def loadplanStepsRow : OpenClaim := { program := "ytmdohphcolffmaa", sum := "4b43757e36c7b4f63a044801a3608c7d22fd413b83f38c7352f3e05ddebc7bbc", func := "baggage/baggagelaw28.LoadplanSteps", spec := "loadplanSteps", inPlace := ["internal/reflectlite.ValueOf", "internal/reflectlite.Swapper", "(internal/reflectlite.Value).Len"], unfollowed := true, recurses := true, plainKeys := false, apart := false }
def LoadplanStepsSaid : Prop := loadplanStepsRow.holds Try.pinned (OpenSpec.ofChange loadplanStepsSpec)

/-- ITS FALSE NEIGHBOUR: 'it returns false'. Refute it at one input. -/
def loadplanStepsWrong : ChangeSpec := { name := "loadplanSteps", fn := fun _ => fun
  | [d] => { results := [.lit (.bool false)], args := [d] }
  | _ => none }
def LoadplanStepsWrongFalsely : Prop := loadplanStepsRow.holds Try.pinned (OpenSpec.ofChange loadplanStepsWrong)

/-- 'baggagelaw28.LoadplanComplete': WHATEVER THE INPUT: true; the input reads as it did. -/
def loadplanCompleteSpec : ChangeSpec := { name := "loadplanComplete", fn := fun _ => fun
  | [d] => { results := [.lit (.bool true)], args := [d] }
  | _ => none }
def loadplanCompleteRow : OpenClaim := { program := "ytmdohphcolffmaa", sum := "4b43757e36c7b4f63a044801a3608c7d22fd413b83f38c7352f3e05ddebc7bbc", func := "baggage/baggagelaw28.LoadplanComplete", spec := "loadplanComplete", inPlace := ["internal/reflectlite.ValueOf", "internal/reflectlite.Swapper", "(internal/reflectlite.Value).Len"], unfollowed := true, recurses := true, plainKeys := false, apart := false }
def LoadplanCompleteSaid : Prop := loadplanCompleteRow.holds Try.pinned (OpenSpec.ofChange loadplanCompleteSpec)

/-- ITS FALSE NEIGHBOUR: 'it returns false'. Refute it at one input. -/
def loadplanCompleteWrong : ChangeSpec := { name := "loadplanComplete", fn := fun _ => fun
  | [d] => { results := [.lit (.bool false)], args := [d] }
  | _ => none }
def LoadplanCompleteWrongFalsely : Prop := loadplanCompleteRow.holds Try.pinned (OpenSpec.ofChange loadplanCompleteWrong)

/-- 'baggagelaw28.LoadplanBalances': WHATEVER THE INPUT: true; the input reads as it did. -/
def loadplanBalancesSpec : ChangeSpec := { name := "loadplanBalances", fn := fun _ => fun
  | [d] => { results := [.lit (.bool true)], args := [d] }
  | _ => none }
def loadplanBalancesRow : OpenClaim := { program := "ytmdohphcolffmaa", sum := "4b43757e36c7b4f63a044801a3608c7d22fd413b83f38c7352f3e05ddebc7bbc", func := "baggage/baggagelaw28.LoadplanBalances", spec := "loadplanBalances", inPlace := ["internal/reflectlite.ValueOf", "internal/reflectlite.Swapper", "(internal/reflectlite.Value).Len"], unfollowed := true, recurses := true, plainKeys := false, apart := false }
def LoadplanBalancesSaid : Prop := loadplanBalancesRow.holds Try.pinned (OpenSpec.ofChange loadplanBalancesSpec)

/-- ITS FALSE NEIGHBOUR: 'it returns false'. Refute it at one input. -/
def loadplanBalancesWrong : ChangeSpec := { name := "loadplanBalances", fn := fun _ => fun
  | [d] => { results := [.lit (.bool false)], args := [d] }
  | _ => none }
def LoadplanBalancesWrongFalsely : Prop := loadplanBalancesRow.holds Try.pinned (OpenSpec.ofChange loadplanBalancesWrong)

/-- 'baggagelaw28.LoadplanOrder': WHATEVER THE INPUT: true; the input reads as it did. -/
def loadplanOrderSpec : ChangeSpec := { name := "loadplanOrder", fn := fun _ => fun
  | [d1, d2] => { results := [.lit (.bool true)], args := [d1, d2] }
  | _ => none }
def loadplanOrderRow : OpenClaim := { program := "ytmdohphcolffmaa", sum := "4b43757e36c7b4f63a044801a3608c7d22fd413b83f38c7352f3e05ddebc7bbc", func := "baggage/baggagelaw28.LoadplanOrder", spec := "loadplanOrder", inPlace := ["internal/reflectlite.ValueOf", "internal/reflectlite.Swapper", "(internal/reflectlite.Value).Len"], unfollowed := true, recurses := true, plainKeys := false, apart := false }
def LoadplanOrderSaid : Prop := loadplanOrderRow.holds Try.pinned (OpenSpec.ofChange loadplanOrderSpec)

/-- ITS FALSE NEIGHBOUR: 'it returns false'. Refute it at one input. -/
def loadplanOrderWrong : ChangeSpec := { name := "loadplanOrder", fn := fun _ => fun
  | [d1, d2] => { results := [.lit (.bool false)], args := [d1, d2] }
  | _ => none }
def LoadplanOrderWrongFalsely : Prop := loadplanOrderRow.holds Try.pinned (OpenSpec.ofChange loadplanOrderWrong)

/- THE SECOND FORM. 'bulk': how many values and letters a reading holds, each counted each time it is reached (what is shared counts as often as it is met; a slice's spare places count too). A statement '..UptoSaid' is the law's where the arguments, and the package variables that the reading takes, are together of bulk at most 1048576: NARROWER than '..Said'. Prove '..Said' where nothing that the law and all that it calls make is longer than what came in: it says more and counts as full. Else prove '..UptoSaid'. A law counts once. -/
mutual
def uptoBulk {H : Type} : DataW H → Nat
  | .lit (.string bytes) => bytes.length + 1
  | .lit _ => 1
  | .nil => 1
  | .ptr d => uptoBulk d + 1
  | .slice elems spare => uptoBulkAll elems + uptoBulkAll spare + 1
  | .agg parts => uptoBulkAll parts + 1
  | .iface _ d => uptoBulk d + 1
  | .map entries => uptoBulkEntries entries + 1
  | .held _ => 1
def uptoBulkAll {H : Type} : List (DataW H) → Nat
  | [] => 0
  | d :: r => uptoBulk d + uptoBulkAll r
def uptoBulkEntries {H : Type} : List (Lit × DataW H) → Nat
  | [] => 0
  | x :: r => uptoBulkEntry x + uptoBulkEntries r
def uptoBulkEntry {H : Type} : Lit × DataW H → Nat
  | (.string bytes, d) => bytes.length + uptoBulk d + 1
  | (_, d) => uptoBulk d + 1
 end
def uptoSmall : (H : Type) → List (DataW H) → Bool := fun _ ds => decide (uptoBulkAll ds ≤ 1048576)
def OpenSpec.upto (s : _root_.Go.ChangeSpec) : _root_.Go.OpenSpec := { _root_.Go.OpenSpec.ofChange s with cond := some uptoSmall }

/-- 'baggagelaw28.LoadplanSteps', WHERE WHAT IT READS IS OF BULK AT MOST 1048576: true; the input reads as it did. -/
def loadplanStepsUptoRow : OpenClaim := { program := "ytmdohphcolffmaa", sum := "4b43757e36c7b4f63a044801a3608c7d22fd413b83f38c7352f3e05ddebc7bbc", func := "baggage/baggagelaw28.LoadplanSteps", spec := "loadplanSteps", inPlace := ["internal/reflectlite.ValueOf", "internal/reflectlite.Swapper", "(internal/reflectlite.Value).Len"], unfollowed := true, recurses := true, plainKeys := false, apart := false, narrowed := true }
def LoadplanStepsUptoSaid : Prop := loadplanStepsUptoRow.holds Try.pinned (OpenSpec.upto loadplanStepsSpec)

/-- 'baggagelaw28.LoadplanComplete', WHERE WHAT IT READS IS OF BULK AT MOST 1048576: true; the input reads as it did. -/
def loadplanCompleteUptoRow : OpenClaim := { program := "ytmdohphcolffmaa", sum := "4b43757e36c7b4f63a044801a3608c7d22fd413b83f38c7352f3e05ddebc7bbc", func := "baggage/baggagelaw28.LoadplanComplete", spec := "loadplanComplete", inPlace := ["internal/reflectlite.ValueOf", "internal/reflectlite.Swapper", "(internal/reflectlite.Value).Len"], unfollowed := true, recurses := true, plainKeys := false, apart := false, narrowed := true }
def LoadplanCompleteUptoSaid : Prop := loadplanCompleteUptoRow.holds Try.pinned (OpenSpec.upto loadplanCompleteSpec)

/-- 'baggagelaw28.LoadplanBalances', WHERE WHAT IT READS IS OF BULK AT MOST 1048576: true; the input reads as it did. -/
def loadplanBalancesUptoRow : OpenClaim := { program := "ytmdohphcolffmaa", sum := "4b43757e36c7b4f63a044801a3608c7d22fd413b83f38c7352f3e05ddebc7bbc", func := "baggage/baggagelaw28.LoadplanBalances", spec := "loadplanBalances", inPlace := ["internal/reflectlite.ValueOf", "internal/reflectlite.Swapper", "(internal/reflectlite.Value).Len"], unfollowed := true, recurses := true, plainKeys := false, apart := false, narrowed := true }
def LoadplanBalancesUptoSaid : Prop := loadplanBalancesUptoRow.holds Try.pinned (OpenSpec.upto loadplanBalancesSpec)

/-- 'baggagelaw28.LoadplanOrder', WHERE WHAT IT READS IS OF BULK AT MOST 1048576: true; the input reads as it did. -/
def loadplanOrderUptoRow : OpenClaim := { program := "ytmdohphcolffmaa", sum := "4b43757e36c7b4f63a044801a3608c7d22fd413b83f38c7352f3e05ddebc7bbc", func := "baggage/baggagelaw28.LoadplanOrder", spec := "loadplanOrder", inPlace := ["internal/reflectlite.ValueOf", "internal/reflectlite.Swapper", "(internal/reflectlite.Value).Len"], unfollowed := true, recurses := true, plainKeys := false, apart := false, narrowed := true }
def LoadplanOrderUptoSaid : Prop := loadplanOrderUptoRow.holds Try.pinned (OpenSpec.upto loadplanOrderSpec)

end Rows
end Go.Proofs.Ytmdohphcolffmaa
