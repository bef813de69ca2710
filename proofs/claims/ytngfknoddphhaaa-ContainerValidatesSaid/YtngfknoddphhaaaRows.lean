/-
  No cell of these rows narrows 'for every input' (looked for: loops, veiled, ifaces, maps, wideKeys, modest, calm, conditions, laid).
  DERIVED. THE GIVEN ROWS OF THIS SEAT. 7 by the template 'for every input the law returns true; each argument reads behind the call as it read before'; 0 by the template 'total and deterministic' (their statements: YtngfknoddphhaaaTotals.lean).
  GIVEN WITH THE SEED: the statements are not yours to turn. If you find one false, say at which input.
  Laid BY PROGRAM, IN A SANDBOX (cutbox-rows.mjs): the forced cells as the released guide's own fill.sh prints them over the translation 9c3eab096db35dbf… (all of the seat's roots in one cut). By AI agents, Wed Nov 11 2026. No macro, syntax, notation, axiom, sorry.
-/
import Derived.Test.YtngfknoddphhaaaChecked
import GoSem.Claim
import GoSem.ClaimJoined
import GoSem.ClaimMapViews
import Derived.JoinedTies
import Derived.KernelRfl
namespace Go.Proofs.Ytngfknoddphhaaa
/- THE CELL 'sum', in the pinned program and in every row, IS THE sha256 OF THE DUMP (.gsa) THAT YtngfknoddphhaaaProg.lean LOADS. Nothing in Lean hashes anything: it is a label: what it is worth is what the hold of that sum in a sandbox is worth. -/
noncomputable def Try.pinned : Pinned := { name := "ytngfknoddphhaaa", sum := "9c3eab096db35dbf63cb7c5d61e43817c2faf0768488233fddcbe6bebd5c5eed", checked := Try.checked }
namespace Rows
def none {H : Type} : Left H := { results := [], args := [] }

/-- 'baggagelaw27.ContainerOrder': WHATEVER THE INPUT: true; the input reads as it did. -/
def containerOrderSpec : ChangeSpec := { name := "containerOrder", fn := fun _ => fun
  | [d1, d2] => { results := [.lit (.bool true)], args := [d1, d2] }
  | _ => none }
def containerOrderRow : OpenClaim := { program := "ytngfknoddphhaaa", sum := "9c3eab096db35dbf63cb7c5d61e43817c2faf0768488233fddcbe6bebd5c5eed", func := "baggage/baggagelaw27.ContainerOrder", spec := "containerOrder", unfollowed := true, recurses := true, plainKeys := false, apart := false }
def ContainerOrderSaid : Prop := containerOrderRow.holds Try.pinned (OpenSpec.ofChange containerOrderSpec)

/-- ITS FALSE NEIGHBOUR: 'it returns false'. Refute it at one input. -/
def containerOrderWrong : ChangeSpec := { name := "containerOrder", fn := fun _ => fun
  | [d1, d2] => { results := [.lit (.bool false)], args := [d1, d2] }
  | _ => none }
def ContainerOrderWrongFalsely : Prop := containerOrderRow.holds Try.pinned (OpenSpec.ofChange containerOrderWrong)

/-- 'baggagelaw27.ContainerWeights': WHATEVER THE INPUT: true; the input reads as it did. -/
def containerWeightsSpec : ChangeSpec := { name := "containerWeights", fn := fun _ => fun
  | [d] => { results := [.lit (.bool true)], args := [d] }
  | _ => none }
def containerWeightsRow : OpenClaim := { program := "ytngfknoddphhaaa", sum := "9c3eab096db35dbf63cb7c5d61e43817c2faf0768488233fddcbe6bebd5c5eed", func := "baggage/baggagelaw27.ContainerWeights", spec := "containerWeights", unfollowed := true, recurses := true, plainKeys := false, apart := false }
def ContainerWeightsSaid : Prop := containerWeightsRow.holds Try.pinned (OpenSpec.ofChange containerWeightsSpec)

/-- ITS FALSE NEIGHBOUR: 'it returns false'. Refute it at one input. -/
def containerWeightsWrong : ChangeSpec := { name := "containerWeights", fn := fun _ => fun
  | [d] => { results := [.lit (.bool false)], args := [d] }
  | _ => none }
def ContainerWeightsWrongFalsely : Prop := containerWeightsRow.holds Try.pinned (OpenSpec.ofChange containerWeightsWrong)

/-- 'baggagelaw27.ContainerChanges': WHATEVER THE INPUT: true; the input reads as it did. -/
def containerChangesSpec : ChangeSpec := { name := "containerChanges", fn := fun _ => fun
  | [d1, d2, d3] => { results := [.lit (.bool true)], args := [d1, d2, d3] }
  | _ => none }
def containerChangesRow : OpenClaim := { program := "ytngfknoddphhaaa", sum := "9c3eab096db35dbf63cb7c5d61e43817c2faf0768488233fddcbe6bebd5c5eed", func := "baggage/baggagelaw27.ContainerChanges", spec := "containerChanges", unfollowed := true, recurses := true, plainKeys := false, apart := false }
def ContainerChangesSaid : Prop := containerChangesRow.holds Try.pinned (OpenSpec.ofChange containerChangesSpec)

/-- ITS FALSE NEIGHBOUR: 'it returns false'. Refute it at one input. -/
def containerChangesWrong : ChangeSpec := { name := "containerChanges", fn := fun _ => fun
  | [d1, d2, d3] => { results := [.lit (.bool false)], args := [d1, d2, d3] }
  | _ => none }
def ContainerChangesWrongFalsely : Prop := containerChangesRow.holds Try.pinned (OpenSpec.ofChange containerChangesWrong)

/-- 'baggagelaw27.ContainerBack': WHATEVER THE INPUT: true; the input reads as it did. -/
def containerBackSpec : ChangeSpec := { name := "containerBack", fn := fun _ => fun
  | [d] => { results := [.lit (.bool true)], args := [d] }
  | _ => none }
def containerBackRow : OpenClaim := { program := "ytngfknoddphhaaa", sum := "9c3eab096db35dbf63cb7c5d61e43817c2faf0768488233fddcbe6bebd5c5eed", func := "baggage/baggagelaw27.ContainerBack", spec := "containerBack", unfollowed := true, recurses := true, plainKeys := false, apart := false }
def ContainerBackSaid : Prop := containerBackRow.holds Try.pinned (OpenSpec.ofChange containerBackSpec)

/-- ITS FALSE NEIGHBOUR: 'it returns false'. Refute it at one input. -/
def containerBackWrong : ChangeSpec := { name := "containerBack", fn := fun _ => fun
  | [d] => { results := [.lit (.bool false)], args := [d] }
  | _ => none }
def ContainerBackWrongFalsely : Prop := containerBackRow.holds Try.pinned (OpenSpec.ofChange containerBackWrong)

/-- 'baggagelaw27.ContainerLimits': WHATEVER THE INPUT: true; the input reads as it did. -/
def containerLimitsSpec : ChangeSpec := { name := "containerLimits", fn := fun _ => fun
  | [d] => { results := [.lit (.bool true)], args := [d] }
  | _ => none }
def containerLimitsRow : OpenClaim := { program := "ytngfknoddphhaaa", sum := "9c3eab096db35dbf63cb7c5d61e43817c2faf0768488233fddcbe6bebd5c5eed", func := "baggage/baggagelaw27.ContainerLimits", spec := "containerLimits", unfollowed := true, recurses := true, plainKeys := false, apart := false }
def ContainerLimitsSaid : Prop := containerLimitsRow.holds Try.pinned (OpenSpec.ofChange containerLimitsSpec)

/-- ITS FALSE NEIGHBOUR: 'it returns false'. Refute it at one input. -/
def containerLimitsWrong : ChangeSpec := { name := "containerLimits", fn := fun _ => fun
  | [d] => { results := [.lit (.bool false)], args := [d] }
  | _ => none }
def ContainerLimitsWrongFalsely : Prop := containerLimitsRow.holds Try.pinned (OpenSpec.ofChange containerLimitsWrong)

/-- 'baggagelaw27.ContainerValidates': WHATEVER THE INPUT: true; the input reads as it did. -/
def containerValidatesSpec : ChangeSpec := { name := "containerValidates", fn := fun _ => fun
  | [d1, d2, d3] => { results := [.lit (.bool true)], args := [d1, d2, d3] }
  | _ => none }
def containerValidatesRow : OpenClaim := { program := "ytngfknoddphhaaa", sum := "9c3eab096db35dbf63cb7c5d61e43817c2faf0768488233fddcbe6bebd5c5eed", func := "baggage/baggagelaw27.ContainerValidates", spec := "containerValidates", unfollowed := true, recurses := true, plainKeys := false, apart := false }
def ContainerValidatesSaid : Prop := containerValidatesRow.holds Try.pinned (OpenSpec.ofChange containerValidatesSpec)

/-- ITS FALSE NEIGHBOUR: 'it returns false'. Refute it at one input. -/
def containerValidatesWrong : ChangeSpec := { name := "containerValidates", fn := fun _ => fun
  | [d1, d2, d3] => { results := [.lit (.bool false)], args := [d1, d2, d3] }
  | _ => none }
def ContainerValidatesWrongFalsely : Prop := containerValidatesRow.holds Try.pinned (OpenSpec.ofChange containerValidatesWrong)

/-- 'baggagelaw27.ContainerFinds': WHATEVER THE INPUT: true; the input reads as it did. -/
def containerFindsSpec : ChangeSpec := { name := "containerFinds", fn := fun _ => fun
  | [d] => { results := [.lit (.bool true)], args := [d] }
  | _ => none }
def containerFindsRow : OpenClaim := { program := "ytngfknoddphhaaa", sum := "9c3eab096db35dbf63cb7c5d61e43817c2faf0768488233fddcbe6bebd5c5eed", func := "baggage/baggagelaw27.ContainerFinds", spec := "containerFinds", unfollowed := true, recurses := true, plainKeys := false, apart := false }
def ContainerFindsSaid : Prop := containerFindsRow.holds Try.pinned (OpenSpec.ofChange containerFindsSpec)

/-- ITS FALSE NEIGHBOUR: 'it returns false'. Refute it at one input. -/
def containerFindsWrong : ChangeSpec := { name := "containerFinds", fn := fun _ => fun
  | [d] => { results := [.lit (.bool false)], args := [d] }
  | _ => none }
def ContainerFindsWrongFalsely : Prop := containerFindsRow.holds Try.pinned (OpenSpec.ofChange containerFindsWrong)

/- THE SECOND FORM. 'bulk': how many values and letters a reading holds, each counted each time it is reached (what is shared counts as often as it is met; a slice's spare places count too). A statement '..UptoSaid' is the law's where the arguments, and the package variables that the reading takes, are together of bulk at most 1048576: NARROWER than '..Said'. Prove '..Said' where nothing that the law and all that it calls make is longer than what came in: it says more and counts as full. Else prove '..UptoSaid'. A law counts once. -/
mutual
def uptoBulk {H : Type} : DataW H → Nat
  | .lit (.string bytes) => bytes.length + 1
  | .lit _ => 1
  | .nil => 1
  | .ptr d => uptoBulk d + 1
  | .slice elems spare => uptoBulkAll elems + uptoBulkAll spare + 1
  | .agg parts => uptoBulkAll parts + 1
  | .iface _ d => uptoBulk d + 1
  | .map entries => uptoBulkEntries entries + 1
  | .held _ => 1
def uptoBulkAll {H : Type} : List (DataW H) → Nat
  | [] => 0
  | d :: r => uptoBulk d + uptoBulkAll r
def uptoBulkEntries {H : Type} : List (Lit × DataW H) → Nat
  | [] => 0
  | x :: r => uptoBulkEntry x + uptoBulkEntries r
def uptoBulkEntry {H : Type} : Lit × DataW H → Nat
  | (.string bytes, d) => bytes.length + uptoBulk d + 1
  | (_, d) => uptoBulk d + 1
 end
def uptoSmall : (H : Type) → List (DataW H) → Bool := fun _ ds => decide (uptoBulkAll ds ≤ 1048576)
def OpenSpec.upto (s : _root_.Go.ChangeSpec) : _root_.Go.OpenSpec := { _root_.Go.OpenSpec.ofChange s with cond := some uptoSmall }

/-- 'baggagelaw27.ContainerOrder', WHERE WHAT IT READS IS OF BULK AT MOST 1048576: true; the input reads as it did. -/
def containerOrderUptoRow : OpenClaim := { program := "ytngfknoddphhaaa", sum := "9c3eab096db35dbf63cb7c5d61e43817c2faf0768488233fddcbe6bebd5c5eed", func := "baggage/baggagelaw27.ContainerOrder", spec := "containerOrder", unfollowed := true, recurses := true, plainKeys := false, apart := false, narrowed := true }
def ContainerOrderUptoSaid : Prop := containerOrderUptoRow.holds Try.pinned (OpenSpec.upto containerOrderSpec)

/-- 'baggagelaw27.ContainerWeights', WHERE WHAT IT READS IS OF BULK AT MOST 1048576: true; the input reads as it did. -/
def containerWeightsUptoRow : OpenClaim := { program := "ytngfknoddphhaaa", sum := "9c3eab096db35dbf63cb7c5d61e43817c2faf0768488233fddcbe6bebd5c5eed", func := "baggage/baggagelaw27.ContainerWeights", spec := "containerWeights", unfollowed := true, recurses := true, plainKeys := false, apart := false, narrowed := true }
def ContainerWeightsUptoSaid : Prop := containerWeightsUptoRow.holds Try.pinned (OpenSpec.upto containerWeightsSpec)

/-- 'baggagelaw27.ContainerChanges', WHERE WHAT IT READS IS OF BULK AT MOST 1048576: true; the input reads as it did. -/
def containerChangesUptoRow : OpenClaim := { program := "ytngfknoddphhaaa", sum := "9c3eab096db35dbf63cb7c5d61e43817c2faf0768488233fddcbe6bebd5c5eed", func := "baggage/baggagelaw27.ContainerChanges", spec := "containerChanges", unfollowed := true, recurses := true, plainKeys := false, apart := false, narrowed := true }
def ContainerChangesUptoSaid : Prop := containerChangesUptoRow.holds Try.pinned (OpenSpec.upto containerChangesSpec)

/-- 'baggagelaw27.ContainerBack', WHERE WHAT IT READS IS OF BULK AT MOST 1048576: true; the input reads as it did. -/
def containerBackUptoRow : OpenClaim := { program := "ytngfknoddphhaaa", sum := "9c3eab096db35dbf63cb7c5d61e43817c2faf0768488233fddcbe6bebd5c5eed", func := "baggage/baggagelaw27.ContainerBack", spec := "containerBack", unfollowed := true, recurses := true, plainKeys := false, apart := false, narrowed := true }
def ContainerBackUptoSaid : Prop := containerBackUptoRow.holds Try.pinned (OpenSpec.upto containerBackSpec)

/-- 'baggagelaw27.ContainerLimits', WHERE WHAT IT READS IS OF BULK AT MOST 1048576: true; the input reads as it did. -/
def containerLimitsUptoRow : OpenClaim := { program := "ytngfknoddphhaaa", sum := "9c3eab096db35dbf63cb7c5d61e43817c2faf0768488233fddcbe6bebd5c5eed", func := "baggage/baggagelaw27.ContainerLimits", spec := "containerLimits", unfollowed := true, recurses := true, plainKeys := false, apart := false, narrowed := true }
def ContainerLimitsUptoSaid : Prop := containerLimitsUptoRow.holds Try.pinned (OpenSpec.upto containerLimitsSpec)

/-- 'baggagelaw27.ContainerValidates', WHERE WHAT IT READS IS OF BULK AT MOST 1048576: true; the input reads as it did. -/
def containerValidatesUptoRow : OpenClaim := { program := "ytngfknoddphhaaa", sum := "9c3eab096db35dbf63cb7c5d61e43817c2faf0768488233fddcbe6bebd5c5eed", func := "baggage/baggagelaw27.ContainerValidates", spec := "containerValidates", unfollowed := true, recurses := true, plainKeys := false, apart := false, narrowed := true }
def ContainerValidatesUptoSaid : Prop := containerValidatesUptoRow.holds Try.pinned (OpenSpec.upto containerValidatesSpec)

/-- 'baggagelaw27.ContainerFinds', WHERE WHAT IT READS IS OF BULK AT MOST 1048576: true; the input reads as it did. -/
def containerFindsUptoRow : OpenClaim := { program := "ytngfknoddphhaaa", sum := "9c3eab096db35dbf63cb7c5d61e43817c2faf0768488233fddcbe6bebd5c5eed", func := "baggage/baggagelaw27.ContainerFinds", spec := "containerFinds", unfollowed := true, recurses := true, plainKeys := false, apart := false, narrowed := true }
def ContainerFindsUptoSaid : Prop := containerFindsUptoRow.holds Try.pinned (OpenSpec.upto containerFindsSpec)

end Rows
end Go.Proofs.Ytngfknoddphhaaa
