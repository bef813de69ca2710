/-
  No cell of these rows narrows 'for every input' (looked for: loops, veiled, ifaces, maps, wideKeys, modest, calm, conditions, laid).
  DERIVED. THE GIVEN ROWS OF THIS SEAT. 7 by the template 'for every input the law returns true; each argument reads behind the call as it read before'; 0 by the template 'total and deterministic' (their statements: YtbbedhidiffdgaaTotals.lean).
  GIVEN WITH THE SEED: the statements are not yours to turn. If you find one false, say at which input.
  Laid BY PROGRAM, IN A SANDBOX (cutbox-rows.mjs): the forced cells as the released guide's own fill.sh prints them over the translation b34906471b4c8590… (all of the seat's roots in one cut). By AI agents, Wed Nov 11 2026. No macro, syntax, notation, axiom, sorry.
-/
import Derived.Test.YtbbedhidiffdgaaChecked
import GoSem.Claim
import GoSem.ClaimJoined
import GoSem.ClaimMapViews
import Derived.JoinedTies
import Derived.KernelRfl
namespace Go.Proofs.Ytbbedhidiffdgaa
/- THE CELL 'sum', in the pinned program and in every row, IS THE sha256 OF THE DUMP (.gsa) THAT YtbbedhidiffdgaaProg.lean LOADS. Nothing in Lean hashes anything: it is a label: what it is worth is what the hold of that sum in a sandbox is worth. -/
noncomputable def Try.pinned : Pinned := { name := "ytbbedhidiffdgaa", sum := "b34906471b4c8590aa9ba8edd8f3a14572ab24a4b8bb3c50203233da0c46d632", checked := Try.checked }
namespace Rows
def none {H : Type} : Left H := { results := [], args := [] }

/-- 'baggagelaw23.CartsValidates': WHATEVER THE INPUT: true; the input reads as it did. -/
def cartsValidatesSpec : ChangeSpec := { name := "cartsValidates", fn := fun _ => fun
  | [d1, d2, d3] => { results := [.lit (.bool true)], args := [d1, d2, d3] }
  | _ => none }
def cartsValidatesRow : OpenClaim := { program := "ytbbedhidiffdgaa", sum := "b34906471b4c8590aa9ba8edd8f3a14572ab24a4b8bb3c50203233da0c46d632", func := "baggage/baggagelaw23.CartsValidates", spec := "cartsValidates", unfollowed := true, recurses := true, plainKeys := false, apart := false }
def CartsValidatesSaid : Prop := cartsValidatesRow.holds Try.pinned (OpenSpec.ofChange cartsValidatesSpec)

/-- ITS FALSE NEIGHBOUR: 'it returns false'. Refute it at one input. -/
def cartsValidatesWrong : ChangeSpec := { name := "cartsValidates", fn := fun _ => fun
  | [d1, d2, d3] => { results := [.lit (.bool false)], args := [d1, d2, d3] }
  | _ => none }
def CartsValidatesWrongFalsely : Prop := cartsValidatesRow.holds Try.pinned (OpenSpec.ofChange cartsValidatesWrong)

/-- 'baggagelaw23.CartsFewest': WHATEVER THE INPUT: true; the input reads as it did. -/
def cartsFewestSpec : ChangeSpec := { name := "cartsFewest", fn := fun _ => fun
  | [d] => { results := [.lit (.bool true)], args := [d] }
  | _ => none }
def cartsFewestRow : OpenClaim := { program := "ytbbedhidiffdgaa", sum := "b34906471b4c8590aa9ba8edd8f3a14572ab24a4b8bb3c50203233da0c46d632", func := "baggage/baggagelaw23.CartsFewest", spec := "cartsFewest", unfollowed := true, recurses := true, plainKeys := false, apart := false }
def CartsFewestSaid : Prop := cartsFewestRow.holds Try.pinned (OpenSpec.ofChange cartsFewestSpec)

/-- ITS FALSE NEIGHBOUR: 'it returns false'. Refute it at one input. -/
def cartsFewestWrong : ChangeSpec := { name := "cartsFewest", fn := fun _ => fun
  | [d] => { results := [.lit (.bool false)], args := [d] }
  | _ => none }
def CartsFewestWrongFalsely : Prop := cartsFewestRow.holds Try.pinned (OpenSpec.ofChange cartsFewestWrong)

/-- 'baggagelaw23.CartsBack': WHATEVER THE INPUT: true; the input reads as it did. -/
def cartsBackSpec : ChangeSpec := { name := "cartsBack", fn := fun _ => fun
  | [d] => { results := [.lit (.bool true)], args := [d] }
  | _ => none }
def cartsBackRow : OpenClaim := { program := "ytbbedhidiffdgaa", sum := "b34906471b4c8590aa9ba8edd8f3a14572ab24a4b8bb3c50203233da0c46d632", func := "baggage/baggagelaw23.CartsBack", spec := "cartsBack", unfollowed := true, recurses := true, plainKeys := false, apart := false }
def CartsBackSaid : Prop := cartsBackRow.holds Try.pinned (OpenSpec.ofChange cartsBackSpec)

/-- ITS FALSE NEIGHBOUR: 'it returns false'. Refute it at one input. -/
def cartsBackWrong : ChangeSpec := { name := "cartsBack", fn := fun _ => fun
  | [d] => { results := [.lit (.bool false)], args := [d] }
  | _ => none }
def CartsBackWrongFalsely : Prop := cartsBackRow.holds Try.pinned (OpenSpec.ofChange cartsBackWrong)

/-- 'baggagelaw23.CartsOperate': WHATEVER THE INPUT: true; the input reads as it did. -/
def cartsOperateSpec : ChangeSpec := { name := "cartsOperate", fn := fun _ => fun
  | [d] => { results := [.lit (.bool true)], args := [d] }
  | _ => none }
def cartsOperateRow : OpenClaim := { program := "ytbbedhidiffdgaa", sum := "b34906471b4c8590aa9ba8edd8f3a14572ab24a4b8bb3c50203233da0c46d632", func := "baggage/baggagelaw23.CartsOperate", spec := "cartsOperate", unfollowed := true, recurses := true, plainKeys := false, apart := false }
def CartsOperateSaid : Prop := cartsOperateRow.holds Try.pinned (OpenSpec.ofChange cartsOperateSpec)

/-- ITS FALSE NEIGHBOUR: 'it returns false'. Refute it at one input. -/
def cartsOperateWrong : ChangeSpec := { name := "cartsOperate", fn := fun _ => fun
  | [d] => { results := [.lit (.bool false)], args := [d] }
  | _ => none }
def CartsOperateWrongFalsely : Prop := cartsOperateRow.holds Try.pinned (OpenSpec.ofChange cartsOperateWrong)

/-- 'baggagelaw23.CartsRaw': WHATEVER THE INPUT: true; the input reads as it did. -/
def cartsRawSpec : ChangeSpec := { name := "cartsRaw", fn := fun _ => fun
  | [d1, d2, d3, d4, d5, d6, d7, d8] => { results := [.lit (.bool true)], args := [d1, d2, d3, d4, d5, d6, d7, d8] }
  | _ => none }
def cartsRawRow : OpenClaim := { program := "ytbbedhidiffdgaa", sum := "b34906471b4c8590aa9ba8edd8f3a14572ab24a4b8bb3c50203233da0c46d632", func := "baggage/baggagelaw23.CartsRaw", spec := "cartsRaw", unfollowed := true, recurses := true, plainKeys := false, apart := false }
def CartsRawSaid : Prop := cartsRawRow.holds Try.pinned (OpenSpec.ofChange cartsRawSpec)

/-- ITS FALSE NEIGHBOUR: 'it returns false'. Refute it at one input. -/
def cartsRawWrong : ChangeSpec := { name := "cartsRaw", fn := fun _ => fun
  | [d1, d2, d3, d4, d5, d6, d7, d8] => { results := [.lit (.bool false)], args := [d1, d2, d3, d4, d5, d6, d7, d8] }
  | _ => none }
def CartsRawWrongFalsely : Prop := cartsRawRow.holds Try.pinned (OpenSpec.ofChange cartsRawWrong)

/-- 'baggagelaw23.CartsKeep': WHATEVER THE INPUT: true; the input reads as it did. -/
def cartsKeepSpec : ChangeSpec := { name := "cartsKeep", fn := fun _ => fun
  | [d] => { results := [.lit (.bool true)], args := [d] }
  | _ => none }
def cartsKeepRow : OpenClaim := { program := "ytbbedhidiffdgaa", sum := "b34906471b4c8590aa9ba8edd8f3a14572ab24a4b8bb3c50203233da0c46d632", func := "baggage/baggagelaw23.CartsKeep", spec := "cartsKeep", unfollowed := true, recurses := true, plainKeys := false, apart := false }
def CartsKeepSaid : Prop := cartsKeepRow.holds Try.pinned (OpenSpec.ofChange cartsKeepSpec)

/-- ITS FALSE NEIGHBOUR: 'it returns false'. Refute it at one input. -/
def cartsKeepWrong : ChangeSpec := { name := "cartsKeep", fn := fun _ => fun
  | [d] => { results := [.lit (.bool false)], args := [d] }
  | _ => none }
def CartsKeepWrongFalsely : Prop := cartsKeepRow.holds Try.pinned (OpenSpec.ofChange cartsKeepWrong)

/-- 'baggagelaw23.CartsFinal': WHATEVER THE INPUT: true; the input reads as it did. -/
def cartsFinalSpec : ChangeSpec := { name := "cartsFinal", fn := fun _ => fun
  | [d] => { results := [.lit (.bool true)], args := [d] }
  | _ => none }
def cartsFinalRow : OpenClaim := { program := "ytbbedhidiffdgaa", sum := "b34906471b4c8590aa9ba8edd8f3a14572ab24a4b8bb3c50203233da0c46d632", func := "baggage/baggagelaw23.CartsFinal", spec := "cartsFinal", unfollowed := true, recurses := true, plainKeys := false, apart := false }
def CartsFinalSaid : Prop := cartsFinalRow.holds Try.pinned (OpenSpec.ofChange cartsFinalSpec)

/-- ITS FALSE NEIGHBOUR: 'it returns false'. Refute it at one input. -/
def cartsFinalWrong : ChangeSpec := { name := "cartsFinal", fn := fun _ => fun
  | [d] => { results := [.lit (.bool false)], args := [d] }
  | _ => none }
def CartsFinalWrongFalsely : Prop := cartsFinalRow.holds Try.pinned (OpenSpec.ofChange cartsFinalWrong)

/- THE SECOND FORM. 'bulk': how many values and letters a reading holds, each counted each time it is reached (what is shared counts as often as it is met; a slice's spare places count too). A statement '..UptoSaid' is the law's where the arguments, and the package variables that the reading takes, are together of bulk at most 1048576: NARROWER than '..Said'. Prove '..Said' where nothing that the law and all that it calls make is longer than what came in: it says more and counts as full. Else prove '..UptoSaid'. A law counts once. -/
mutual
def uptoBulk {H : Type} : DataW H → Nat
  | .lit (.string bytes) => bytes.length + 1
  | .lit _ => 1
  | .nil => 1
  | .ptr d => uptoBulk d + 1
  | .slice elems spare => uptoBulkAll elems + uptoBulkAll spare + 1
  | .agg parts => uptoBulkAll parts + 1
  | .iface _ d => uptoBulk d + 1
  | .map entries => uptoBulkEntries entries + 1
  | .held _ => 1
def uptoBulkAll {H : Type} : List (DataW H) → Nat
  | [] => 0
  | d :: r => uptoBulk d + uptoBulkAll r
def uptoBulkEntries {H : Type} : List (Lit × DataW H) → Nat
  | [] => 0
  | x :: r => uptoBulkEntry x + uptoBulkEntries r
def uptoBulkEntry {H : Type} : Lit × DataW H → Nat
  | (.string bytes, d) => bytes.length + uptoBulk d + 1
  | (_, d) => uptoBulk d + 1
 end
def uptoSmall : (H : Type) → List (DataW H) → Bool := fun _ ds => decide (uptoBulkAll ds ≤ 1048576)
def OpenSpec.upto (s : _root_.Go.ChangeSpec) : _root_.Go.OpenSpec := { _root_.Go.OpenSpec.ofChange s with cond := some uptoSmall }

/-- 'baggagelaw23.CartsValidates', WHERE WHAT IT READS IS OF BULK AT MOST 1048576: true; the input reads as it did. -/
def cartsValidatesUptoRow : OpenClaim := { program := "ytbbedhidiffdgaa", sum := "b34906471b4c8590aa9ba8edd8f3a14572ab24a4b8bb3c50203233da0c46d632", func := "baggage/baggagelaw23.CartsValidates", spec := "cartsValidates", unfollowed := true, recurses := true, plainKeys := false, apart := false, narrowed := true }
def CartsValidatesUptoSaid : Prop := cartsValidatesUptoRow.holds Try.pinned (OpenSpec.upto cartsValidatesSpec)

/-- 'baggagelaw23.CartsFewest', WHERE WHAT IT READS IS OF BULK AT MOST 1048576: true; the input reads as it did. -/
def cartsFewestUptoRow : OpenClaim := { program := "ytbbedhidiffdgaa", sum := "b34906471b4c8590aa9ba8edd8f3a14572ab24a4b8bb3c50203233da0c46d632", func := "baggage/baggagelaw23.CartsFewest", spec := "cartsFewest", unfollowed := true, recurses := true, plainKeys := false, apart := false, narrowed := true }
def CartsFewestUptoSaid : Prop := cartsFewestUptoRow.holds Try.pinned (OpenSpec.upto cartsFewestSpec)

/-- 'baggagelaw23.CartsBack', WHERE WHAT IT READS IS OF BULK AT MOST 1048576: true; the input reads as it did. -/
def cartsBackUptoRow : OpenClaim := { program := "ytbbedhidiffdgaa", sum := "b34906471b4c8590aa9ba8edd8f3a14572ab24a4b8bb3c50203233da0c46d632", func := "baggage/baggagelaw23.CartsBack", spec := "cartsBack", unfollowed := true, recurses := true, plainKeys := false, apart := false, narrowed := true }
def CartsBackUptoSaid : Prop := cartsBackUptoRow.holds Try.pinned (OpenSpec.upto cartsBackSpec)

/-- 'baggagelaw23.CartsOperate', WHERE WHAT IT READS IS OF BULK AT MOST 1048576: true; the input reads as it did. -/
def cartsOperateUptoRow : OpenClaim := { program := "ytbbedhidiffdgaa", sum := "b34906471b4c8590aa9ba8edd8f3a14572ab24a4b8bb3c50203233da0c46d632", func := "baggage/baggagelaw23.CartsOperate", spec := "cartsOperate", unfollowed := true, recurses := true, plainKeys := false, apart := false, narrowed := true }
def CartsOperateUptoSaid : Prop := cartsOperateUptoRow.holds Try.pinned (OpenSpec.upto cartsOperateSpec)

/-- 'baggagelaw23.CartsRaw', WHERE WHAT IT READS IS OF BULK AT MOST 1048576: true; the input reads as it did. -/
def cartsRawUptoRow : OpenClaim := { program := "ytbbedhidiffdgaa", sum := "b34906471b4c8590aa9ba8edd8f3a14572ab24a4b8bb3c50203233da0c46d632", func := "baggage/baggagelaw23.CartsRaw", spec := "cartsRaw", unfollowed := true, recurses := true, plainKeys := false, apart := false, narrowed := true }
def CartsRawUptoSaid : Prop := cartsRawUptoRow.holds Try.pinned (OpenSpec.upto cartsRawSpec)

/-- 'baggagelaw23.CartsKeep', WHERE WHAT IT READS IS OF BULK AT MOST 1048576: true; the input reads as it did. -/
def cartsKeepUptoRow : OpenClaim := { program := "ytbbedhidiffdgaa", sum := "b34906471b4c8590aa9ba8edd8f3a14572ab24a4b8bb3c50203233da0c46d632", func := "baggage/baggagelaw23.CartsKeep", spec := "cartsKeep", unfollowed := true, recurses := true, plainKeys := false, apart := false, narrowed := true }
def CartsKeepUptoSaid : Prop := cartsKeepUptoRow.holds Try.pinned (OpenSpec.upto cartsKeepSpec)

/-- 'baggagelaw23.CartsFinal', WHERE WHAT IT READS IS OF BULK AT MOST 1048576: true; the input reads as it did. -/
def cartsFinalUptoRow : OpenClaim := { program := "ytbbedhidiffdgaa", sum := "b34906471b4c8590aa9ba8edd8f3a14572ab24a4b8bb3c50203233da0c46d632", func := "baggage/baggagelaw23.CartsFinal", spec := "cartsFinal", unfollowed := true, recurses := true, plainKeys := false, apart := false, narrowed := true }
def CartsFinalUptoSaid : Prop := cartsFinalUptoRow.holds Try.pinned (OpenSpec.upto cartsFinalSpec)

end Rows
end Go.Proofs.Ytbbedhidiffdgaa
