/-
  No cell of these rows narrows 'for every input' (looked for: loops, veiled, ifaces, maps, wideKeys, modest, calm, conditions, laid).
  DERIVED. THE GIVEN ROWS OF THIS SEAT. 3 by the template 'for every input the law returns true; each argument reads behind the call as it read before'; 0 by the template 'total and deterministic' (their statements: YtmdohphcolffmaaGreatTotals.lean).
  GIVEN WITH THE SEED: the statements are not yours to turn. If you find one false, say at which input.
  Laid BY PROGRAM, IN A SANDBOX (cutbox-rows.mjs): the forced cells as the released guide's own fill.sh prints them over the translation 1b17ba50d3669047… (all of the seat's roots in one cut). By AI agents, Wed Nov 11 2026. No macro, syntax, notation, axiom, sorry.
-/
import Derived.Test.YtmdohphcolffmaaGreatChecked
import GoSem.Claim
import GoSem.ClaimJoined
import GoSem.ClaimMapViews
import Derived.JoinedTies
import Derived.KernelRfl
namespace Go.Proofs.YtmdohphcolffmaaGreat
/- THE CELL 'sum', in the pinned program and in every row, IS THE sha256 OF THE DUMP (.gsa) THAT YtmdohphcolffmaaGreatProg.lean LOADS. Nothing in Lean hashes anything: it is a label: what it is worth is what the hold of that sum in a sandbox is worth. -/
noncomputable def Tryz.pinned : Pinned := { name := "ytmdohphcolffmaagreat", sum := "1b17ba50d3669047ac17a37bb6e5d365707b4334af70c656d4219142dd4c17e5", checked := Tryz.checked }
namespace Rows
def none {H : Type} : Left H := { results := [], args := [] }

/-- 'baggagelaw28.LoadplanCategories': WHATEVER THE INPUT: true; the input reads as it did. -/
def loadplanCategoriesSpec : ChangeSpec := { name := "loadplanCategories", fn := fun _ => fun
  | [d1, d2, d3, d4] => { results := [.lit (.bool true)], args := [d1, d2, d3, d4] }
  | _ => none }
def loadplanCategoriesRow : OpenClaim := { program := "ytmdohphcolffmaagreat", sum := "1b17ba50d3669047ac17a37bb6e5d365707b4334af70c656d4219142dd4c17e5", func := "baggage/baggagelaw28.LoadplanCategories", spec := "loadplanCategories", inPlace := ["internal/reflectlite.ValueOf", "internal/reflectlite.Swapper", "(internal/reflectlite.Value).Len"], unfollowed := true, recurses := true, plainKeys := false, apart := false }
def LoadplanCategoriesSaid : Prop := loadplanCategoriesRow.holds Tryz.pinned (OpenSpec.ofChange loadplanCategoriesSpec)

/-- ITS FALSE NEIGHBOUR: 'it returns false'. Refute it at one input. -/
def loadplanCategoriesWrong : ChangeSpec := { name := "loadplanCategories", fn := fun _ => fun
  | [d1, d2, d3, d4] => { results := [.lit (.bool false)], args := [d1, d2, d3, d4] }
  | _ => none }
def LoadplanCategoriesWrongFalsely : Prop := loadplanCategoriesRow.holds Tryz.pinned (OpenSpec.ofChange loadplanCategoriesWrong)

/-- 'baggagelaw28.LoadplanChooses': WHATEVER THE INPUT: true; the input reads as it did. -/
def loadplanChoosesSpec : ChangeSpec := { name := "loadplanChooses", fn := fun _ => fun
  | [d1, d2, d3, d4] => { results := [.lit (.bool true)], args := [d1, d2, d3, d4] }
  | _ => none }
def loadplanChoosesRow : OpenClaim := { program := "ytmdohphcolffmaagreat", sum := "1b17ba50d3669047ac17a37bb6e5d365707b4334af70c656d4219142dd4c17e5", func := "baggage/baggagelaw28.LoadplanChooses", spec := "loadplanChooses", inPlace := ["internal/reflectlite.ValueOf", "internal/reflectlite.Swapper", "(internal/reflectlite.Value).Len"], unfollowed := true, recurses := true, plainKeys := false, apart := false }
def LoadplanChoosesSaid : Prop := loadplanChoosesRow.holds Tryz.pinned (OpenSpec.ofChange loadplanChoosesSpec)

/-- ITS FALSE NEIGHBOUR: 'it returns false'. Refute it at one input. -/
def loadplanChoosesWrong : ChangeSpec := { name := "loadplanChooses", fn := fun _ => fun
  | [d1, d2, d3, d4] => { results := [.lit (.bool false)], args := [d1, d2, d3, d4] }
  | _ => none }
def LoadplanChoosesWrongFalsely : Prop := loadplanChoosesRow.holds Tryz.pinned (OpenSpec.ofChange loadplanChoosesWrong)

/-- 'baggagelaw28.LoadplanAssigns': WHATEVER THE INPUT: true; the input reads as it did. -/
def loadplanAssignsSpec : ChangeSpec := { name := "loadplanAssigns", fn := fun _ => fun
  | [d1, d2, d3, d4] => { results := [.lit (.bool true)], args := [d1, d2, d3, d4] }
  | _ => none }
def loadplanAssignsRow : OpenClaim := { program := "ytmdohphcolffmaagreat", sum := "1b17ba50d3669047ac17a37bb6e5d365707b4334af70c656d4219142dd4c17e5", func := "baggage/baggagelaw28.LoadplanAssigns", spec := "loadplanAssigns", inPlace := ["internal/reflectlite.ValueOf", "internal/reflectlite.Swapper", "(internal/reflectlite.Value).Len"], unfollowed := true, recurses := true, plainKeys := false, apart := false }
def LoadplanAssignsSaid : Prop := loadplanAssignsRow.holds Tryz.pinned (OpenSpec.ofChange loadplanAssignsSpec)

/-- ITS FALSE NEIGHBOUR: 'it returns false'. Refute it at one input. -/
def loadplanAssignsWrong : ChangeSpec := { name := "loadplanAssigns", fn := fun _ => fun
  | [d1, d2, d3, d4] => { results := [.lit (.bool false)], args := [d1, d2, d3, d4] }
  | _ => none }
def LoadplanAssignsWrongFalsely : Prop := loadplanAssignsRow.holds Tryz.pinned (OpenSpec.ofChange loadplanAssignsWrong)

/- THE SECOND FORM. 'bulk': how many values and letters a reading holds, each counted each time it is reached (what is shared counts as often as it is met; a slice's spare places count too). A statement '..UptoSaid' is the law's where the arguments, and the package variables that the reading takes, are together of bulk at most 1048576: NARROWER than '..Said'. Prove '..Said' where nothing that the law and all that it calls make is longer than what came in: it says more and counts as full. Else prove '..UptoSaid'. A law counts once. -/
mutual
def uptoBulk {H : Type} : DataW H → Nat
  | .lit (.string bytes) => bytes.length + 1
  | .lit _ => 1
  | .nil => 1
  | .ptr d => uptoBulk d + 1
  | .slice elems spare => uptoBulkAll elems + uptoBulkAll spare + 1
  | .agg parts => uptoBulkAll parts + 1
  | .iface _ d => uptoBulk d + 1
  | .map entries => uptoBulkEntries entries + 1
  | .held _ => 1
def uptoBulkAll {H : Type} : List (DataW H) → Nat
  | [] => 0
  | d :: r => uptoBulk d + uptoBulkAll r
def uptoBulkEntries {H : Type} : List (Lit × DataW H) → Nat
  | [] => 0
  | x :: r => uptoBulkEntry x + uptoBulkEntries r
def uptoBulkEntry {H : Type} : Lit × DataW H → Nat
  | (.string bytes, d) => bytes.length + uptoBulk d + 1
  | (_, d) => uptoBulk d + 1
 end
def uptoSmall : (H : Type) → List (DataW H) → Bool := fun _ ds => decide (uptoBulkAll ds ≤ 1048576)
def OpenSpec.upto (s : _root_.Go.ChangeSpec) : _root_.Go.OpenSpec := { _root_.Go.OpenSpec.ofChange s with cond := some uptoSmall }

/-- 'baggagelaw28.LoadplanCategories', WHERE WHAT IT READS IS OF BULK AT MOST 1048576: true; the input reads as it did. -/
def loadplanCategoriesUptoRow : OpenClaim := { program := "ytmdohphcolffmaagreat", sum := "1b17ba50d3669047ac17a37bb6e5d365707b4334af70c656d4219142dd4c17e5", func := "baggage/baggagelaw28.LoadplanCategories", spec := "loadplanCategories", inPlace := ["internal/reflectlite.ValueOf", "internal/reflectlite.Swapper", "(internal/reflectlite.Value).Len"], unfollowed := true, recurses := true, plainKeys := false, apart := false, narrowed := true }
def LoadplanCategoriesUptoSaid : Prop := loadplanCategoriesUptoRow.holds Tryz.pinned (OpenSpec.upto loadplanCategoriesSpec)

/-- 'baggagelaw28.LoadplanChooses', WHERE WHAT IT READS IS OF BULK AT MOST 1048576: true; the input reads as it did. -/
def loadplanChoosesUptoRow : OpenClaim := { program := "ytmdohphcolffmaagreat", sum := "1b17ba50d3669047ac17a37bb6e5d365707b4334af70c656d4219142dd4c17e5", func := "baggage/baggagelaw28.LoadplanChooses", spec := "loadplanChooses", inPlace := ["internal/reflectlite.ValueOf", "internal/reflectlite.Swapper", "(internal/reflectlite.Value).Len"], unfollowed := true, recurses := true, plainKeys := false, apart := false, narrowed := true }
def LoadplanChoosesUptoSaid : Prop := loadplanChoosesUptoRow.holds Tryz.pinned (OpenSpec.upto loadplanChoosesSpec)

/-- 'baggagelaw28.LoadplanAssigns', WHERE WHAT IT READS IS OF BULK AT MOST 1048576: true; the input reads as it did. -/
def loadplanAssignsUptoRow : OpenClaim := { program := "ytmdohphcolffmaagreat", sum := "1b17ba50d3669047ac17a37bb6e5d365707b4334af70c656d4219142dd4c17e5", func := "baggage/baggagelaw28.LoadplanAssigns", spec := "loadplanAssigns", inPlace := ["internal/reflectlite.ValueOf", "internal/reflectlite.Swapper", "(internal/reflectlite.Value).Len"], unfollowed := true, recurses := true, plainKeys := false, apart := false, narrowed := true }
def LoadplanAssignsUptoSaid : Prop := loadplanAssignsUptoRow.holds Tryz.pinned (OpenSpec.upto loadplanAssignsSpec)

end Rows
end Go.Proofs.YtmdohphcolffmaaGreat
