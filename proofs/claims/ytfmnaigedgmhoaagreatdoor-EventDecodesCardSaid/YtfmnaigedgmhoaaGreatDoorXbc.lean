import Derived.Test.YtfmnaigedgmhoaaGreatDoorXbb
import Derived.Shelf.SlSortFuncK.SWK
import Derived.Test.YtfmnaigedgmhoaaGreatDoorProg
import Derived.KernelRfl
import Derived.Laws.StructEq
import Derived.Laws.IdiomStrings
import Derived.Laws.BytesArg
namespace Go.Proofs.YtfmnaigedgmhoaaGreatDoor
open Go.RowKit
set_option linter.unusedSimpArgs false
set_option linter.unusedVariables false
section
variable {C : Cx} {o : Oper} {ev : Operand → AV} {T : Sl}
end
section
variable {C : Cx} {T : Sl} {S : Nat → Prop} {vals : List Value} {bss : List (List Nat)} {w : World}
variable {o : Oper} {ev : Operand → AV}
end
end Go.Proofs.YtfmnaigedgmhoaaGreatDoor
namespace Go.Proofs.YtfmnaigedgmhoaaGreatDoor
open Go.RowKit
set_option linter.unusedSimpArgs false
set_option linter.unusedVariables false
section
variable {C : Cx} {T : Sl} {S : Nat → Prop} {vals : List Value} {bss : List (List Nat)} {w : World} {o : Oper} {ev : Operand → AV}
/-- What an argument is seen as while a named slice is lent for reading. -/
inductive ViewN (T : Sl) (r k : Nat) (u : Value) (e : TypeId) (es : List (List AV)) : AV → AV → Prop
  | base {y x} (h : View T true y x) : ViewN T r k u e es y x
  | up {f : FuncId} {c : AV} (hc : nref1 c = true) : ViewN T r k u e es (.agg [.clo f [.rop [.v u]], c]) (.agg [.clo f [.rop [.ro es]], c])
end
section
open Go.Sort
variable {α : Type} {enc : α → List Value} {k : Nat}
def rowK (enc : α → List Value) (x : α) : List AV := (enc x).map .v
variable [Inhabited α]
end
section
open Go.Sort
variable {C : Cx} {o : Oper} {ev : Operand → AV} {T : Sl} {α : Type} [Inhabited α] {enc : α → List Value} {k : Nat}
end
end Go.Proofs.YtfmnaigedgmhoaaGreatDoor
namespace Go.Proofs.YtfmnaigedgmhoaaGreatDoor
open Go.RowKit
set_option linter.unusedSimpArgs false
set_option linter.unusedVariables false
section
variable {C : Cx} {o : Oper} {ev : Operand → AV} {T : Sl} {t yt : TypeId} {p q : Operand} {k k' : IntKind} {x y z : Int}
theorem op_shl (ho : o.op = .binOp .shl t p q yt) (hp : ev p = .v (.int k x)) (hq : ev q = .v (.int k' y)) (h0 : 0 ≤ y) (hz : k.wrap (x * 2 ^ (min y.toNat k.bits)) = z) : OpP C o ev T (.v (.int k z)) :=
  op_bin ho hp hq (fun w => by unfold eqGuard; simp) (fun w => by simp [binOp, Op.shift, hz, show ¬ y < 0 by omega]) rfl
theorem op_or (ho : o.op = .binOp .or t p q yt) (hp : ev p = .v (.int k x)) (hq : ev q = .v (.int k y)) (hz : k.wrap ((BitVec.ofInt k.bits x ||| BitVec.ofInt k.bits y).toNat) = z) : OpP C o ev T (.v (.int k z)) :=
  op_bin ho hp hq (eqGuard_int _ _ _ _ _ _ _) (fun w => by simp only [binOp, Op.intBits, hz, ne_eq, not_true_eq_false, if_false]; rfl) rfl
end
theorem nat_or (k a b : Nat) (ha : a % 2 ^ k = 0) (hb : b < 2 ^ k) : a ||| b = a + b := by
  have h := Nat.two_pow_add_eq_or_of_lt hb (a / 2 ^ k)
  have e : 2 ^ k * (a / 2 ^ k) = a := Nat.mul_div_cancel' (Nat.dvd_of_mod_eq_zero ha)
  rw [e] at h
  exact h.symm
theorem ofInt_nat (a : Nat) (ha : a < 9223372036854775808) : (BitVec.ofInt 64 (a : Int)).toNat = a := by
  rw [BitVec.ofInt_natCast, BitVec.toNat_ofNat]; exact Nat.mod_eq_of_lt (by omega)
theorem or_add (k a b : Nat) (ha : a % 2 ^ k = 0) (hb : b < 2 ^ k) (h : a + b < 9223372036854775808) : IntKind.i64.wrap ((BitVec.ofInt IntKind.i64.bits (a : Int) ||| BitVec.ofInt IntKind.i64.bits (b : Int)).toNat) = ((a + b : Nat) : Int) := by
  show IntKind.i64.wrap ((BitVec.ofInt 64 (a : Int) ||| BitVec.ofInt 64 (b : Int)).toNat) = _
  rw [BitVec.toNat_or, ofInt_nat a (by omega), ofInt_nat b (by omega), nat_or k a b ha hb, IntKind.wrap_i64]
  omega
end Go.Proofs.YtfmnaigedgmhoaaGreatDoor
namespace Go.Proofs.YtfmnaigedgmhoaaGreatDoor
open Go.RowKit
set_option linter.unusedSimpArgs false
set_option linter.unusedVariables false
set_option maxRecDepth 100000
theorem sz2 : sizeIs Tryz.prog 2 1 := by unfold sizeIs; kernel_rfl
theorem sz3 : sizeIs Tryz.prog 3 1 := by unfold sizeIs; kernel_rfl
theorem ag3 : aggB Tryz.prog 3 = some false := by kernel_rfl
theorem ze3 : zeroIs Tryz.prog 3 (.int .i64 0) 1 8 := ⟨by kernel_rfl, rfl, by simp [Value.cells, Value.oneCell']⟩
theorem sz4 : sizeIs Tryz.prog 4 1 := by unfold sizeIs; kernel_rfl
theorem ag4 : aggB Tryz.prog 4 = some false := by kernel_rfl
theorem sz5 : sizeIs Tryz.prog 5 1 := by unfold sizeIs; kernel_rfl
theorem ag5 : aggB Tryz.prog 5 = some false := by kernel_rfl
theorem ze5 : zeroIs Tryz.prog 5 (.int .u8 0) 1 1 := ⟨by kernel_rfl, rfl, by simp [Value.cells, Value.oneCell']⟩
theorem sz9 : sizeIs Tryz.prog 9 1 := by unfold sizeIs; kernel_rfl
theorem ag9 : aggB Tryz.prog 9 = some false := by kernel_rfl
theorem ze9 : zeroIs Tryz.prog 9 (.string ⟨#[]⟩) 1 16 := ⟨by kernel_rfl, rfl, by simp [Value.cells, Value.oneCell']⟩
theorem sz22 : sizeIs Tryz.prog 22 1 := by unfold sizeIs; kernel_rfl
theorem ag22 : aggB Tryz.prog 22 = some false := by kernel_rfl
theorem ze22 : zeroIs Tryz.prog 22 (.slice none 0 0) 1 24 := ⟨by kernel_rfl, rfl, by simp [Value.cells, Value.oneCell']⟩
theorem sz23 : sizeIs Tryz.prog 23 1 := by unfold sizeIs; kernel_rfl
theorem ag23 : aggB Tryz.prog 23 = some false := by kernel_rfl
theorem sz30 : sizeIs Tryz.prog 30 3 := by unfold sizeIs; kernel_rfl
theorem ag30 : aggB Tryz.prog 30 = some true := by kernel_rfl
theorem ze30 : zeroIs Tryz.prog 30 (.agg #[.int .i64 0, .int .i64 0, .int .i64 0]) 3 24 := ⟨by kernel_rfl, rfl, by simp [Value.cells, Value.oneCell']⟩
theorem fl30_0 : fieldIs Tryz.prog 30 0 0 3 := ⟨_, _, Tryz.underlying30, rfl, rfl, rfl⟩
theorem fl30_1 : fieldIs Tryz.prog 30 1 1 3 := ⟨_, _, Tryz.underlying30, rfl, rfl, rfl⟩
theorem fl30_2 : fieldIs Tryz.prog 30 2 2 3 := ⟨_, _, Tryz.underlying30, rfl, rfl, rfl⟩
theorem sz31 : sizeIs Tryz.prog 31 1 := by unfold sizeIs; kernel_rfl
theorem ag31 : aggB Tryz.prog 31 = some false := by kernel_rfl
theorem sz33 : sizeIs Tryz.prog 33 4 := by unfold sizeIs; kernel_rfl
theorem ag33 : aggB Tryz.prog 33 = some true := by kernel_rfl
theorem ze33 : zeroIs Tryz.prog 33 (.agg #[.string ⟨#[]⟩, .int .i64 0, .string ⟨#[]⟩, .int .i64 0]) 4 48 := ⟨by kernel_rfl, rfl, by simp [Value.cells, Value.oneCell']⟩
theorem fl33_0 : fieldIs Tryz.prog 33 0 0 9 := ⟨_, _, Tryz.underlying33, rfl, rfl, rfl⟩
theorem fl33_1 : fieldIs Tryz.prog 33 1 1 3 := ⟨_, _, Tryz.underlying33, rfl, rfl, rfl⟩
theorem fl33_2 : fieldIs Tryz.prog 33 2 2 9 := ⟨_, _, Tryz.underlying33, rfl, rfl, rfl⟩
theorem fl33_3 : fieldIs Tryz.prog 33 3 3 3 := ⟨_, _, Tryz.underlying33, rfl, rfl, rfl⟩
theorem sz35 : sizeIs Tryz.prog 35 6 := by unfold sizeIs; kernel_rfl
theorem ag35 : aggB Tryz.prog 35 = some true := by kernel_rfl
theorem ze35 : zeroIs Tryz.prog 35 (.agg #[.int .i64 0, .int .i64 0, .string ⟨#[]⟩, .int .i64 0, .string ⟨#[]⟩, .int .i64 0]) 6 64 := ⟨by kernel_rfl, rfl, by simp [Value.cells, Value.oneCell']⟩
theorem fl35_0 : fieldIs Tryz.prog 35 0 0 3 := ⟨_, _, Tryz.underlying35, rfl, rfl, rfl⟩
theorem fl35_1 : fieldIs Tryz.prog 35 1 1 3 := ⟨_, _, Tryz.underlying35, rfl, rfl, rfl⟩
theorem fl35_2 : fieldIs Tryz.prog 35 2 2 33 := ⟨_, _, Tryz.underlying35, rfl, rfl, rfl⟩
theorem sz37 : sizeIs Tryz.prog 37 5 := by unfold sizeIs; kernel_rfl
theorem ag37 : aggB Tryz.prog 37 = some true := by kernel_rfl
theorem ze37 : zeroIs Tryz.prog 37 (.agg #[.int .i64 0, .int .i64 0, .int .i64 0, .int .i64 0, .int .i64 0]) 5 40 := ⟨by kernel_rfl, rfl, by simp [Value.cells, Value.oneCell']⟩
theorem fl37_0 : fieldIs Tryz.prog 37 0 0 30 := ⟨_, _, Tryz.underlying37, rfl, rfl, rfl⟩
theorem fl37_1 : fieldIs Tryz.prog 37 1 3 3 := ⟨_, _, Tryz.underlying37, rfl, rfl, rfl⟩
theorem fl37_2 : fieldIs Tryz.prog 37 2 4 3 := ⟨_, _, Tryz.underlying37, rfl, rfl, rfl⟩
theorem sz39 : sizeIs Tryz.prog 39 10 := by unfold sizeIs; kernel_rfl
theorem ag39 : aggB Tryz.prog 39 = some true := by kernel_rfl
theorem ze39 : zeroIs Tryz.prog 39 (.agg #[.int .i64 0, .int .i64 0, .int .i64 0, .int .i64 0, .int .i64 0, .int .i64 0, .int .i64 0, .int .i64 0, .int .i64 0, .int .i64 0]) 10 80 := ⟨by kernel_rfl, rfl, by simp [Value.cells, Value.oneCell']⟩
theorem fl39_0 : fieldIs Tryz.prog 39 0 0 3 := ⟨_, _, Tryz.underlying39, rfl, rfl, rfl⟩
theorem fl39_1 : fieldIs Tryz.prog 39 1 1 3 := ⟨_, _, Tryz.underlying39, rfl, rfl, rfl⟩
theorem fl39_2 : fieldIs Tryz.prog 39 2 2 3 := ⟨_, _, Tryz.underlying39, rfl, rfl, rfl⟩
theorem fl39_3 : fieldIs Tryz.prog 39 3 3 3 := ⟨_, _, Tryz.underlying39, rfl, rfl, rfl⟩
theorem fl39_4 : fieldIs Tryz.prog 39 4 4 3 := ⟨_, _, Tryz.underlying39, rfl, rfl, rfl⟩
theorem fl39_5 : fieldIs Tryz.prog 39 5 5 37 := ⟨_, _, Tryz.underlying39, rfl, rfl, rfl⟩
theorem sz40 : sizeIs Tryz.prog 40 1 := by unfold sizeIs; kernel_rfl
theorem ag40 : aggB Tryz.prog 40 = some false := by kernel_rfl
theorem sz42 : sizeIs Tryz.prog 42 32 := by unfold sizeIs; kernel_rfl
theorem ag42 : aggB Tryz.prog 42 = some true := by kernel_rfl
theorem ze42 : zeroIs Tryz.prog 42 (.agg #[.int .i64 0, .int .i64 0, .string ⟨#[]⟩, .int .i64 0, .int .i64 0, .int .i64 0, .int .i64 0, .int .i64 0, .bool false, .slice none 0 0, .int .i64 0, .int .i64 0, .string ⟨#[]⟩, .int .i64 0, .string ⟨#[]⟩, .int .i64 0, .int .i64 0, .int .i64 0, .int .i64 0, .int .i64 0, .int .i64 0, .int .i64 0, .int .i64 0, .int .i64 0, .int .i64 0, .int .i64 0, .int .i64 0, .slice none 0 0, .string ⟨#[]⟩, .int .i64 0, .string ⟨#[]⟩, .int .i64 0]) 32 328 := ⟨by kernel_rfl, rfl, by simp [Value.cells, Value.oneCell']⟩
theorem fl42_0 : fieldIs Tryz.prog 42 0 0 3 := ⟨_, _, Tryz.underlying42, rfl, rfl, rfl⟩
theorem fl42_1 : fieldIs Tryz.prog 42 1 1 3 := ⟨_, _, Tryz.underlying42, rfl, rfl, rfl⟩
theorem fl42_2 : fieldIs Tryz.prog 42 2 2 9 := ⟨_, _, Tryz.underlying42, rfl, rfl, rfl⟩
theorem fl42_3 : fieldIs Tryz.prog 42 3 3 30 := ⟨_, _, Tryz.underlying42, rfl, rfl, rfl⟩
theorem fl42_4 : fieldIs Tryz.prog 42 4 6 3 := ⟨_, _, Tryz.underlying42, rfl, rfl, rfl⟩
theorem fl42_5 : fieldIs Tryz.prog 42 5 7 3 := ⟨_, _, Tryz.underlying42, rfl, rfl, rfl⟩
theorem fl42_6 : fieldIs Tryz.prog 42 6 8 4 := ⟨_, _, Tryz.underlying42, rfl, rfl, rfl⟩
theorem fl42_7 : fieldIs Tryz.prog 42 7 9 31 := ⟨_, _, Tryz.underlying42, rfl, rfl, rfl⟩
theorem fl42_8 : fieldIs Tryz.prog 42 8 10 35 := ⟨_, _, Tryz.underlying42, rfl, rfl, rfl⟩
theorem fl42_9 : fieldIs Tryz.prog 42 9 16 3 := ⟨_, _, Tryz.underlying42, rfl, rfl, rfl⟩
theorem fl42_10 : fieldIs Tryz.prog 42 10 17 39 := ⟨_, _, Tryz.underlying42, rfl, rfl, rfl⟩
theorem fl42_11 : fieldIs Tryz.prog 42 11 27 40 := ⟨_, _, Tryz.underlying42, rfl, rfl, rfl⟩
theorem fl42_12 : fieldIs Tryz.prog 42 12 28 33 := ⟨_, _, Tryz.underlying42, rfl, rfl, rfl⟩
theorem sz53 : sizeIs Tryz.prog 53 2 := by unfold sizeIs; kernel_rfl
theorem ze53 : zeroIs Tryz.prog 53 (.agg #[.slice none 0 0, .int .i64 0]) 2 32 := ⟨by kernel_rfl, rfl, by simp [Value.cells, Value.oneCell']⟩
theorem fl53_0 : fieldIs Tryz.prog 53 0 0 23 := ⟨_, _, Tryz.underlying53, rfl, rfl, rfl⟩
theorem fl53_1 : fieldIs Tryz.prog 53 1 1 3 := ⟨_, _, Tryz.underlying53, rfl, rfl, rfl⟩
theorem sz60 : sizeIs Tryz.prog 60 3 := by unfold sizeIs; kernel_rfl
theorem ag60 : aggB Tryz.prog 60 = some true := by kernel_rfl
theorem ze60 : zeroIs Tryz.prog 60 (.agg #[.int .i64 0, .bool false, .string ⟨#[]⟩]) 3 32 := ⟨by kernel_rfl, rfl, by simp [Value.cells, Value.oneCell']⟩
theorem fl60_0 : fieldIs Tryz.prog 60 0 0 3 := ⟨_, _, Tryz.underlying60, rfl, rfl, rfl⟩
theorem fl60_1 : fieldIs Tryz.prog 60 1 1 4 := ⟨_, _, Tryz.underlying60, rfl, rfl, rfl⟩
theorem fl60_2 : fieldIs Tryz.prog 60 2 2 9 := ⟨_, _, Tryz.underlying60, rfl, rfl, rfl⟩
theorem sz73 : sizeIs Tryz.prog 73 34 := by unfold sizeIs; kernel_rfl
theorem ze73 : zeroIs Tryz.prog 73 (.agg #[.slice none 0 0, .int .i64 0, .int .i64 0, .string ⟨#[]⟩, .int .i64 0, .int .i64 0, .int .i64 0, .int .i64 0, .int .i64 0, .bool false, .slice none 0 0, .int .i64 0, .int .i64 0, .string ⟨#[]⟩, .int .i64 0, .string ⟨#[]⟩, .int .i64 0, .int .i64 0, .int .i64 0, .int .i64 0, .int .i64 0, .int .i64 0, .int .i64 0, .int .i64 0, .int .i64 0, .int .i64 0, .int .i64 0, .int .i64 0, .slice none 0 0, .string ⟨#[]⟩, .int .i64 0, .string ⟨#[]⟩, .int .i64 0, .bool false]) 34 360 := ⟨by kernel_rfl, rfl, by simp [Value.cells, Value.oneCell']⟩
theorem fl73_0 : fieldIs Tryz.prog 73 0 0 22 := ⟨_, _, Tryz.underlying73, rfl, rfl, rfl⟩
theorem fl73_1 : fieldIs Tryz.prog 73 1 1 42 := ⟨_, _, Tryz.underlying73, rfl, rfl, rfl⟩
theorem fl73_2 : fieldIs Tryz.prog 73 2 33 4 := ⟨_, _, Tryz.underlying73, rfl, rfl, rfl⟩
theorem sz75 : sizeIs Tryz.prog 75 12 := by unfold sizeIs; kernel_rfl
theorem ag75 : aggB Tryz.prog 75 = some true := by kernel_rfl
theorem ze75 : zeroIs Tryz.prog 75 (.agg #[.nilFunc, .nilFunc, .nilFunc, .nilFunc, .nilFunc, .nilFunc, .nilFunc, .nilFunc, .nilFunc, .nilFunc, .nilFunc, .nilFunc]) 12 96 := ⟨by kernel_rfl, rfl, by simp [Value.cells, Value.oneCell']⟩
theorem sz77 : sizeIs Tryz.prog 77 1 := by unfold sizeIs; kernel_rfl
theorem ag77 : aggB Tryz.prog 77 = some false := by kernel_rfl
theorem sz79 : sizeIs Tryz.prog 79 1 := by unfold sizeIs; kernel_rfl
theorem ag79 : aggB Tryz.prog 79 = some false := by kernel_rfl
theorem sz82 : sizeIs Tryz.prog 82 3 := by unfold sizeIs; kernel_rfl
theorem ze82 : zeroIs Tryz.prog 82 (.agg #[.slice none 0 0, .int .i64 0, .bool false]) 3 40 := ⟨by kernel_rfl, rfl, by simp [Value.cells, Value.oneCell']⟩
theorem fl82_0 : fieldIs Tryz.prog 82 0 0 22 := ⟨_, _, Tryz.underlying82, rfl, rfl, rfl⟩
theorem fl82_1 : fieldIs Tryz.prog 82 1 1 3 := ⟨_, _, Tryz.underlying82, rfl, rfl, rfl⟩
theorem fl82_2 : fieldIs Tryz.prog 82 2 2 4 := ⟨_, _, Tryz.underlying82, rfl, rfl, rfl⟩
theorem sz94 : sizeIs Tryz.prog 94 1 := by unfold sizeIs; kernel_rfl
theorem ze94 : zeroIs Tryz.prog 94 (.agg #[.slice none 0 0]) 1 24 := ⟨by kernel_rfl, rfl, by simp [Value.cells, Value.oneCell']⟩
theorem fl94_0 : fieldIs Tryz.prog 94 0 0 22 := ⟨_, _, Tryz.underlying94, rfl, rfl, rfl⟩
end Go.Proofs.YtfmnaigedgmhoaaGreatDoor
namespace Go.Proofs.YtfmnaigedgmhoaaGreatDoor
open Go.RowKit
set_option linter.unusedSimpArgs false
set_option linter.unusedVariables false
set_option maxRecDepth 100000
theorem mix : Tryz.prog.follows .mixedOrders = true := by kernel_rfl
theorem en10 : Enters Tryz.prog 10 := fun vs w => by kernel_rfl
theorem en29 : Enters Tryz.prog 29 := fun vs w => by kernel_rfl
theorem en30 : Enters Tryz.prog 30 := fun vs w => by kernel_rfl
theorem en31 : Enters Tryz.prog 31 := fun vs w => by kernel_rfl
theorem en32 : Enters Tryz.prog 32 := fun vs w => by kernel_rfl
theorem en33 : Enters Tryz.prog 33 := fun vs w => by kernel_rfl
theorem en34 : Enters Tryz.prog 34 := fun vs w => by kernel_rfl
theorem en55 : Enters Tryz.prog 55 := fun vs w => by kernel_rfl
theorem en4 : Enters Tryz.prog 4 := fun vs w => by kernel_rfl
theorem en6 : Enters Tryz.prog 6 := fun vs w => by kernel_rfl
theorem en37 : Enters Tryz.prog 37 := fun vs w => by kernel_rfl
theorem en36 : Enters Tryz.prog 36 := fun vs w => by kernel_rfl
theorem en5 : Enters Tryz.prog 5 := fun vs w => by kernel_rfl
theorem en28 : Enters Tryz.prog 28 := fun vs w => by kernel_rfl
theorem en13 : Enters Tryz.prog 13 := fun vs w => by kernel_rfl
theorem en68 : Enters Tryz.prog 68 := fun vs w => by kernel_rfl
theorem en11 : Enters Tryz.prog 11 := fun vs w => by kernel_rfl
theorem en12 : Enters Tryz.prog 12 := fun vs w => by kernel_rfl
theorem en9 : Enters Tryz.prog 9 := fun vs w => by kernel_rfl
theorem en7 : Enters Tryz.prog 7 := fun vs w => by kernel_rfl
theorem en8 : Enters Tryz.prog 8 := fun vs w => by kernel_rfl
theorem en20 : Enters Tryz.prog 20 := fun vs w => by kernel_rfl
theorem en21 : Enters Tryz.prog 21 := fun vs w => by kernel_rfl
theorem en22 : Enters Tryz.prog 22 := fun vs w => by kernel_rfl
theorem en23 : Enters Tryz.prog 23 := fun vs w => by kernel_rfl
theorem en24 : Enters Tryz.prog 24 := fun vs w => by kernel_rfl
theorem en56 : Enters Tryz.prog 56 := fun vs w => by kernel_rfl
theorem en14 : Enters Tryz.prog 14 := fun vs w => by kernel_rfl
theorem en15 : Enters Tryz.prog 15 := fun vs w => by kernel_rfl
theorem en16 : Enters Tryz.prog 16 := fun vs w => by kernel_rfl
theorem en17 : Enters Tryz.prog 17 := fun vs w => by kernel_rfl
theorem en18 : Enters Tryz.prog 18 := fun vs w => by kernel_rfl
theorem en19 : Enters Tryz.prog 19 := fun vs w => by kernel_rfl
theorem en26 : Enters Tryz.prog 26 := fun vs w => by kernel_rfl
theorem en53 : Enters Tryz.prog 53 := fun vs w => by kernel_rfl
theorem en54 : Enters Tryz.prog 54 := fun vs w => by kernel_rfl
theorem en38 : Enters Tryz.prog 38 := fun vs w => by kernel_rfl
theorem en90 : Enters Tryz.prog 90 := fun vs w => by kernel_rfl
theorem en91 : Enters Tryz.prog 91 := fun vs w => by kernel_rfl
theorem en35 : Enters Tryz.prog 35 := fun vs w => by kernel_rfl
theorem en27 : Enters Tryz.prog 27 := fun vs w => by kernel_rfl
theorem en25 : Enters Tryz.prog 25 := fun vs w => by kernel_rfl
theorem en39 : Enters Tryz.prog 39 := fun vs w => by kernel_rfl
theorem en40 : Enters Tryz.prog 40 := fun vs w => by kernel_rfl
theorem en77 : Enters Tryz.prog 77 := fun vs w => by kernel_rfl
theorem en78 : Enters Tryz.prog 78 := fun vs w => by kernel_rfl
theorem en79 : Enters Tryz.prog 79 := fun vs w => by kernel_rfl
theorem en80 : Enters Tryz.prog 80 := fun vs w => by kernel_rfl
theorem en81 : Enters Tryz.prog 81 := fun vs w => by kernel_rfl
theorem en82 : Enters Tryz.prog 82 := fun vs w => by kernel_rfl
theorem en83 : Enters Tryz.prog 83 := fun vs w => by kernel_rfl
theorem en84 : Enters Tryz.prog 84 := fun vs w => by kernel_rfl
theorem en85 : Enters Tryz.prog 85 := fun vs w => by kernel_rfl
theorem en69 : Enters Tryz.prog 69 := fun vs w => by kernel_rfl
theorem en70 : Enters Tryz.prog 70 := fun vs w => by kernel_rfl
theorem en71 : Enters Tryz.prog 71 := fun vs w => by kernel_rfl
theorem en72 : Enters Tryz.prog 72 := fun vs w => by kernel_rfl
theorem en73 : Enters Tryz.prog 73 := fun vs w => by kernel_rfl
theorem en74 : Enters Tryz.prog 74 := fun vs w => by kernel_rfl
theorem en75 : Enters Tryz.prog 75 := fun vs w => by kernel_rfl
theorem en76 : Enters Tryz.prog 76 := fun vs w => by kernel_rfl
theorem en57 : Enters Tryz.prog 57 := fun vs w => by kernel_rfl
theorem en58 : Enters Tryz.prog 58 := fun vs w => by kernel_rfl
theorem en59 : Enters Tryz.prog 59 := fun vs w => by kernel_rfl
theorem en60 : Enters Tryz.prog 60 := fun vs w => by kernel_rfl
theorem en61 : Enters Tryz.prog 61 := fun vs w => by kernel_rfl
theorem en41 : Enters Tryz.prog 41 := fun vs w => by kernel_rfl
theorem en42 : Enters Tryz.prog 42 := fun vs w => by kernel_rfl
theorem en43 : Enters Tryz.prog 43 := fun vs w => by kernel_rfl
theorem en44 : Enters Tryz.prog 44 := fun vs w => by kernel_rfl
theorem en45 : Enters Tryz.prog 45 := fun vs w => by kernel_rfl
theorem en46 : Enters Tryz.prog 46 := fun vs w => by kernel_rfl
theorem en47 : Enters Tryz.prog 47 := fun vs w => by kernel_rfl
theorem en48 : Enters Tryz.prog 48 := fun vs w => by kernel_rfl
theorem en49 : Enters Tryz.prog 49 := fun vs w => by kernel_rfl
theorem en50 : Enters Tryz.prog 50 := fun vs w => by kernel_rfl
theorem en51 : Enters Tryz.prog 51 := fun vs w => by kernel_rfl
theorem en52 : Enters Tryz.prog 52 := fun vs w => by kernel_rfl
theorem en98 : Enters Tryz.prog 98 := fun vs w => by kernel_rfl
theorem en92 : Enters Tryz.prog 92 := fun vs w => by kernel_rfl
theorem en93 : Enters Tryz.prog 93 := fun vs w => by kernel_rfl
theorem en94 : Enters Tryz.prog 94 := fun vs w => by kernel_rfl
theorem en95 : Enters Tryz.prog 95 := fun vs w => by kernel_rfl
theorem en96 : Enters Tryz.prog 96 := fun vs w => by kernel_rfl
theorem en97 : Enters Tryz.prog 97 := fun vs w => by kernel_rfl
theorem en86 : Enters Tryz.prog 86 := fun vs w => by kernel_rfl
theorem en87 : Enters Tryz.prog 87 := fun vs w => by kernel_rfl
theorem en88 : Enters Tryz.prog 88 := fun vs w => by kernel_rfl
theorem en62 : Enters Tryz.prog 62 := fun vs w => by kernel_rfl
theorem en63 : Enters Tryz.prog 63 := fun vs w => by kernel_rfl
theorem en64 : Enters Tryz.prog 64 := fun vs w => by kernel_rfl
theorem en65 : Enters Tryz.prog 65 := fun vs w => by kernel_rfl
theorem en66 : Enters Tryz.prog 66 := fun vs w => by kernel_rfl
theorem en67 : Enters Tryz.prog 67 := fun vs w => by kernel_rfl
theorem en101 : Enters Tryz.prog 101 := fun vs w => by kernel_rfl
theorem en102 : Enters Tryz.prog 102 := fun vs w => by kernel_rfl
theorem en103 : Enters Tryz.prog 103 := fun vs w => by kernel_rfl
theorem en99 : Enters Tryz.prog 99 := fun vs w => by kernel_rfl
theorem en100 : Enters Tryz.prog 100 := fun vs w => by kernel_rfl
theorem en89 : Enters Tryz.prog 89 := fun vs w => by kernel_rfl
theorem pl53 : plIs Tryz.prog 53 [(0, 1), (1, 1)] := ⟨_, Tryz.underlying53, by kernel_rfl⟩
theorem pl30 : plIs Tryz.prog 30 [(0, 1), (1, 1), (2, 1)] := ⟨_, Tryz.underlying30, by kernel_rfl⟩
theorem pl33 : plIs Tryz.prog 33 [(0, 1), (1, 1), (2, 1), (3, 1)] := ⟨_, Tryz.underlying33, by kernel_rfl⟩
theorem pl37 : plIs Tryz.prog 37 [(0, 3), (3, 1), (4, 1)] := ⟨_, Tryz.underlying37, by kernel_rfl⟩
theorem pl39 : plIs Tryz.prog 39 [(0, 1), (1, 1), (2, 1), (3, 1), (4, 1), (5, 5)] := ⟨_, Tryz.underlying39, by kernel_rfl⟩
theorem pl42 : plIs Tryz.prog 42 [(0, 1), (1, 1), (2, 1), (3, 3), (6, 1), (7, 1), (8, 1), (9, 1), (10, 6), (16, 1), (17, 10), (27, 1), (28, 4)] := ⟨_, Tryz.underlying42, by kernel_rfl⟩
theorem pl35 : plIs Tryz.prog 35 [(0, 1), (1, 1), (2, 4)] := ⟨_, Tryz.underlying35, by kernel_rfl⟩
theorem pl60 : plIs Tryz.prog 60 [(0, 1), (1, 1), (2, 1)] := ⟨_, Tryz.underlying60, by kernel_rfl⟩
theorem pl73 : plIs Tryz.prog 73 [(0, 1), (1, 32), (33, 1)] := ⟨_, Tryz.underlying73, by kernel_rfl⟩
theorem pl94 : plIs Tryz.prog 94 [(0, 1)] := ⟨_, Tryz.underlying94, by kernel_rfl⟩
end Go.Proofs.YtfmnaigedgmhoaaGreatDoor
namespace Go.Proofs.YtfmnaigedgmhoaaGreatDoor
open Go.RowKit
set_option linter.unusedSimpArgs false
set_option linter.unusedVariables false
set_option maxRecDepth 100000
def inB (n lo hi : Int) : Bool := decide (n ≥ lo) && decide (n ≤ hi)
def upB (c : UInt8) : Bool := decide ((c.toNat : Int) ≥ 65) && decide ((c.toNat : Int) ≤ 90)
def dgB (c : UInt8) : Bool := decide ((c.toNat : Int) ≥ 48) && decide ((c.toNat : Int) ≤ 57)
set_option maxHeartbeats 8000000 in
theorem C95 {n lo hi : Int} : Fn Tryz.prog 95 [] [.v (.int .i64 n), .v (.int .i64 lo), .v (.int .i64 hi)] [.v (.bool (inB n lo hi))] [] := by
  refine Spec.body Tryz.func95 rfl Tryz.ntmps95 (by simp) rfl ?_; intro S0 own0 v0 w0 gl
  (refine AW.seq_k ?_; intro K hK)
  refine AW.region ?_
  refine awP (op_assign rfl rfl) ?_; (try simp only [nA, Nat.reduceBEq, Nat.reduceEqDiff, ↓reduceIte, Nat.reduceAdd, Nat.reduceSub])
  refine AWL.nil ?_
  (refine hK _ ?_; clear hK K; (try simp only [nA, Nat.reduceBEq, Nat.reduceEqDiff, ↓reduceIte, Nat.reduceAdd, Nat.reduceSub]))
  (refine AW.seq_k ?_; intro K hK)
  refine AW.region (AWL.quiet ?_)
  refine aqP (op_move rfl rfl) ?_; (simp only [nA, ↓reduceIte])
  refine aqP (op_move rfl rfl) ?_; (simp only [nA, ↓reduceIte])
  refine aqP (op_geq rfl rfl rfl) ?_; (try simp only [nA, Nat.reduceBEq, Nat.reduceEqDiff, ↓reduceIte, Nat.reduceAdd, Nat.reduceSub])
  refine aqP (op_move rfl rfl) ?_; (simp only [nA])
  refine' aqAnd' [_, _, _] [11,12,13] rfl rfl rfl rfl rfl rfl rfl rfl rfl rfl rfl rfl (fun hb => ?_) ?_; rotate_left
  ·
   (try simp only [hcS] at hb)
   refine aqP (op_move rfl rfl) ?_; (simp only [nA, ↓reduceIte])
   refine aqP (op_move rfl rfl) ?_; (simp only [nA, ↓reduceIte])
   refine aqP (op_leq rfl rfl rfl) ?_; (try simp only [nA, Nat.reduceBEq, Nat.reduceEqDiff, ↓reduceIte, Nat.reduceAdd, Nat.reduceSub])
   (refine aqSeg rfl rfl rfl ?_; repeat (first | exact fun _ _ => rfl | refine upd_out rfl ?_))
  refine aqP (op_assign rfl rfl) ?_; (simp only [nA])
  refine AQ.nil ?_
  (refine hK _ ?_; clear hK K; (skip))
  skip
  refine AW.ret ?_; (try simp only [thenE, inBlk, Nat.reduceEqDiff, ↓reduceIte]); exact RQ.of0 rfl (.tmp (bl rfl) rfl rfl .nil)
set_option maxHeartbeats 8000000 in
theorem C101 {c : UInt8} : Fn Tryz.prog 101 [] [.v (.int .u8 c.toNat)] [.v (.bool (upB c))] [] := by
  refine Spec.body Tryz.func101 rfl Tryz.ntmps101 (by simp) rfl ?_; intro S0 own0 v0 w0 gl
  (refine AW.seq_k ?_; intro K hK)
  refine AW.region ?_
  refine awP (op_assign rfl rfl) ?_; (try simp only [nA, Nat.reduceBEq, Nat.reduceEqDiff, ↓reduceIte, Nat.reduceAdd, Nat.reduceSub])
  refine AWL.nil ?_
  (refine hK _ ?_; clear hK K; (try simp only [nA, Nat.reduceBEq, Nat.reduceEqDiff, ↓reduceIte, Nat.reduceAdd, Nat.reduceSub]))
  (refine AW.seq_k ?_; intro K hK)
  refine AW.region (AWL.quiet ?_)
  refine aqP (op_move rfl rfl) ?_; (simp only [nA, ↓reduceIte])
  refine aqP (op_geq rfl rfl rfl) ?_; (try simp only [nA, Nat.reduceBEq, Nat.reduceEqDiff, ↓reduceIte, Nat.reduceAdd, Nat.reduceSub])
  refine aqP (op_move rfl rfl) ?_; (simp only [nA])
  refine' aqAnd' [_, _] [6,7] rfl rfl rfl rfl rfl rfl rfl rfl rfl rfl rfl rfl (fun hb => ?_) ?_; rotate_left
  ·
   (try simp only [hcS] at hb)
   refine aqP (op_move rfl rfl) ?_; (simp only [nA, ↓reduceIte])
   refine aqP (op_leq rfl rfl rfl) ?_; (try simp only [nA, Nat.reduceBEq, Nat.reduceEqDiff, ↓reduceIte, Nat.reduceAdd, Nat.reduceSub])
   (refine aqSeg rfl rfl rfl ?_; repeat (first | exact fun _ _ => rfl | refine upd_out rfl ?_))
  refine aqP (op_assign rfl rfl) ?_; (simp only [nA])
  refine AQ.nil ?_
  (refine hK _ ?_; clear hK K; (skip))
  skip
  refine AW.ret ?_; (try simp only [thenE, inBlk, Nat.reduceEqDiff, ↓reduceIte]); exact RQ.of0 rfl (.tmp (bl rfl) rfl rfl .nil)
set_option maxHeartbeats 8000000 in
theorem C102 {c : UInt8} : Fn Tryz.prog 102 [] [.v (.int .u8 c.toNat)] [.v (.bool (dgB c))] [] := by
  refine Spec.body Tryz.func102 rfl Tryz.ntmps102 (by simp) rfl ?_; intro S0 own0 v0 w0 gl
  (refine AW.seq_k ?_; intro K hK)
  refine AW.region ?_
  refine awP (op_assign rfl rfl) ?_; (try simp only [nA, Nat.reduceBEq, Nat.reduceEqDiff, ↓reduceIte, Nat.reduceAdd, Nat.reduceSub])
  refine AWL.nil ?_
  (refine hK _ ?_; clear hK K; (try simp only [nA, Nat.reduceBEq, Nat.reduceEqDiff, ↓reduceIte, Nat.reduceAdd, Nat.reduceSub]))
  (refine AW.seq_k ?_; intro K hK)
  refine AW.region (AWL.quiet ?_)
  refine aqP (op_move rfl rfl) ?_; (simp only [nA, ↓reduceIte])
  refine aqP (op_geq rfl rfl rfl) ?_; (try simp only [nA, Nat.reduceBEq, Nat.reduceEqDiff, ↓reduceIte, Nat.reduceAdd, Nat.reduceSub])
  refine aqP (op_move rfl rfl) ?_; (simp only [nA])
  refine' aqAnd' [_, _] [6,7] rfl rfl rfl rfl rfl rfl rfl rfl rfl rfl rfl rfl (fun hb => ?_) ?_; rotate_left
  ·
   (try simp only [hcS] at hb)
   refine aqP (op_move rfl rfl) ?_; (simp only [nA, ↓reduceIte])
   refine aqP (op_leq rfl rfl rfl) ?_; (try simp only [nA, Nat.reduceBEq, Nat.reduceEqDiff, ↓reduceIte, Nat.reduceAdd, Nat.reduceSub])
   (refine aqSeg rfl rfl rfl ?_; repeat (first | exact fun _ _ => rfl | refine upd_out rfl ?_))
  refine aqP (op_assign rfl rfl) ?_; (simp only [nA])
  refine AQ.nil ?_
  (refine hK _ ?_; clear hK K; (skip))
  skip
  refine AW.ret ?_; (try simp only [thenE, inBlk, Nat.reduceEqDiff, ↓reduceIte]); exact RQ.of0 rfl (.tmp (bl rfl) rfl rfl .nil)
end Go.Proofs.YtfmnaigedgmhoaaGreatDoor
namespace Go.Proofs.YtfmnaigedgmhoaaGreatDoor
open Go.RowKit
set_option linter.unusedSimpArgs false
set_option linter.unusedVariables false
set_option maxRecDepth 100000
def chr (s : ByteArray) (i : Nat) : UInt8 := s.data.toList.getD i 0
theorem size_len (s : ByteArray) : s.data.toList.length = s.size := by show s.data.toList.length = s.data.size; simp
theorem get_chr {s : ByteArray} {i : Nat} (h : i < s.size) : s.data.toList[i]? = some (chr s i) := by
  unfold chr
  rw [List.getD_eq_getElem?_getD, List.getElem?_eq_getElem (by rw [size_len]; exact h)]
  rfl
theorem take_all {s : ByteArray} {f : UInt8 → Bool} {i : Nat} (h : i < s.size) : (s.data.toList.take (i + 1)).all f = ((s.data.toList.take i).all f && f (chr s i)) := by
  have h2 := get_chr h
  rw [List.take_add_one, h2]
  simp
theorem all_take {s : ByteArray} {f : UInt8 → Bool} {i : Nat} (h : ¬ i < s.size) : (s.data.toList.take i).all f = s.data.toList.all f := by
  rw [List.take_of_length_le (by rw [size_len]; omega)]
theorem all_no {s : ByteArray} {f : UInt8 → Bool} {i : Nat} (h : i < s.size) (hf : f (chr s i) = false) : s.data.toList.all f = false := by
  rw [List.all_eq_false]
  exact ⟨chr s i, List.mem_of_getElem? (get_chr h), by rw [hf]; simp⟩
set_option maxHeartbeats 8000000 in
theorem C103 {s : ByteArray} (hs : s.size ≤ 1000000) : Fn Tryz.prog 103 [] [.v (.string s), .v (.func (.func 101) #[] #[])] [.v (.bool (s.data.toList.all upB))] [] := by
  refine Spec.body Tryz.func103 rfl Tryz.ntmps103 (by simp) rfl ?_; intro S0 own0 v0 w0 gl
  (refine AW.seq_k ?_; intro K hK)
  refine AW.region ?_
  refine awP (op_assign rfl rfl) ?_; (try simp only [nA, Nat.reduceBEq, Nat.reduceEqDiff, ↓reduceIte, Nat.reduceAdd, Nat.reduceSub])
  refine AWL.nil ?_
  (refine hK _ ?_; clear hK K; (try simp only [nA, Nat.reduceBEq, Nat.reduceEqDiff, ↓reduceIte, Nat.reduceAdd, Nat.reduceSub]))
  (refine AW.seq_k ?_; intro K hK)
  (refine AW.seq_k ?_; intro K hK)
  refine AW.region ?_
  refine awP (op_move rfl rfl) ?_; (simp only [nA, ↓reduceIte])
  (refine awP (op_len_str rfl rfl Tryz.underlying9) ?_); (try simp only [nA, Nat.reduceBEq, Nat.reduceEqDiff, ↓reduceIte, Nat.reduceAdd, Nat.reduceSub])
  refine awP (op_move rfl rfl) ?_; (try simp only [nA, Nat.reduceBEq, Nat.reduceEqDiff, ↓reduceIte, Nat.reduceAdd, Nat.reduceSub])
  refine AWL.nil ?_
  (refine hK _ ?_; clear hK K; (skip))
  refine AW.block ?_
  refine AW.loopI (fun i => [(0, .v (.string s)), (1, .v (.func (.func 101) #[] #[])), (7, .v (.int .i64 s.size)), (8, .v (.int .i64 (i : Nat)))]) (fun _ => ⟨[], 1⟩) (fun i => i ≤ s.size ∧ (s.data.toList.take i).all upB = true) (fun i => s.size - i) 0 (by simp) ⟨rfl, rfl, rfl, rfl, trivial⟩ rfl ?_; intro i ρ hi; simp only [updL]
  (refine AW.seq_k ?_; intro K hK)
  refine AW.region ?_
  refine awP (op_lss rfl rfl rfl) ?_; (try simp only [nA, Nat.reduceBEq, Nat.reduceEqDiff, ↓reduceIte, Nat.reduceAdd, Nat.reduceSub])
  refine AWL.nil ?_
  (refine hK _ ?_; clear hK K; (skip))
  (refine AW.seq_k ?_; intro K hK)
  refine AW.cond rfl rfl rfl (fun hc => ?_) (fun hc => ?_)
  ·
   (try simp only [hcS] at hc); have hc1 := hc
   refine AW.skip ?_
   (refine hK _ ?_; clear hK K; (skip))
   (refine AW.seq_k ?_; intro K hK)
   refine AW.block ?_
   (refine AW.seq_k ?_; intro K hK)
   refine AW.region ?_
   refine awP (op_move rfl rfl) ?_; (simp only [nA, ↓reduceIte])
   refine awP (op_assign rfl rfl) ?_; (simp only [nA])
   refine AWL.nil ?_
   (refine hK _ ?_; clear hK K; (skip))
   (refine AW.seq_k ?_; intro K hK)
   refine AW.region ?_
   refine awP (op_move rfl rfl) ?_; (simp only [nA, ↓reduceIte])
   refine awP (op_move rfl rfl) ?_; (simp only [nA, ↓reduceIte])
   refine awP (op_move rfl rfl) ?_; (simp only [nA, ↓reduceIte])
   refine awP (op_ix_str _ rfl rfl rfl Tryz.underlying9 rfl (get_chr (by omega))) ?_; (try simp only [nA, Nat.reduceBEq, Nat.reduceEqDiff, ↓reduceIte, Nat.reduceAdd, Nat.reduceSub])
   refine awJ (OpQ.j (op_valQ (b := true) rfl rfl en101 C101 (RL.cons (by exact View.same rfl) (RL.nil)) rfl)) ?_; (try simp only [nA, Nat.reduceBEq, Nat.reduceEqDiff, ↓reduceIte, Nat.reduceAdd, Nat.reduceSub])
   refine awP (op_not rfl rfl rfl) ?_; (try simp only [nA, Nat.reduceBEq, Nat.reduceEqDiff, ↓reduceIte, Nat.reduceAdd, Nat.reduceSub])
   refine AWL.nil ?_
   (refine hK _ ?_; clear hK K; (skip))
   refine AW.cond rfl rfl rfl (fun hc => ?_) (fun hc => ?_)
   ·
    (try simp only [hcS] at hc); have hc2 := hc
    (refine AW.seq_k ?_; intro K hK)
    refine AW.region ?_
    refine awP (op_assign rfl rfl) ?_; (try simp only [nA, Nat.reduceBEq, Nat.reduceEqDiff, ↓reduceIte, Nat.reduceAdd, Nat.reduceSub])
    refine AWL.nil ?_
    (refine hK _ ?_; clear hK K; (skip))
    skip
    refine AW.ret ?_; (try simp only [thenE, inBlk, Nat.reduceEqDiff, ↓reduceIte]); rw [all_no (i := i) (by omega) hc]; exact RQ.of0 rfl (.tmp (bl rfl) rfl rfl .nil)
   (try simp only [hcS] at hc); have hc2 := hc
   refine AW.skip ?_
   (try simp only [thenE, inBlk, Nat.reduceEqDiff, ↓reduceIte])
   (refine hK _ ?_; clear hK K; (skip))
   refine AW.region ?_
   (refine awP (op_addi rfl rfl rfl (by omega)) ?_); (try simp only [nA, Nat.reduceBEq, Nat.reduceEqDiff, ↓reduceIte, Nat.reduceAdd, Nat.reduceSub])
   refine awP (op_move rfl rfl) ?_; (simp only [nA])
   skip
   refine AWL.nil ?_
   refine ⟨i + 1, ⟨by omega, by rw [take_all (by omega), hi.2]; simpa using hc⟩, by omega, ⟨rfl, rfl, rfl, rfl, trivial⟩, rfl, rfl⟩
  (try simp only [hcS] at hc); have hc1 := hc
  refine AW.exit ?_; (try simp only [thenE, inBlk, Nat.reduceEqDiff, ↓reduceIte])
  clear hK K
  (refine hK _ ?_; clear hK K; (skip))
  (refine AW.seq_k ?_; intro K hK)
  refine AW.region ?_
  refine awP (op_assign rfl rfl) ?_; (try simp only [nA, Nat.reduceBEq, Nat.reduceEqDiff, ↓reduceIte, Nat.reduceAdd, Nat.reduceSub])
  refine AWL.nil ?_
  (refine hK _ ?_; clear hK K; (skip))
  skip
  refine AW.ret ?_; (try simp only [thenE, inBlk, Nat.reduceEqDiff, ↓reduceIte]); rw [← all_take (i := i) (by omega), hi.2]; exact RQ.of0 rfl (.tmp (bl rfl) rfl rfl .nil)
end Go.Proofs.YtfmnaigedgmhoaaGreatDoor
namespace Go.Proofs.YtfmnaigedgmhoaaGreatDoor
open Go.RowKit
set_option linter.unusedSimpArgs false
set_option linter.unusedVariables false
set_option maxRecDepth 100000
def lettersB (s : ByteArray) (lo hi : Int) : Bool := (decide ((s.size : Int) ≥ lo) && decide ((s.size : Int) ≤ hi)) && s.data.toList.all upB
set_option maxHeartbeats 8000000 in
theorem C94 {s : ByteArray} {lo hi : Int} (h : hi ≤ 1000000) : Fn Tryz.prog 94 [] [.v (.string s), .v (.int .i64 lo), .v (.int .i64 hi)] [.v (.bool (lettersB s lo hi))] [] := by
  refine Spec.body Tryz.func94 rfl Tryz.ntmps94 (by simp) rfl ?_; intro S0 own0 v0 w0 gl
  (refine AW.seq_k ?_; intro K hK)
  refine AW.region ?_
  refine awP (op_assign rfl rfl) ?_
  refine AWL.nil ?_
  (refine hK _ ?_; clear hK K; (try simp only [nA, Nat.reduceBEq, Nat.reduceEqDiff, ↓reduceIte, Nat.reduceAdd, Nat.reduceSub]))
  (refine AW.seq_k ?_; intro K hK)
  refine AW.region (AWL.quiet ?_)
  refine aqP (op_move rfl rfl) ?_
  (refine aqP (op_len_str rfl rfl Tryz.underlying9) ?_)
  refine aqP (op_move rfl rfl) ?_
  refine aqP (op_geq rfl rfl rfl) ?_
  refine aqP (op_move rfl rfl) ?_
  refine' aqAnd' [_, _, _, _] [12,13,14,15] rfl rfl rfl rfl rfl rfl rfl rfl rfl rfl rfl rfl (fun hb => ?_) ?_; rotate_left
  ·
   (try simp only [hcS] at hb)
   refine aqP (op_move rfl rfl) ?_
   (refine aqP (op_len_str rfl rfl Tryz.underlying9) ?_)
   refine aqP (op_move rfl rfl) ?_
   refine aqP (op_leq rfl rfl rfl) ?_
   (refine aqSeg rfl rfl rfl ?_; repeat (first | exact fun _ _ => rfl | refine upd_out rfl ?_))
  simp only [nA, ↓reduceIte]
  refine aqP (op_move rfl rfl) ?_
  refine' aqAnd' [_, _] [18,19] rfl rfl rfl rfl rfl rfl rfl rfl rfl rfl rfl rfl (fun hb => ?_) ?_; rotate_left
  ·
   (try simp only [hcS] at hb)
   refine aqP (op_move rfl rfl) ?_
   refine aqQ (op_callQ (b := true) rfl en103 (C103 (s := s) (by omega)) (RL.cons (by exact View.same rfl) (RL.cons (by exact View.same rfl) (RL.nil))) rfl) ?_; (simp only [nA, Nat.reduceEqDiff, ↓reduceIte])
   (refine aqSeg rfl rfl rfl ?_; repeat (first | exact fun _ _ => rfl | refine upd_out rfl ?_))
  simp only [nA]
  refine aqP (op_assign rfl rfl) ?_
  refine AQ.nil ?_
  (refine hK _ ?_; clear hK K; (simp only [nA]))
  skip
  refine AW.ret ?_; (try simp only [thenE, inBlk, Nat.reduceEqDiff, ↓reduceIte]); exact RQ.of0 rfl (.tmp (bl rfl) rfl rfl .nil)
def carB (s : ByteArray) : Bool := decide (s.size = 2) && (s.data.toList.all (fun c => upB c || dgB c) && s.data.toList.any upB)
def cntB (s : ByteArray) (i : Nat) : Int := ((s.data.toList.take i).countP upB : Nat)
theorem cnt_yes {s : ByteArray} {i : Nat} (h : i < s.size) (hf : upB (chr s i) = true) : cntB s (i + 1) = cntB s i + 1 := by
  have h2 := get_chr h
  unfold cntB
  rw [List.take_add_one, h2]
  simp [hf]
theorem cnt_no {s : ByteArray} {i : Nat} (h : i < s.size) (hf : upB (chr s i) = false) : cntB s (i + 1) = cntB s i := by
  have h2 := get_chr h
  unfold cntB
  rw [List.take_add_one, h2]
  simp [hf]
theorem cnt_le {s : ByteArray} {i : Nat} (h : i ≤ s.size) : 0 ≤ cntB s i ∧ cntB s i ≤ i := by
  unfold cntB
  have := List.countP_le_length (p := upB) (l := s.data.toList.take i)
  have h3 : (s.data.toList.take i).length ≤ i := by simp; omega
  omega
theorem cnt_end {s : ByteArray} {i : Nat} (h : ¬ i < s.size) : decide (cntB s i > 0) = s.data.toList.any upB := by
  unfold cntB
  rw [List.take_of_length_le (by rw [size_len]; omega), Bool.eq_iff_iff, decide_eq_true_eq, List.any_eq_true]
  have := List.countP_pos_iff (p := upB) (l := s.data.toList)
  constructor
  · intro h; exact this.1 (by omega)
  intro h; have := this.2 h; omega
set_option maxHeartbeats 8000000 in
theorem C93 {s : ByteArray} : Fn Tryz.prog 93 [] [.v (.string s)] [.v (.bool (carB s))] [] := by
  refine Spec.body Tryz.func93 rfl Tryz.ntmps93 (by simp) rfl ?_; intro S0 own0 v0 w0 gl
  (refine AW.seq_k ?_; intro K hK)
  refine AW.region ?_
  refine awP (op_assign rfl rfl) ?_
  refine AWL.nil ?_
  (refine hK _ ?_; clear hK K; (try simp only [nA, Nat.reduceBEq, Nat.reduceEqDiff, ↓reduceIte, Nat.reduceAdd, Nat.reduceSub]))
  (refine AW.seq_k ?_; intro K hK)
  (refine AW.seq_k ?_; intro K hK)
  refine AW.region ?_
  refine awP (op_move rfl rfl) ?_
  (refine awP (op_len_str rfl rfl Tryz.underlying9) ?_)
  (refine awP (op_neq rfl rfl rfl) ?_)
  refine AWL.nil ?_
  (refine hK _ ?_; clear hK K; (simp only [nA, ↓reduceIte]))
  refine AW.cond rfl rfl rfl (fun hc => ?_) (fun hc => ?_)
  ·
   (try simp only [hcS] at hc); have hc1 := hc
   (refine AW.seq_k ?_; intro K hK)
   refine AW.region ?_
   refine awP (op_assign rfl rfl) ?_
   refine AWL.nil ?_
   (refine hK _ ?_; clear hK K; (try simp only [nA, Nat.reduceBEq, Nat.reduceEqDiff, ↓reduceIte, Nat.reduceAdd, Nat.reduceSub]))
   skip
   refine AW.ret ?_; (try simp only [thenE, inBlk, Nat.reduceEqDiff, ↓reduceIte]); rw [show carB s = false by unfold carB; rw [show decide (s.size = 2) = false by simp; omega]; rfl]; exact RQ.of0 rfl (.tmp (bl rfl) rfl rfl .nil)
  (try simp only [hcS] at hc); have hc1 := hc
  refine AW.skip ?_
  (refine hK _ ?_; clear hK K; (skip))
  (refine AW.seq_k ?_; intro K hK)
  refine AW.region ?_
  refine awP (op_assign rfl rfl) ?_
  refine AWL.nil ?_
  (refine hK _ ?_; clear hK K; (try simp only [nA, Nat.reduceBEq, Nat.reduceEqDiff, ↓reduceIte, Nat.reduceAdd, Nat.reduceSub]))
  (refine AW.seq_k ?_; intro K hK)
  (refine AW.seq_k ?_; intro K hK)
  refine AW.region ?_
  refine awP (op_move rfl rfl) ?_
  (refine awP (op_len_str rfl rfl Tryz.underlying9) ?_)
  refine awP (op_move rfl rfl) ?_
  refine AWL.nil ?_
  (refine hK _ ?_; clear hK K; (simp only [nA, ↓reduceIte]))
  refine AW.block ?_
  refine AW.loopI (fun i => [(0, .v (.string s)), (3, .v (.int .i64 (cntB s i))), (9, .v (.int .i64 s.size)), (10, .v (.int .i64 (i : Nat)))]) (fun _ => ⟨[], 1⟩) (fun i => i ≤ s.size ∧ (s.data.toList.take i).all (fun c => upB c || dgB c) = true) (fun i => s.size - i) 0 (by simp) ⟨rfl, rfl, rfl, rfl, trivial⟩ rfl ?_; intro i ρ hi; simp only [updL]; have hcl := cnt_le (s := s) hi.1
  (refine AW.seq_k ?_; intro K hK)
  refine AW.region ?_
  refine awP (op_lss rfl rfl rfl) ?_
  refine AWL.nil ?_
  (refine hK _ ?_; clear hK K; (try simp only [nA, Nat.reduceBEq, Nat.reduceEqDiff, ↓reduceIte, Nat.reduceAdd, Nat.reduceSub]))
  (refine AW.seq_k ?_; intro K hK)
  refine AW.cond rfl rfl rfl (fun hc => ?_) (fun hc => ?_)
  ·
   (try simp only [hcS] at hc); have hc2 := hc
   refine AW.skip ?_
   (refine hK _ ?_; clear hK K; (skip))
   (refine AW.seq_k ?_; intro K hK)
   refine AW.block ?_
   (refine AW.seq_k ?_; intro K hK)
   refine AW.region ?_
   refine awP (op_move rfl rfl) ?_
   refine awP (op_assign rfl rfl) ?_
   refine AWL.nil ?_
   (refine hK _ ?_; clear hK K; (simp only [nA, ↓reduceIte]))
   refine AW.block ?_
   (refine AW.seq_k ?_; intro K hK)
   refine AW.region ?_
   refine awP (op_move rfl rfl) ?_
   refine awP (op_move rfl rfl) ?_
   refine awP (op_ix_str _ rfl rfl rfl Tryz.underlying9 rfl (get_chr (by omega))) ?_
   refine awJ (OpQ.j (op_callQ (b := true) rfl en101 (C101) (RL.cons (by exact View.same rfl) (RL.nil)) rfl)) ?_; (simp only [nA, ↓reduceIte])
   refine awP (op_assign rfl rfl) ?_
   refine AWL.nil ?_
   (refine hK _ ?_; clear hK K; (simp only [nA]))
   refine AW.cond rfl rfl rfl (fun hc => ?_) (fun hc => ?_)
   ·
    (try simp only [hcS] at hc); have hc3 := hc
    refine AW.region ?_
    refine awP (op_move rfl rfl) ?_
    (refine awP (op_addi rfl rfl rfl (by omega)) ?_)
    refine awP (op_assign rfl rfl) ?_
    refine AWL.nil ?_
    (try simp only [thenE, inBlk, Nat.reduceEqDiff, ↓reduceIte])
    (try simp only [thenE, inBlk, Nat.reduceEqDiff, ↓reduceIte])
    (refine hK _ ?_; clear hK K; (simp only [nA, ↓reduceIte]))
    refine AW.region ?_
    (refine awP (op_addi rfl rfl rfl (by omega)) ?_)
    refine awP (op_move rfl rfl) ?_
    skip
    refine AWL.nil ?_
    refine ⟨i + 1, ⟨by omega, by rw [take_all (by omega), hi.2]; simp [hc]⟩, by omega, ⟨rfl, (by rw [cnt_yes (by omega) hc]; rfl), rfl, rfl, trivial⟩, rfl, rfl⟩
   (try simp only [hcS] at hc); have hc3 := hc
   (refine AW.seq_k ?_; intro K hK)
   refine AW.region ?_
   refine awP (op_move rfl rfl) ?_
   refine awP (op_move rfl rfl) ?_
   refine awP (op_ix_str _ rfl rfl rfl Tryz.underlying9 rfl (get_chr (by omega))) ?_
   refine awJ (OpQ.j (op_callQ (b := true) rfl en102 (C102) (RL.cons (by exact View.same rfl) (RL.nil)) rfl)) ?_; (simp only [nA, ↓reduceIte])
   refine awP (op_not rfl rfl rfl) ?_
   refine awP (op_assign rfl rfl) ?_
   refine AWL.nil ?_
   (refine hK _ ?_; clear hK K; (simp only [nA]))
   refine AW.cond rfl rfl rfl (fun hc => ?_) (fun hc => ?_)
   ·
    (try simp only [hcS] at hc); have hc4 := hc
    (refine AW.seq_k ?_; intro K hK)
    refine AW.region ?_
    refine awP (op_assign rfl rfl) ?_
    refine AWL.nil ?_
    (refine hK _ ?_; clear hK K; (try simp only [nA, Nat.reduceBEq, Nat.reduceEqDiff, ↓reduceIte, Nat.reduceAdd, Nat.reduceSub]))
    skip
    refine AW.ret ?_; (try simp only [thenE, inBlk, Nat.reduceEqDiff, ↓reduceIte]); rw [show carB s = false by unfold carB; rw [all_no (i := i) (by omega) (by rw [hc3, hc]; rfl)]; simp]; exact RQ.of0 rfl (.tmp (bl rfl) rfl rfl .nil)
   (try simp only [hcS] at hc); have hc4 := hc
   refine AW.skip ?_
   (try simp only [thenE, inBlk, Nat.reduceEqDiff, ↓reduceIte])
   (try simp only [thenE, inBlk, Nat.reduceEqDiff, ↓reduceIte])
   (refine hK _ ?_; clear hK K; (skip))
   refine AW.region ?_
   (refine awP (op_addi rfl rfl rfl (by omega)) ?_)
   refine awP (op_move rfl rfl) ?_
   skip
   refine AWL.nil ?_
   refine ⟨i + 1, ⟨by omega, by rw [take_all (by omega), hi.2]; simp [hc]⟩, by omega, ⟨rfl, (by rw [cnt_no (by omega) hc3]; rfl), rfl, rfl, trivial⟩, rfl, rfl⟩
  (try simp only [hcS] at hc); have hc2 := hc
  refine AW.exit ?_; (try simp only [thenE, inBlk, Nat.reduceEqDiff, ↓reduceIte])
  clear hK K
  (refine hK _ ?_; clear hK K; (skip))
  (refine AW.seq_k ?_; intro K hK)
  refine AW.region ?_
  refine awP (op_move rfl rfl) ?_
  refine awP (op_gtr rfl rfl rfl) ?_
  refine awP (op_assign rfl rfl) ?_
  refine AWL.nil ?_
  (refine hK _ ?_; clear hK K; (simp only [nA, ↓reduceIte]))
  skip
  refine AW.ret ?_; (try simp only [thenE, inBlk, Nat.reduceEqDiff, ↓reduceIte]); rw [show carB s = decide (cntB s i > 0) by unfold carB; rw [cnt_end (by omega), show decide (s.size = 2) = true by simp; omega, ← all_take (i := i) (by omega), hi.2]; rfl]; exact RQ.of0 rfl (.tmp (bl rfl) rfl rfl .nil)
def cmpI (a b : Int) : Int := if a < b then -1 else if a > b then 1 else 0
end Go.Proofs.YtfmnaigedgmhoaaGreatDoor
namespace Go.Proofs.YtfmnaigedgmhoaaGreatDoor
open Go.RowKit
set_option linter.unusedSimpArgs false
set_option linter.unusedVariables false
set_option maxRecDepth 100000
structure Plate where
  lead : Int
  airline : Int
  serial : Int
  deriving DecidableEq
structure Flight where
  carrier : ByteArray
  number : Int
  suffix : ByteArray
  day : Int
structure Piece where
  plate : Plate
  weight : Int
  category : Int
structure Container where
  number : Int
  flight : Flight
  categories : Int
  limit : Int
  most : Int
  position : Int
  arm : Int
  pieces : List Piece
abbrev Plate.av (p : Plate) : List AV := [.v (.int .i64 p.lead), .v (.int .i64 p.airline), .v (.int .i64 p.serial)]
abbrev Flight.av (f : Flight) : List AV := [.v (.string f.carrier), .v (.int .i64 f.number), .v (.string f.suffix), .v (.int .i64 f.day)]
abbrev Piece.av (p : Piece) : List AV := [.v (.int .i64 p.plate.lead), .v (.int .i64 p.plate.airline), .v (.int .i64 p.plate.serial), .v (.int .i64 p.weight), .v (.int .i64 p.category)]
abbrev Container.av (c : Container) : List AV := [.v (.int .i64 c.number), .v (.string c.flight.carrier), .v (.int .i64 c.flight.number), .v (.string c.flight.suffix), .v (.int .i64 c.flight.day), .v (.int .i64 c.categories), .v (.int .i64 c.limit), .v (.int .i64 c.most), .v (.int .i64 c.position), .v (.int .i64 c.arm), .ro (c.pieces.map Piece.av)]
def flB (f : Flight) : Bool := ((((carB f.carrier && decide (f.number ≥ 1)) && decide (f.number ≤ 9999)) && lettersB f.suffix 0 1) && decide (f.day ≥ 0)) && decide (f.day ≤ 99)
def plB (p : Plate) : Bool := ((((decide (p.lead ≥ 0) && decide (p.lead ≤ 9)) && decide (p.airline ≥ 1)) && decide (p.airline ≤ 999)) && decide (p.serial ≥ 0)) && decide (p.serial < 1000000)
set_option maxHeartbeats 8000000 in
theorem C73 {f : Flight} : Fn Tryz.prog 73 [] [.agg f.av] [.v (.bool (flB f))] [] := by
  refine Spec.body Tryz.func73 rfl Tryz.ntmps73 (by simp) rfl ?_; intro S0 own0 v0 w0 gl
  (refine AW.seq_k ?_; intro K hK)
  refine AW.region ?_
  refine awJ (op_box rfl rfl rfl sz33 rfl) ?_; (simp only [nA, Nat.reduceBEq, Nat.reduceEqDiff, ↓reduceIte])
  refine awP (op_assign rfl rfl) ?_
  refine AWL.nil ?_
  (refine hK _ ?_; clear hK K; (try simp only [nA, Nat.reduceBEq, Nat.reduceEqDiff, ↓reduceIte, Nat.reduceAdd, Nat.reduceSub]))
  (refine AW.seq_k ?_; intro K hK)
  refine AW.region (AWL.quiet ?_)
  (refine aqP (op_fa_ptr rfl rfl rfl fl33_0 (by exact sz9) (by decide) rfl) ?_)
  (refine aqR (op_load_ptr1 rfl rfl rfl rfl ag9 rfl rfl) ?_)
  refine aqQ (op_callQ (b := true) rfl en93 (C93) (RL.cons (by exact View.same rfl) (RL.nil)) rfl) ?_; (try simp only [nA, Nat.reduceBEq, Nat.reduceEqDiff, ↓reduceIte, Nat.reduceAdd, Nat.reduceSub])
  refine aqP (op_move rfl rfl) ?_
  refine' aqAnd' [_, _, _] [7,8,9] rfl rfl rfl rfl rfl rfl rfl rfl rfl rfl rfl rfl (fun hb => ?_) ?_; rotate_left
  ·
   (try simp only [hcS] at hb)
   (refine aqP (op_fa_ptr rfl rfl rfl fl33_1 (by exact sz3) (by decide) rfl) ?_)
   (refine aqR (op_load_ptr1 rfl rfl rfl rfl ag3 rfl rfl) ?_)
   refine aqP (op_geq rfl rfl rfl) ?_
   (refine aqSeg rfl rfl rfl ?_; repeat (first | exact fun _ _ => rfl | refine upd_out rfl ?_))
  simp only [nA]
  refine aqP (op_move rfl rfl) ?_
  refine' aqAnd' [_, _, _] [12,13,14] rfl rfl rfl rfl rfl rfl rfl rfl rfl rfl rfl rfl (fun hb => ?_) ?_; rotate_left
  ·
   (try simp only [hcS] at hb)
   (refine aqP (op_fa_ptr rfl rfl rfl fl33_1 (by exact sz3) (by decide) rfl) ?_)
   (refine aqR (op_load_ptr1 rfl rfl rfl rfl ag3 rfl rfl) ?_)
   refine aqP (op_leq rfl rfl rfl) ?_
   (refine aqSeg rfl rfl rfl ?_; repeat (first | exact fun _ _ => rfl | refine upd_out rfl ?_))
  simp only [nA]
  refine aqP (op_move rfl rfl) ?_
  refine' aqAnd' [_, _, _] [17,18,19] rfl rfl rfl rfl rfl rfl rfl rfl rfl rfl rfl rfl (fun hb => ?_) ?_; rotate_left
  ·
   (try simp only [hcS] at hb)
   (refine aqP (op_fa_ptr rfl rfl rfl fl33_2 (by exact sz9) (by decide) rfl) ?_)
   (refine aqR (op_load_ptr1 rfl rfl rfl rfl ag9 rfl rfl) ?_)
   refine aqQ (op_callQ (b := true) rfl en94 (C94 (lo := 0) (hi := 1) (by decide)) (RL.cons (by exact View.same rfl) (RL.cons (by exact View.same rfl) (RL.cons (by exact View.same rfl) (RL.nil)))) rfl) ?_; (simp only [nA])
   (refine aqSeg rfl rfl rfl ?_; repeat (first | exact fun _ _ => rfl | refine upd_out rfl ?_))
  simp only [nA]
  refine aqP (op_move rfl rfl) ?_
  refine' aqAnd' [_, _, _] [22,23,24] rfl rfl rfl rfl rfl rfl rfl rfl rfl rfl rfl rfl (fun hb => ?_) ?_; rotate_left
  ·
   (try simp only [hcS] at hb)
   (refine aqP (op_fa_ptr rfl rfl rfl fl33_3 (by exact sz3) (by decide) rfl) ?_)
   (refine aqR (op_load_ptr1 rfl rfl rfl rfl ag3 rfl rfl) ?_)
   refine aqP (op_geq rfl rfl rfl) ?_
   (refine aqSeg rfl rfl rfl ?_; repeat (first | exact fun _ _ => rfl | refine upd_out rfl ?_))
  simp only [nA]
  refine aqP (op_move rfl rfl) ?_
  refine' aqAnd' [_, _, _] [27,28,29] rfl rfl rfl rfl rfl rfl rfl rfl rfl rfl rfl rfl (fun hb => ?_) ?_; rotate_left
  ·
   (try simp only [hcS] at hb)
   (refine aqP (op_fa_ptr rfl rfl rfl fl33_3 (by exact sz3) (by decide) rfl) ?_)
   (refine aqR (op_load_ptr1 rfl rfl rfl rfl ag3 rfl rfl) ?_)
   refine aqP (op_leq rfl rfl rfl) ?_
   (refine aqSeg rfl rfl rfl ?_; repeat (first | exact fun _ _ => rfl | refine upd_out rfl ?_))
  simp only [nA]
  refine aqP (op_assign rfl rfl) ?_
  refine AQ.nil ?_
  (refine hK _ ?_; clear hK K; (simp only [nA]))
  skip
  refine AW.ret ?_; (try simp only [thenE, inBlk, Nat.reduceEqDiff, ↓reduceIte]); exact RQ.of0 rfl (.tmp (bl rfl) rfl rfl .nil)
set_option maxHeartbeats 8000000 in
theorem C69 {p : Plate} : Fn Tryz.prog 69 [] [.agg p.av] [.v (.bool (plB p))] [] := by
  refine Spec.body Tryz.func69 rfl Tryz.ntmps69 (by simp) rfl ?_; intro S0 own0 v0 w0 gl
  (refine AW.seq_k ?_; intro K hK)
  refine AW.region ?_
  refine awJ (op_box rfl rfl rfl sz30 rfl) ?_; (simp only [nA, Nat.reduceBEq, Nat.reduceEqDiff, ↓reduceIte])
  refine awP (op_assign rfl rfl) ?_
  refine AWL.nil ?_
  (refine hK _ ?_; clear hK K; (try simp only [nA, Nat.reduceBEq, Nat.reduceEqDiff, ↓reduceIte, Nat.reduceAdd, Nat.reduceSub]))
  (refine AW.seq_k ?_; intro K hK)
  refine AW.region (AWL.quiet ?_)
  (refine aqP (op_fa_ptr rfl rfl rfl fl30_0 (by exact sz3) (by decide) rfl) ?_)
  (refine aqR (op_load_ptr1 rfl rfl rfl rfl ag3 rfl rfl) ?_)
  refine aqP (op_geq rfl rfl rfl) ?_
  refine aqP (op_move rfl rfl) ?_
  refine' aqAnd' [_, _, _] [7,8,9] rfl rfl rfl rfl rfl rfl rfl rfl rfl rfl rfl rfl (fun hb => ?_) ?_; rotate_left
  ·
   (try simp only [hcS] at hb)
   (refine aqP (op_fa_ptr rfl rfl rfl fl30_0 (by exact sz3) (by decide) rfl) ?_)
   (refine aqR (op_load_ptr1 rfl rfl rfl rfl ag3 rfl rfl) ?_)
   refine aqP (op_leq rfl rfl rfl) ?_
   (refine aqSeg rfl rfl rfl ?_; repeat (first | exact fun _ _ => rfl | refine upd_out rfl ?_))
  simp only [nA]
  refine aqP (op_move rfl rfl) ?_
  refine' aqAnd' [_, _, _] [12,13,14] rfl rfl rfl rfl rfl rfl rfl rfl rfl rfl rfl rfl (fun hb => ?_) ?_; rotate_left
  ·
   (try simp only [hcS] at hb)
   (refine aqP (op_fa_ptr rfl rfl rfl fl30_1 (by exact sz3) (by decide) rfl) ?_)
   (refine aqR (op_load_ptr1 rfl rfl rfl rfl ag3 rfl rfl) ?_)
   refine aqP (op_geq rfl rfl rfl) ?_
   (refine aqSeg rfl rfl rfl ?_; repeat (first | exact fun _ _ => rfl | refine upd_out rfl ?_))
  simp only [nA]
  refine aqP (op_move rfl rfl) ?_
  refine' aqAnd' [_, _, _] [17,18,19] rfl rfl rfl rfl rfl rfl rfl rfl rfl rfl rfl rfl (fun hb => ?_) ?_; rotate_left
  ·
   (try simp only [hcS] at hb)
   (refine aqP (op_fa_ptr rfl rfl rfl fl30_1 (by exact sz3) (by decide) rfl) ?_)
   (refine aqR (op_load_ptr1 rfl rfl rfl rfl ag3 rfl rfl) ?_)
   refine aqP (op_leq rfl rfl rfl) ?_
   (refine aqSeg rfl rfl rfl ?_; repeat (first | exact fun _ _ => rfl | refine upd_out rfl ?_))
  simp only [nA]
  refine aqP (op_move rfl rfl) ?_
  refine' aqAnd' [_, _, _] [22,23,24] rfl rfl rfl rfl rfl rfl rfl rfl rfl rfl rfl rfl (fun hb => ?_) ?_; rotate_left
  ·
   (try simp only [hcS] at hb)
   (refine aqP (op_fa_ptr rfl rfl rfl fl30_2 (by exact sz3) (by decide) rfl) ?_)
   (refine aqR (op_load_ptr1 rfl rfl rfl rfl ag3 rfl rfl) ?_)
   refine aqP (op_geq rfl rfl rfl) ?_
   (refine aqSeg rfl rfl rfl ?_; repeat (first | exact fun _ _ => rfl | refine upd_out rfl ?_))
  simp only [nA]
  refine aqP (op_move rfl rfl) ?_
  refine' aqAnd' [_, _, _] [27,28,29] rfl rfl rfl rfl rfl rfl rfl rfl rfl rfl rfl rfl (fun hb => ?_) ?_; rotate_left
  ·
   (try simp only [hcS] at hb)
   (refine aqP (op_fa_ptr rfl rfl rfl fl30_2 (by exact sz3) (by decide) rfl) ?_)
   (refine aqR (op_load_ptr1 rfl rfl rfl rfl ag3 rfl rfl) ?_)
   refine aqP (op_lss rfl rfl rfl) ?_
   (refine aqSeg rfl rfl rfl ?_; repeat (first | exact fun _ _ => rfl | refine upd_out rfl ?_))
  simp only [nA]
  refine aqP (op_assign rfl rfl) ?_
  refine AQ.nil ?_
  (refine hK _ ?_; clear hK K; (simp only [nA]))
  skip
  refine AW.ret ?_; (try simp only [thenE, inBlk, Nat.reduceEqDiff, ↓reduceIte]); exact RQ.of0 rfl (.tmp (bl rfl) rfl rfl .nil)
end Go.Proofs.YtfmnaigedgmhoaaGreatDoor
namespace Go.Proofs.YtfmnaigedgmhoaaGreatDoor
open Go.RowKit
set_option linter.unusedSimpArgs false
set_option linter.unusedVariables false
set_option maxRecDepth 100000
theorem st30 : Tryz.prog.stoodInHeld 30 = false := by kernel_rfl
theorem fo30 : Tryz.prog.underlying 30 = some (.struct (Tryz.prog.fieldsOf 30)) := by
  unfold Program.fieldsOf; rw [Tryz.underlying30]
theorem ty30 : Tryz.prog.eqGuardType Tryz.prog.depth 30 = false := by kernel_rfl
section
variable {S0 : Nat → Prop} {own0 : List Nat} {v0 : List Value} {w0 : World} {gl : Glb Tryz.prog (fun k => S0 k ∧ k ∉ own0) w0} {o : Oper} {ev : Operand → AV} {T : Sl} {yt : TypeId} {y z : Operand} {p q : Plate}
end
end Go.Proofs.YtfmnaigedgmhoaaGreatDoor
namespace Go.Proofs.YtfmnaigedgmhoaaGreatDoor
open Go.RowKit
set_option linter.unusedSimpArgs false
set_option linter.unusedVariables false
set_option maxRecDepth 100000
def piB (p : Piece) : Bool := (plB p.plate && inB p.weight 1 999) && inB p.category 0 4
structure Op where
  time : Int
  device : Int
  seq : Int
  kind : Int
  cont : Int
  piece : Piece
abbrev Op.av (o : Op) : List AV := [.v (.int .i64 o.time), .v (.int .i64 o.device), .v (.int .i64 o.seq), .v (.int .i64 o.kind), .v (.int .i64 o.cont), .v (.int .i64 o.piece.plate.lead), .v (.int .i64 o.piece.plate.airline), .v (.int .i64 o.piece.plate.serial), .v (.int .i64 o.piece.weight), .v (.int .i64 o.piece.category)]
set_option maxHeartbeats 8000000 in
theorem C26 {n lo hi : Int} : Fn Tryz.prog 26 [] [.v (.int .i64 n), .v (.int .i64 lo), .v (.int .i64 hi)] [.v (.bool (inB n lo hi))] [] := by
  refine Spec.body Tryz.func26 rfl Tryz.ntmps26 (by simp) rfl ?_; intro S0 own0 v0 w0 gl
  (refine AW.seq_k ?_; intro K hK)
  refine AW.region ?_
  refine awP (op_assign rfl rfl) ?_
  refine AWL.nil ?_
  (refine hK _ ?_; clear hK K; (try simp only [nA, Nat.reduceBEq, Nat.reduceEqDiff, ↓reduceIte, Nat.reduceAdd, Nat.reduceSub]))
  (refine AW.seq_k ?_; intro K hK)
  refine AW.region (AWL.quiet ?_)
  refine aqP (op_move rfl rfl) ?_
  refine aqP (op_move rfl rfl) ?_
  refine aqP (op_geq rfl rfl rfl) ?_
  refine aqP (op_move rfl rfl) ?_
  refine' aqAnd' [_, _, _] [11,12,13] rfl rfl rfl rfl rfl rfl rfl rfl rfl rfl rfl rfl (fun hb => ?_) ?_; rotate_left
  ·
   (try simp only [hcS] at hb)
   refine aqP (op_move rfl rfl) ?_
   refine aqP (op_move rfl rfl) ?_
   refine aqP (op_leq rfl rfl rfl) ?_
   (refine aqSeg rfl rfl rfl ?_; repeat (first | exact fun _ _ => rfl | refine upd_out rfl ?_))
  simp only [nA, ↓reduceIte]
  refine aqP (op_assign rfl rfl) ?_
  refine AQ.nil ?_
  (refine hK _ ?_; clear hK K; (simp only [nA]))
  skip
  refine AW.ret ?_; (try simp only [thenE, inBlk, Nat.reduceEqDiff, ↓reduceIte]); exact RQ.of0 rfl (.tmp (bl rfl) rfl rfl .nil)
set_option maxHeartbeats 8000000 in
theorem C96 {p : Piece} : Fn Tryz.prog 96 [] [.agg p.av] [.v (.bool (piB p))] [] := by
  refine Spec.body Tryz.func96 rfl Tryz.ntmps96 (by simp) rfl ?_; intro S0 own0 v0 w0 gl
  (refine AW.seq_k ?_; intro K hK)
  refine AW.region ?_
  refine awJ (op_box rfl rfl rfl sz37 rfl) ?_; (simp only [nA, Nat.reduceBEq, Nat.reduceEqDiff, ↓reduceIte])
  refine awP (op_assign rfl rfl) ?_
  refine AWL.nil ?_
  (refine hK _ ?_; clear hK K; (try simp only [nA, Nat.reduceBEq, Nat.reduceEqDiff, ↓reduceIte, Nat.reduceAdd, Nat.reduceSub]))
  (refine AW.seq_k ?_; intro K hK)
  refine AW.region (AWL.quiet ?_)
  (refine aqP (op_fa_ptr rfl rfl rfl fl37_0 (by exact sz30) (by decide) rfl) ?_)
  (refine aqR (op_load_ptr rfl rfl rfl rfl ag30 sz30 (bl rfl) rfl) ?_)
  refine aqQ (op_callQ (b := true) rfl en69 (C69 (p := p.plate)) (RL.cons (by exact View.same rfl) (RL.nil)) rfl) ?_; (try simp only [nA, Nat.reduceBEq, Nat.reduceEqDiff, ↓reduceIte, Nat.reduceAdd, Nat.reduceSub])
  refine aqP (op_move rfl rfl) ?_
  refine' aqAnd' [_, _, _] [7,8,9] rfl rfl rfl rfl rfl rfl rfl rfl rfl rfl rfl rfl (fun hb => ?_) ?_; rotate_left
  ·
   (try simp only [hcS] at hb)
   (refine aqP (op_fa_ptr rfl rfl rfl fl37_1 (by exact sz3) (by decide) rfl) ?_)
   (refine aqR (op_load_ptr1 rfl rfl rfl rfl ag3 rfl rfl) ?_)
   refine aqQ (op_callQ (b := true) rfl en95 (C95) (RL.cons (by exact View.same rfl) (RL.cons (by exact View.same rfl) (RL.cons (by exact View.same rfl) (RL.nil)))) rfl) ?_; (simp only [nA])
   (refine aqSeg rfl rfl rfl ?_; repeat (first | exact fun _ _ => rfl | refine upd_out rfl ?_))
  simp only [nA]
  refine aqP (op_move rfl rfl) ?_
  refine' aqAnd' [_, _, _] [12,13,14] rfl rfl rfl rfl rfl rfl rfl rfl rfl rfl rfl rfl (fun hb => ?_) ?_; rotate_left
  ·
   (try simp only [hcS] at hb)
   (refine aqP (op_fa_ptr rfl rfl rfl fl37_2 (by exact sz3) (by decide) rfl) ?_)
   (refine aqR (op_load_ptr1 rfl rfl rfl rfl ag3 rfl rfl) ?_)
   refine aqQ (op_callQ (b := true) rfl en95 (C95) (RL.cons (by exact View.same rfl) (RL.cons (by exact View.same rfl) (RL.cons (by exact View.same rfl) (RL.nil)))) rfl) ?_; (simp only [nA])
   (refine aqSeg rfl rfl rfl ?_; repeat (first | exact fun _ _ => rfl | refine upd_out rfl ?_))
  simp only [nA]
  refine aqP (op_assign rfl rfl) ?_
  refine AQ.nil ?_
  (refine hK _ ?_; clear hK K; (simp only [nA]))
  skip
  refine AW.ret ?_; (try simp only [thenE, inBlk, Nat.reduceEqDiff, ↓reduceIte]); exact RQ.of0 rfl (.tmp (bl rfl) rfl rfl .nil)
def opB (o : Op) : Bool := if (!inB o.time 0 1048576 || !inB o.device 1 6) || !inB o.seq 1 1048576 then false else ((decide (o.kind = 1) || decide (o.kind = 2)) && inB o.cont 1 999) && piB o.piece
set_option maxHeartbeats 8000000 in
theorem C74 {o : Op} : Fn Tryz.prog 74 [] [.agg o.av] [.v (.bool (opB o))] [] := by
  refine Spec.body Tryz.func74 rfl Tryz.ntmps74 (by simp) rfl ?_; intro S0 own0 v0 w0 gl
  (refine AW.seq_k ?_; intro K hK)
  refine AW.region ?_
  refine awJ (op_box rfl rfl rfl sz39 rfl) ?_; (simp only [nA, Nat.reduceBEq, Nat.reduceEqDiff, ↓reduceIte])
  refine awP (op_assign rfl rfl) ?_
  refine AWL.nil ?_
  (refine hK _ ?_; clear hK K; (try simp only [nA, Nat.reduceBEq, Nat.reduceEqDiff, ↓reduceIte, Nat.reduceAdd, Nat.reduceSub]))
  (refine AW.seq_k ?_; intro K hK)
  (refine AW.seq_k ?_; intro K hK)
  refine AW.region (AWL.quiet ?_)
  (refine aqP (op_fa_ptr rfl rfl rfl fl39_0 (by exact sz3) (by decide) rfl) ?_)
  (refine aqR (op_load_ptr1 rfl rfl rfl rfl ag3 rfl rfl) ?_)
  refine aqQ (op_callQ (b := true) rfl en95 (C95) (RL.cons (by exact View.same rfl) (RL.cons (by exact View.same rfl) (RL.cons (by exact View.same rfl) (RL.nil)))) rfl) ?_; (try simp only [nA, Nat.reduceBEq, Nat.reduceEqDiff, ↓reduceIte, Nat.reduceAdd, Nat.reduceSub])
  refine aqP (op_not rfl rfl rfl) ?_
  refine aqP (op_move rfl rfl) ?_
  refine' aqOr' [_, _, _, _] [8,9,10,11] rfl rfl rfl rfl rfl rfl rfl rfl rfl rfl rfl rfl (fun hb => ?_) ?_; rotate_left
  ·
   (try simp only [hcS] at hb)
   (refine aqP (op_fa_ptr rfl rfl rfl fl39_1 (by exact sz3) (by decide) rfl) ?_)
   (refine aqR (op_load_ptr1 rfl rfl rfl rfl ag3 rfl rfl) ?_)
   refine aqQ (op_callQ (b := true) rfl en95 (C95) (RL.cons (by exact View.same rfl) (RL.cons (by exact View.same rfl) (RL.cons (by exact View.same rfl) (RL.nil)))) rfl) ?_; (simp only [nA])
   refine aqP (op_not rfl rfl rfl) ?_
   (refine aqSeg rfl rfl rfl ?_; repeat (first | exact fun _ _ => rfl | refine upd_out rfl ?_))
  simp only [nA]
  refine aqP (op_move rfl rfl) ?_
  refine' aqOr' [_, _, _, _] [14,15,16,17] rfl rfl rfl rfl rfl rfl rfl rfl rfl rfl rfl rfl (fun hb => ?_) ?_; rotate_left
  ·
   (try simp only [hcS] at hb)
   (refine aqP (op_fa_ptr rfl rfl rfl fl39_2 (by exact sz3) (by decide) rfl) ?_)
   (refine aqR (op_load_ptr1 rfl rfl rfl rfl ag3 rfl rfl) ?_)
   refine aqQ (op_callQ (b := true) rfl en95 (C95) (RL.cons (by exact View.same rfl) (RL.cons (by exact View.same rfl) (RL.cons (by exact View.same rfl) (RL.nil)))) rfl) ?_; (simp only [nA])
   refine aqP (op_not rfl rfl rfl) ?_
   (refine aqSeg rfl rfl rfl ?_; repeat (first | exact fun _ _ => rfl | refine upd_out rfl ?_))
  simp only [nA]
  refine AQ.nil ?_
  (refine hK _ ?_; clear hK K; (skip))
  refine AW.cond rfl rfl rfl (fun hc => ?_) (fun hc => ?_)
  ·
   (try simp only [hcS] at hc); have hc1 := hc
   (refine AW.seq_k ?_; intro K hK)
   refine AW.region ?_
   refine awP (op_assign rfl rfl) ?_
   refine AWL.nil ?_
   (refine hK _ ?_; clear hK K; (try simp only [nA, Nat.reduceBEq, Nat.reduceEqDiff, ↓reduceIte, Nat.reduceAdd, Nat.reduceSub]))
   skip
   refine AW.ret ?_; (try simp only [thenE, inBlk, Nat.reduceEqDiff, ↓reduceIte]); rw [show opB o = false by unfold opB; rw [if_pos (by simpa using hc)]]; exact RQ.of0 rfl (.tmp (bl rfl) rfl rfl .nil)
  (try simp only [hcS] at hc); have hc1 := hc
  refine AW.skip ?_
  (refine hK _ ?_; clear hK K; (skip))
  (refine AW.seq_k ?_; intro K hK)
  refine AW.region (AWL.quiet ?_)
  (refine aqP (op_fa_ptr rfl rfl rfl fl39_3 (by exact sz3) (by decide) rfl) ?_)
  (refine aqR (op_load_ptr1 rfl rfl rfl rfl ag3 rfl rfl) ?_)
  (refine aqP (op_eql rfl rfl rfl) ?_)
  refine aqP (op_move rfl rfl) ?_
  refine' aqOr' [_, _, _] [23,24,25] rfl rfl rfl rfl rfl rfl rfl rfl rfl rfl rfl rfl (fun hb => ?_) ?_; rotate_left
  ·
   (try simp only [hcS] at hb)
   (refine aqP (op_fa_ptr rfl rfl rfl fl39_3 (by exact sz3) (by decide) rfl) ?_)
   (refine aqR (op_load_ptr1 rfl rfl rfl rfl ag3 rfl rfl) ?_)
   (refine aqP (op_eql rfl rfl rfl) ?_)
   (refine aqSeg rfl rfl rfl ?_; repeat (first | exact fun _ _ => rfl | refine upd_out rfl ?_))
  simp only [nA]
  refine aqP (op_move rfl rfl) ?_
  refine' aqAnd' [_, _, _] [28,29,30] rfl rfl rfl rfl rfl rfl rfl rfl rfl rfl rfl rfl (fun hb => ?_) ?_; rotate_left
  ·
   (try simp only [hcS] at hb)
   (refine aqP (op_fa_ptr rfl rfl rfl fl39_4 (by exact sz3) (by decide) rfl) ?_)
   (refine aqR (op_load_ptr1 rfl rfl rfl rfl ag3 rfl rfl) ?_)
   refine aqQ (op_callQ (b := true) rfl en95 (C95) (RL.cons (by exact View.same rfl) (RL.cons (by exact View.same rfl) (RL.cons (by exact View.same rfl) (RL.nil)))) rfl) ?_; (simp only [nA])
   (refine aqSeg rfl rfl rfl ?_; repeat (first | exact fun _ _ => rfl | refine upd_out rfl ?_))
  simp only [nA]
  refine aqP (op_move rfl rfl) ?_
  refine' aqAnd' [_, _, _] [33,34,35] rfl rfl rfl rfl rfl rfl rfl rfl rfl rfl rfl rfl (fun hb => ?_) ?_; rotate_left
  ·
   (try simp only [hcS] at hb)
   (refine aqP (op_fa_ptr rfl rfl rfl fl39_5 (by exact sz37) (by decide) rfl) ?_)
   (refine aqR (op_load_ptr rfl rfl rfl rfl ag37 sz37 (bl rfl) rfl) ?_)
   refine aqQ (op_callQ (b := true) rfl en96 (C96 (p := o.piece)) (RL.cons (by exact View.same rfl) (RL.nil)) rfl) ?_; (simp only [nA])
   (refine aqSeg rfl rfl rfl ?_; repeat (first | exact fun _ _ => rfl | refine upd_out rfl ?_))
  simp only [nA]
  refine aqP (op_assign rfl rfl) ?_
  refine AQ.nil ?_
  (refine hK _ ?_; clear hK K; (simp only [nA]))
  skip
  refine AW.ret ?_; (try simp only [thenE, inBlk, Nat.reduceEqDiff, ↓reduceIte]); rw [show opB o = (((decide (o.kind = 1) || decide (o.kind = 2)) && inB o.cont 1 999) && piB o.piece) by unfold opB; rw [if_neg (by simpa using hc1)]]; exact RQ.of0 rfl (.tmp (bl rfl) rfl rfl .nil)
end Go.Proofs.YtfmnaigedgmhoaaGreatDoor
namespace Go.Proofs.YtfmnaigedgmhoaaGreatDoor
open Go.RowKit
set_option linter.unusedSimpArgs false
set_option linter.unusedVariables false
set_option maxRecDepth 100000
instance : Inhabited Piece := ⟨⟨⟨0, 0, 0⟩, 0, 0⟩⟩
theorem get_mapD {α β : Type} [Inhabited α] {f : α → β} {xs : List α} {m : Nat} (h : m < xs.length) : (xs.map f)[m]? = some (f (xs.getD m default)) := by
  rw [List.getD_eq_getElem?_getD]; simp [h]
end Go.Proofs.YtfmnaigedgmhoaaGreatDoor
namespace Go.Proofs.YtfmnaigedgmhoaaGreatDoor
open Go.RowKit
set_option linter.unusedSimpArgs false
set_option linter.unusedVariables false
set_option maxRecDepth 100000
abbrev iv (n : Int) : List AV := [.v (.int .i64 n)]
abbrev srcRow (l : List Int) (k : Nat) : List AV := [.ro (l.map iv), .v (.int .i64 (k : Nat))]
theorem iv_len (l : List Int) : ∀ x ∈ l.map iv, x.length = 1 := fun x hx => by
  obtain ⟨p, _, rfl⟩ := List.mem_map.1 hx; rfl
theorem one_out {T : Sl} {x : AV} (h : T.slots[0]? = some (0, x)) : ∀ (r : Nat) (y : AV), [x][r]? = some y → T.slots[r]? = some (0, y) := fun r y hy => by
  cases r with
  | zero => simp at hy; subst hy; exact h
  | succ r => simp at hy
set_option maxHeartbeats 8000000 in
theorem C4 {l : List Int} : FnB Tryz.prog 4 [.ro (l.map iv)] 53 (srcRow (l.take 2000) 0) := by
  refine FnB.body Tryz.func4 rfl Tryz.ntmps4 (by simp) sz53 ?_; intro S0 own0 v0 w0 gl
  (refine AW.seq_k ?_; intro K hK)
  refine AW.region ?_
  refine awP (op_assign rfl rfl) ?_
  refine AWL.nil ?_
  (refine hK _ ?_; clear hK K; (try simp only [nA, Nat.reduceBEq, Nat.reduceEqDiff, ↓reduceIte, Nat.reduceAdd, Nat.reduceSub]))
  (refine AW.seq_k ?_; intro K hK)
  (refine AW.seq_k ?_; intro K hK)
  refine AW.region ?_
  refine awP (op_move rfl rfl) ?_
  (refine awP (op_len_ro rfl rfl Tryz.underlying23 (by exact .inr (.inl ⟨_, rfl, rfl⟩))) ?_)
  refine awP (op_gtr rfl rfl rfl) ?_
  refine AWL.nil ?_
  (refine hK _ ?_; clear hK K; (simp only [nA, ↓reduceIte]))
  refine AW.cond rfl rfl rfl (fun hc => ?_) (fun hc => ?_)
  ·
   (try simp only [hcS] at hc); have hc1 := hc
   refine AW.region ?_
   refine awP (op_move rfl rfl) ?_
   refine awP (op_slice_ro 0 2000 rfl (.inl rfl) (by exact rfl) (by exact ⟨_, rfl⟩) (by omega) (by simp; omega) Tryz.underlying23 sz23 (iv_len l) (es' := (l.take 2000).map iv) (by simp [List.map_take])) ?_; (simp only [nA, ↓reduceIte])
   refine awP (op_assign rfl rfl) ?_
   refine AWL.nil ?_
   (refine hK _ ?_; clear hK K; (simp only [nA]))
   (refine AW.seq_k ?_; intro K hK)
   refine AW.region ?_
   refine awP (op_move rfl rfl) ?_
   refine awP (op_build2 (xs := [_, .v (.int .i64 0)]) rfl pl53 ze53 [(0, [_])] rfl rfl rfl) ?_
   refine awJ (op_box rfl rfl rfl sz53 rfl) ?_; (simp only [nA, Nat.reduceBEq, Nat.reduceEqDiff, ↓reduceIte])
   refine awP (op_assign rfl rfl) ?_
   refine AWL.nil ?_
   (refine hK _ ?_; clear hK K; (simp only [nA]))
   skip
   refine AW.ret ?_; (try simp only [thenE, inBlk, Nat.reduceEqDiff, ↓reduceIte]); exact ⟨2, 0, 1, rfl, (bl rfl), rfl, rfl⟩
  (try simp only [hcS] at hc); have hc1 := hc
  refine AW.skip ?_
  (refine hK _ ?_; clear hK K; (skip))
  (refine AW.seq_k ?_; intro K hK)
  refine AW.region ?_
  refine awP (op_move rfl rfl) ?_
  refine awP (op_build2 (xs := [_, .v (.int .i64 0)]) rfl pl53 ze53 [(0, [_])] rfl rfl rfl) ?_
  refine awJ (op_box rfl rfl rfl sz53 rfl) ?_; (simp only [nA, Nat.reduceBEq, Nat.reduceEqDiff, ↓reduceIte])
  refine awP (op_assign rfl rfl) ?_
  refine AWL.nil ?_
  (refine hK _ ?_; clear hK K; (simp only [nA]))
  skip
  refine AW.ret ?_; (try simp only [thenE, inBlk, Nat.reduceEqDiff, ↓reduceIte]); rw [show l.take 2000 = l from List.take_of_length_le (by omega)]; exact ⟨2, 0, 1, rfl, (bl rfl), rfl, rfl⟩
def gmod (x n : Int) : Int := if n < 1 then 0 else if Int.tmod x n < 0 then Int.tmod x n + n else Int.tmod x n
theorem gmod_bd {x n : Int} (h : 1 ≤ n) : 0 ≤ gmod x n ∧ gmod x n < n := by
  unfold gmod
  have h1 : Int.tmod x n < n := Int.tmod_lt_of_pos x (by omega)
  have h2 : -n < Int.tmod x n := Int.lt_tmod_of_pos x (by omega)
  rw [if_neg (by omega)]
  split <;> omega
set_option maxHeartbeats 8000000 in
theorem C7 {x n : Int} (hn : n ≤ 9223372036854775807) : Fn Tryz.prog 7 [] [.v (.int .i64 x), .v (.int .i64 n)] [.v (.int .i64 (gmod x n))] [] := by
  refine Spec.body Tryz.func7 rfl Tryz.ntmps7 (by simp) rfl ?_; intro S0 own0 v0 w0 gl
  (refine AW.seq_k ?_; intro K hK)
  refine AW.region ?_
  refine awP (op_assign rfl rfl) ?_
  refine AWL.nil ?_
  (refine hK _ ?_; clear hK K; (try simp only [nA, Nat.reduceBEq, Nat.reduceEqDiff, ↓reduceIte, Nat.reduceAdd, Nat.reduceSub]))
  (refine AW.seq_k ?_; intro K hK)
  (refine AW.seq_k ?_; intro K hK)
  refine AW.region ?_
  refine awP (op_move rfl rfl) ?_
  refine awP (op_lss rfl rfl rfl) ?_
  refine AWL.nil ?_
  (refine hK _ ?_; clear hK K; (simp only [nA, ↓reduceIte]))
  refine AW.cond rfl rfl rfl (fun hc => ?_) (fun hc => ?_)
  ·
   (try simp only [hcS] at hc); have hc1 := hc
   (refine AW.seq_k ?_; intro K hK)
   refine AW.region ?_
   refine awP (op_assign rfl rfl) ?_
   refine AWL.nil ?_
   (refine hK _ ?_; clear hK K; (try simp only [nA, Nat.reduceBEq, Nat.reduceEqDiff, ↓reduceIte, Nat.reduceAdd, Nat.reduceSub]))
   skip
   refine AW.ret ?_; (try simp only [thenE, inBlk, Nat.reduceEqDiff, ↓reduceIte]); rw [show gmod x n = 0 by unfold gmod; rw [if_pos hc]]; exact RQ.of0 rfl (.tmp (bl rfl) rfl rfl .nil)
  (try simp only [hcS] at hc); have hc1 := hc; have h1 : Int.tmod x n < n := Int.tmod_lt_of_pos x (by omega); have h2 : -n < Int.tmod x n := Int.lt_tmod_of_pos x (by omega)
  refine AW.skip ?_
  (refine hK _ ?_; clear hK K; (skip))
  (refine AW.seq_k ?_; intro K hK)
  refine AW.region ?_
  refine awP (op_move rfl rfl) ?_
  refine awP (op_move rfl rfl) ?_
  refine awP (op_rem rfl rfl rfl (by omega) rfl) ?_
  refine awP (op_assign rfl rfl) ?_
  refine AWL.nil ?_
  (refine hK _ ?_; clear hK K; (simp only [nA, ↓reduceIte]))
  (refine AW.seq_k ?_; intro K hK)
  (refine AW.seq_k ?_; intro K hK)
  refine AW.region ?_
  refine awP (op_move rfl rfl) ?_
  refine awP (op_lss rfl rfl rfl) ?_
  refine AWL.nil ?_
  (refine hK _ ?_; clear hK K; (simp only [nA]))
  refine AW.cond rfl rfl rfl (fun hc => ?_) (fun hc => ?_)
  ·
   (try simp only [hcS] at hc); have hc2 := hc
   refine AW.region ?_
   refine awP (op_move rfl rfl) ?_
   refine awP (op_move rfl rfl) ?_
   (refine awP (op_addi rfl rfl rfl (by omega)) ?_)
   refine awP (op_assign rfl rfl) ?_
   refine AWL.nil ?_
   (refine hK _ ?_; clear hK K; (simp only [nA, ↓reduceIte]))
   (refine AW.seq_k ?_; intro K hK)
   refine AW.region ?_
   refine awP (op_move rfl rfl) ?_
   refine awP (op_assign rfl rfl) ?_
   refine AWL.nil ?_
   (refine hK _ ?_; clear hK K; (simp only [nA]))
   skip
   refine AW.ret ?_; (try simp only [thenE, inBlk, Nat.reduceEqDiff, ↓reduceIte]); rw [show gmod x n = Int.tmod x n + n by unfold gmod; rw [if_neg (by omega), if_pos (by omega)]]; exact RQ.of0 rfl (.tmp (bl rfl) rfl rfl .nil)
  (try simp only [hcS] at hc); have hc2 := hc
  refine AW.skip ?_
  (refine hK _ ?_; clear hK K; (skip))
  (refine AW.seq_k ?_; intro K hK)
  refine AW.region ?_
  refine awP (op_move rfl rfl) ?_
  refine awP (op_assign rfl rfl) ?_
  refine AWL.nil ?_
  (refine hK _ ?_; clear hK K; (simp only [nA, ↓reduceIte]))
  skip
  refine AW.ret ?_; (try simp only [thenE, inBlk, Nat.reduceEqDiff, ↓reduceIte]); rw [show gmod x n = Int.tmod x n by unfold gmod; rw [if_neg (by omega), if_neg (by omega)]]; exact RQ.of0 rfl (.tmp (bl rfl) rfl rfl .nil)
def rawV (l : List Int) (k : Nat) : Int := l.getD k default
def rawN (l : List Int) (k : Nat) : Nat := if k < l.length then k + 1 else k
set_option maxHeartbeats 8000000 in
theorem C25 {l : List Int} {k : Nat} (hl : l.length ≤ 2000) : Fn Tryz.prog 25 [.own 53 [srcRow l k]] [.ptr 0 0 0 0] [.v (.int .i64 (rawV l k))] [.own 53 [srcRow l (rawN l k)]] := by
  refine Spec.body Tryz.func25 rfl Tryz.ntmps25 (by simp) rfl ?_; intro S0 own0 v0 w0 gl
  (refine AW.seq_k ?_; intro K hK)
  refine AW.region ?_
  refine awP (op_assign rfl rfl) ?_
  refine AWL.nil ?_
  (refine hK _ ?_; clear hK K; (try simp only [nA, Nat.reduceBEq, Nat.reduceEqDiff, ↓reduceIte, Nat.reduceAdd, Nat.reduceSub]))
  (refine AW.seq_k ?_; intro K hK)
  (refine AW.seq_k ?_; intro K hK)
  refine AW.quiet mix (by kernel_rfl) ?_
  refine aqP (op_move rfl rfl) ?_
  (refine aqP (op_nil_slot rfl rfl rfl) ?_)
  (refine aqP (op_fa_ptr rfl rfl rfl fl53_1 (by exact sz3) (by decide) rfl) ?_)
  (refine aqR (op_load_ptr1 rfl rfl rfl rfl ag3 rfl rfl) ?_)
  refine aqP (op_move rfl rfl) ?_
  (refine aqP (op_nil_slot rfl rfl rfl) ?_)
  (refine aqP (op_fa_ptr rfl rfl rfl fl53_0 (by exact sz23) (by decide) rfl) ?_)
  (refine aqR (op_load_ptr1 rfl rfl rfl rfl ag23 rfl rfl) ?_)
  (refine aqP (op_len_ro rfl rfl Tryz.underlying23 (by exact .inr (.inl ⟨_, rfl, rfl⟩))) ?_)
  refine aqP (op_geq rfl rfl rfl) ?_
  refine AQ.nil ?_
  (refine hK _ ?_; clear hK K; (simp only [nA, ↓reduceIte]))
  refine AW.cond rfl rfl rfl (fun hc => ?_) (fun hc => ?_)
  ·
   (try simp only [hcS] at hc); have hc1 := hc
   (refine AW.seq_k ?_; intro K hK)
   refine AW.region ?_
   refine awP (op_assign rfl rfl) ?_
   refine AWL.nil ?_
   (refine hK _ ?_; clear hK K; (try simp only [nA, Nat.reduceBEq, Nat.reduceEqDiff, ↓reduceIte, Nat.reduceAdd, Nat.reduceSub]))
   skip
   refine AW.ret ?_; (try simp only [thenE, inBlk, Nat.reduceEqDiff, ↓reduceIte]); rw [show rawV l k = 0 by unfold rawV; rw [List.getD_eq_getElem?_getD, List.getElem?_eq_none (by omega)]; rfl, show rawN l k = k by unfold rawN; rw [if_neg (by omega)]]; exact RQ.of (.inl rfl) rfl (.tmp (bl rfl) rfl rfl .nil) (by simp) rfl (one_out rfl)
  (try simp only [hcS] at hc); have hc1 := hc
  refine AW.skip ?_
  (refine hK _ ?_; clear hK K; (skip))
  (refine AW.seq_k ?_; intro K hK)
  refine AW.region ?_
  refine awP (op_move rfl rfl) ?_
  (refine awP (op_nil_slot rfl rfl rfl) ?_)
  (refine awP (op_fa_ptr rfl rfl rfl fl53_1 (by exact sz3) (by decide) rfl) ?_)
  (refine awR (op_load_ptr1 rfl rfl rfl rfl ag3 rfl rfl) ?_)
  (refine awP (op_addi rfl rfl rfl (by omega)) ?_)
  (refine awP (op_nil_slot rfl rfl rfl) ?_)
  (refine awP (op_fa_ptr rfl rfl rfl fl53_1 (by exact sz3) (by decide) rfl) ?_)
  refine awJ (op_store rfl rfl rfl rfl rfl rfl sz3 rfl (bl rfl) rfl) ?_; (simp only [nA, ↓reduceIte])
  refine AWL.nil ?_
  (refine hK _ ?_; clear hK K; (skip))
  (refine AW.seq_k ?_; intro K hK)
  refine AW.quiet mix (by kernel_rfl) ?_
  refine aqP (op_move rfl rfl) ?_
  (refine aqP (op_nil_slot rfl rfl rfl) ?_)
  (refine aqP (op_fa_ptr rfl rfl rfl fl53_0 (by exact sz23) (by decide) rfl) ?_)
  (refine aqR (op_load_ptr1 rfl rfl rfl rfl ag23 rfl rfl) ?_)
  refine aqP (op_move rfl rfl) ?_
  (refine aqP (op_nil_slot rfl rfl rfl) ?_)
  (refine aqP (op_fa_ptr rfl rfl rfl fl53_1 (by exact sz3) (by decide) rfl) ?_)
  (refine aqR (op_load_ptr1 rfl rfl rfl rfl ag3 rfl rfl) ?_)
  (refine aqP (op_subi rfl rfl rfl (by omega)) ?_)
  (refine aqP (op_ia_ro k rfl (.inl rfl) rfl Tryz.underlying23 (by omega) (get_mapD (by omega)) (by exact sz3) (bl rfl)) ?_)
  (refine aqR (op_load_rop1 rfl rfl ag3) ?_)
  refine aqP (op_assign rfl rfl) ?_
  refine AQ.nil ?_
  (refine hK _ ?_; clear hK K; (simp only [nA, ↓reduceIte]))
  skip
  refine AW.ret ?_; (try simp only [thenE, inBlk, Nat.reduceEqDiff, ↓reduceIte]); rw [show rawN l k = k + 1 by unfold rawN; rw [if_pos (by omega)]]; exact RQ.of (.inl rfl) rfl (.tmp (bl rfl) rfl rfl .nil) (by simp) rfl (one_out rfl)
end Go.Proofs.YtfmnaigedgmhoaaGreatDoor
namespace Go.Proofs.YtfmnaigedgmhoaaGreatDoor
open Go.RowKit
set_option linter.unusedSimpArgs false
set_option linter.unusedVariables false
set_option maxRecDepth 100000
set_option maxHeartbeats 8000000 in
theorem C8 {l : List Int} {k : Nat} {n : Int} (hl : l.length ≤ 2000) (hn : n ≤ 9223372036854775807) : Fn Tryz.prog 8 [.own 53 [srcRow l k]] [.ptr 0 0 0 0, .v (.int .i64 n)] [.v (.int .i64 (gmod (rawV l k) n))] [.own 53 [srcRow l (rawN l k)]] := by
  refine Spec.body Tryz.func8 rfl Tryz.ntmps8 (by simp) rfl ?_; intro S0 own0 v0 w0 gl
  (refine AW.seq_k ?_; intro K hK)
  refine AW.region ?_
  refine awP (op_assign rfl rfl) ?_; (try simp only [nA, Nat.reduceBEq, Nat.reduceEqDiff, ↓reduceIte, Nat.reduceAdd, Nat.reduceSub])
  refine AWL.nil ?_
  (refine hK _ ?_; clear hK K; (try simp only [nA, Nat.reduceBEq, Nat.reduceEqDiff, ↓reduceIte, Nat.reduceAdd, Nat.reduceSub]))
  (refine AW.seq_k ?_; intro K hK)
  refine AW.region ?_
  refine awP (op_move rfl rfl) ?_; (simp only [nA, ↓reduceIte])
  refine awJ (op_call1 rfl en25 (C25 hl) (by exact rfl) (RL.cons .ptr (RL.nil)) (by exact ⟨_, _, _, rfl, rfl, rfl⟩) (by exact rfl) (by exact rfl) (by exact rfl)) ?_; (try simp only [nA, Nat.reduceBEq, Nat.reduceEqDiff, ↓reduceIte, Nat.reduceAdd, Nat.reduceSub])
  refine awP (op_move rfl rfl) ?_; (simp only [nA, ↓reduceIte])
  refine awJ (OpQ.j (op_callQ (b := true) rfl en7 (C7 (by omega)) (RL.cons (by exact View.same rfl) (RL.cons (by exact View.same rfl) (RL.nil))) rfl)) ?_; (try simp only [nA, Nat.reduceBEq, Nat.reduceEqDiff, ↓reduceIte, Nat.reduceAdd, Nat.reduceSub])
  refine awP (op_assign rfl rfl) ?_; (simp only [nA])
  refine AWL.nil ?_
  (refine hK _ ?_; clear hK K; (skip))
  skip
  refine AW.ret ?_; (try simp only [thenE, inBlk, Nat.reduceEqDiff, ↓reduceIte]); exact RQ.of (.inl rfl) rfl (.tmp (bl rfl) rfl rfl .nil) (by simp) rfl (one_out rfl)
def platesP (i : Int) : Plate := ⟨gmod i 1000 / 500, 117 + gmod i 1000 / 100 % 5, 1000 + gmod i 1000 % 100⟩
set_option maxHeartbeats 8000000 in
theorem C39 {i : Int} : Fn Tryz.prog 39 [] [.v (.int .i64 i)] [.agg (platesP i).av] [] := by
  have hg := gmod_bd (x := i) (n := 1000) (by decide)
  refine Spec.body Tryz.func39 rfl Tryz.ntmps39 (by simp) rfl ?_; intro S0 own0 v0 w0 gl
  (refine AW.seq_k ?_; intro K hK)
  refine AW.region ?_
  refine awJ (op_alloc rfl ze30 rfl) ?_; (simp only [nA, Nat.reduceBEq, Nat.reduceEqDiff, ↓reduceIte])
  refine AWL.nil ?_
  (refine hK _ ?_; clear hK K; (try simp only [nA, Nat.reduceBEq, Nat.reduceEqDiff, ↓reduceIte, Nat.reduceAdd, Nat.reduceSub]))
  (refine AW.seq_k ?_; intro K hK)
  refine AW.region ?_
  refine awP (op_move rfl rfl) ?_; (simp only [nA, ↓reduceIte])
  refine awJ (OpQ.j (op_callQ (b := true) rfl en7 (C7 (n := 1000) (by decide)) (RL.cons (by exact View.same rfl) (RL.cons (by exact View.same rfl) (RL.nil))) rfl)) ?_; (try simp only [nA, Nat.reduceBEq, Nat.reduceEqDiff, ↓reduceIte, Nat.reduceAdd, Nat.reduceSub])
  refine awP (op_assign rfl rfl) ?_; (simp only [nA])
  refine AWL.nil ?_
  (refine hK _ ?_; clear hK K; (skip))
  (refine AW.seq_k ?_; intro K hK)
  refine AW.region ?_
  refine awP (op_move rfl rfl) ?_; (simp only [nA])
  (refine awP (op_quoi rfl rfl rfl (by omega)) ?_); (try simp only [nA, Nat.reduceBEq, Nat.reduceEqDiff, ↓reduceIte, Nat.reduceAdd, Nat.reduceSub])
  refine awP (op_move rfl rfl) ?_; (simp only [nA, ↓reduceIte])
  (refine awP (op_quoi rfl rfl rfl (by omega)) ?_); (try simp only [nA, Nat.reduceBEq, Nat.reduceEqDiff, ↓reduceIte, Nat.reduceAdd, Nat.reduceSub])
  (refine awP (op_remi rfl rfl rfl (by omega)) ?_); (try simp only [nA, Nat.reduceBEq, Nat.reduceEqDiff, ↓reduceIte, Nat.reduceAdd, Nat.reduceSub])
  (refine awP (op_addi rfl rfl rfl (by omega)) ?_); (try simp only [nA, Nat.reduceBEq, Nat.reduceEqDiff, ↓reduceIte, Nat.reduceAdd, Nat.reduceSub])
  refine awP (op_move rfl rfl) ?_; (simp only [nA, ↓reduceIte])
  (refine awP (op_remi rfl rfl rfl (by omega)) ?_); (try simp only [nA, Nat.reduceBEq, Nat.reduceEqDiff, ↓reduceIte, Nat.reduceAdd, Nat.reduceSub])
  (refine awP (op_addi rfl rfl rfl (by omega)) ?_); (try simp only [nA, Nat.reduceBEq, Nat.reduceEqDiff, ↓reduceIte, Nat.reduceAdd, Nat.reduceSub])
  refine awP (op_build2 (xs := [_, _, _]) rfl pl30 ze30 [(0, [_]), (1, [_]), (2, [_])] rfl rfl rfl) ?_; (simp only [nA, ↓reduceIte])
  refine awJ (op_store rfl rfl rfl rfl rfl rfl sz30 rfl (bl rfl) rfl) ?_; (simp only [nA, Nat.reduceBEq, Nat.reduceEqDiff, ↓reduceIte])
  refine AWL.nil ?_
  (refine hK _ ?_; clear hK K; (skip))
  skip
  refine AW.ret ?_; (try simp only [thenE, inBlk, Nat.reduceEqDiff, ↓reduceIte]); exact RQ.of0 rfl (.cell (bl rfl) rfl rfl rfl ag30 sz30 (bl rfl) rfl rfl .nil)
end Go.Proofs.YtfmnaigedgmhoaaGreatDoor
namespace Go.Proofs.YtfmnaigedgmhoaaGreatDoor
open Go.RowKit
set_option linter.unusedSimpArgs false
set_option linter.unusedVariables false
set_option maxRecDepth 100000
theorem iv_flat (l : List Int) : ∀ r ∈ l.map iv, ∀ c ∈ r, flatA c = true := fun r hr c hc => by
  obtain ⟨p, _, rfl⟩ := List.mem_map.1 hr
  obtain rfl : c = _ := by simpa using hc
  rfl
def pickV (l : List Int) (k : Nat) (xs : List Int) : Int := xs.getD (gmod (rawV l k) (xs.length : Nat)).toNat default
theorem pickV_mem {l : List Int} {k : Nat} {xs : List Int} (h : 1 ≤ xs.length) : pickV l k xs ∈ xs := by
  have hg := gmod_bd (x := rawV l k) (n := (xs.length : Nat)) (by omega)
  unfold pickV
  rw [List.getD_eq_getElem?_getD, List.getElem?_eq_getElem (by omega)]
  exact List.getElem_mem _
set_option maxHeartbeats 8000000 in
theorem C22 {l : List Int} {k : Nat} {xs : List Int} (hl : l.length ≤ 2000) (h1 : 1 ≤ xs.length) (h2 : xs.length ≤ 1000) : Fn Tryz.prog 22 [.own 53 [srcRow l k]] [.ptr 0 0 0 0, .ro (xs.map iv)] [.v (.int .i64 (pickV l k xs))] [.own 53 [srcRow l (rawN l k)]] := by
  have hg := gmod_bd (x := rawV l k) (n := (xs.length : Nat)) (by omega)
  refine Spec.body Tryz.func22 rfl Tryz.ntmps22 (by simp) rfl ?_; intro S0 own0 v0 w0 gl
  (refine AW.seq_k ?_; intro K hK)
  refine AW.region ?_
  refine awP (op_assign rfl rfl) ?_; (try simp only [nA, Nat.reduceBEq, Nat.reduceEqDiff, ↓reduceIte, Nat.reduceAdd, Nat.reduceSub])
  refine AWL.nil ?_
  (refine hK _ ?_; clear hK K; (try simp only [nA, Nat.reduceBEq, Nat.reduceEqDiff, ↓reduceIte, Nat.reduceAdd, Nat.reduceSub]))
  (refine AW.seq_k ?_; intro K hK)
  refine AW.region ?_
  refine awP (op_move rfl rfl) ?_; (simp only [nA, ↓reduceIte])
  refine awP (op_move rfl rfl) ?_; (simp only [nA, ↓reduceIte])
  refine awP (op_move rfl rfl) ?_; (simp only [nA, ↓reduceIte])
  (refine awP (op_len_ro rfl rfl Tryz.underlying23 (by exact .inr (.inl ⟨_, rfl, rfl⟩))) ?_); (try simp only [nA, Nat.reduceBEq, Nat.reduceEqDiff, ↓reduceIte, Nat.reduceAdd, Nat.reduceSub])
  refine awJ (op_call1 rfl en8 (C8 hl (n := (xs.length : Nat)) (by omega)) (by exact rfl) (RL.cons .ptr (RL.cons (.base (by exact View.same rfl)) (RL.nil))) (by exact ⟨_, _, _, rfl, rfl, rfl⟩) (by exact rfl) (by exact rfl) (by exact rfl)) ?_; (try simp only [nA, Nat.reduceBEq, Nat.reduceEqDiff, ↓reduceIte, Nat.reduceAdd, Nat.reduceSub])
  (refine awP (op_ia_ro (gmod (rawV l k) (xs.length : Nat)).toNat rfl (.inl rfl) rfl Tryz.underlying23 (by omega) (get_mapD (by omega)) (by exact sz3) (bl rfl)) ?_); (try simp only [nA, Nat.reduceBEq, Nat.reduceEqDiff, ↓reduceIte, Nat.reduceAdd, Nat.reduceSub])
  (refine awR (op_load_rop1 rfl rfl ag3) ?_); (try simp only [nA, Nat.reduceBEq, Nat.reduceEqDiff, ↓reduceIte, Nat.reduceAdd, Nat.reduceSub])
  refine awP (op_assign rfl rfl) ?_; (simp only [nA])
  refine AWL.nil ?_
  (refine hK _ ?_; clear hK K; (skip))
  skip
  refine AW.ret ?_; (try simp only [thenE, inBlk, Nat.reduceEqDiff, ↓reduceIte]); exact RQ.of (.inl rfl) rfl (.tmp (bl rfl) rfl rfl .nil) (by simp) rfl (one_out rfl)
set_option maxHeartbeats 8000000 in
theorem C21 {l : List Int} {k : Nat} {n : Int} (hl : l.length ≤ 2000) (hn : n ≤ 9223372036854775807) : Fn Tryz.prog 21 [.own 53 [srcRow l k]] [.ptr 0 0 0 0, .v (.int .i64 n)] [.agg (platesP (gmod (rawV l k) n)).av] [.own 53 [srcRow l (rawN l k)]] := by
  refine Spec.body Tryz.func21 rfl Tryz.ntmps21 (by simp) rfl ?_; intro S0 own0 v0 w0 gl
  (refine AW.seq_k ?_; intro K hK)
  refine AW.region ?_
  refine awJ (op_alloc rfl ze30 rfl) ?_; (simp only [nA, Nat.reduceBEq, Nat.reduceEqDiff, ↓reduceIte])
  refine AWL.nil ?_
  (refine hK _ ?_; clear hK K; (try simp only [nA, Nat.reduceBEq, Nat.reduceEqDiff, ↓reduceIte, Nat.reduceAdd, Nat.reduceSub]))
  (refine AW.seq_k ?_; intro K hK)
  refine AW.region ?_
  refine awP (op_move rfl rfl) ?_; (simp only [nA, ↓reduceIte])
  refine awP (op_move rfl rfl) ?_; (simp only [nA, ↓reduceIte])
  refine awJ (op_call1 rfl en8 (C8 hl hn) (by exact rfl) (RL.cons .ptr (RL.cons (.base (by exact View.same rfl)) (RL.nil))) (by exact ⟨_, _, _, rfl, rfl, rfl⟩) (by exact rfl) (by exact rfl) (by exact rfl)) ?_; (try simp only [nA, Nat.reduceBEq, Nat.reduceEqDiff, ↓reduceIte, Nat.reduceAdd, Nat.reduceSub])
  refine awJ (op_call (b := false) rfl en39 (C39 (i := gmod (rawV l k) n)) (RL.cons (by exact View.same rfl) (RL.nil)) rfl (fun h => by cases h) rfl rfl) ?_; (try simp only [nA, Nat.reduceBEq, Nat.reduceEqDiff, ↓reduceIte, Nat.reduceAdd, Nat.reduceSub])
  refine awJ (op_store rfl rfl rfl rfl rfl rfl sz30 rfl (bl rfl) rfl) ?_; (simp only [nA, Nat.reduceBEq, Nat.reduceEqDiff, ↓reduceIte])
  refine AWL.nil ?_
  (refine hK _ ?_; clear hK K; (skip))
  skip
  refine AW.ret ?_; (try simp only [thenE, inBlk, Nat.reduceEqDiff, ↓reduceIte]); exact RQ.of (.inl rfl) rfl (.cell (bl rfl) rfl rfl rfl ag30 sz30 (bl rfl) rfl rfl .nil) (by simp) rfl (one_out rfl)
abbrev catsL : List Int := [0, 0, 0, 1, 1, 2, 3, 4]
abbrev pieceV (l : List Int) (k : Nat) (n : Int) : Piece := ⟨platesP (gmod (rawV l k) n), 1 + gmod (rawV l (rawN l k)) 40, pickV l (rawN l (rawN l k)) catsL⟩
set_option maxHeartbeats 8000000 in
theorem C40 {l : List Int} {k : Nat} {n : Int} (hl : l.length ≤ 2000) (hn : n ≤ 9223372036854775807) : Fn Tryz.prog 40 [.own 53 [srcRow l k]] [.ptr 0 0 0 0, .v (.int .i64 n)] [.agg (pieceV l k n).av] [.own 53 [srcRow l (rawN l (rawN l (rawN l k)))]] := by
  have hg := gmod_bd (x := rawV l (rawN l k)) (n := 40) (by decide)
  refine Spec.body Tryz.func40 rfl Tryz.ntmps40 (by simp) rfl ?_; intro S0 own0 v0 w0 gl
  (refine AW.seq_k ?_; intro K hK)
  refine AW.region ?_
  refine awJ (op_alloc rfl ze37 rfl) ?_; (simp only [nA, Nat.reduceBEq, Nat.reduceEqDiff, ↓reduceIte])
  refine AWL.nil ?_
  (refine hK _ ?_; clear hK K; (try simp only [nA, Nat.reduceBEq, Nat.reduceEqDiff, ↓reduceIte, Nat.reduceAdd, Nat.reduceSub]))
  (refine AW.seq_k ?_; intro K hK)
  refine AW.region ?_
  refine awP (op_move rfl rfl) ?_; (simp only [nA, ↓reduceIte])
  refine awP (op_move rfl rfl) ?_; (simp only [nA, ↓reduceIte])
  refine awJ (op_call1 rfl en21 (C21 hl hn) (by exact rfl) (RL.cons .ptr (RL.cons (.base (by exact View.same rfl)) (RL.nil))) (by exact ⟨_, _, _, rfl, rfl, rfl⟩) (by exact rfl) (by exact rfl) (by exact rfl)) ?_; (try simp only [nA, Nat.reduceBEq, Nat.reduceEqDiff, ↓reduceIte, Nat.reduceAdd, Nat.reduceSub])
  refine awP (op_move rfl rfl) ?_; (simp only [nA, ↓reduceIte])
  refine awJ (op_call1 rfl en8 (C8 (n := 40) hl (by decide)) (by exact rfl) (RL.cons .ptr (RL.cons (.base (by exact View.same rfl)) (RL.nil))) (by exact ⟨_, _, _, rfl, rfl, rfl⟩) (by exact rfl) (by exact rfl) (by exact rfl)) ?_; (try simp only [nA, Nat.reduceBEq, Nat.reduceEqDiff, ↓reduceIte, Nat.reduceAdd, Nat.reduceSub])
  (refine awP (op_addi rfl rfl rfl (by omega)) ?_); (try simp only [nA, Nat.reduceBEq, Nat.reduceEqDiff, ↓reduceIte, Nat.reduceAdd, Nat.reduceSub])
  refine awP (op_move rfl rfl) ?_; (simp only [nA, ↓reduceIte])
  refine awJ (op_buildSlice rfl [(0, iv 0), (1, iv 0), (2, iv 0), (3, iv 1), (4, iv 1), (5, iv 2), (6, iv 3), (7, iv 4)] (([0, 0, 0, 1, 1, 2, 3, 4] : List Int).map iv) Tryz.underlying23 ze3 rfl (by simp) (fold_dense 1 (([0, 0, 0, 1, 1, 2, 3, 4] : List Int).map iv) (iv_len _)) (iv_len _) rfl (bl rfl) (by simp [maxLen])) ?_; (simp only [nA, Nat.reduceBEq, Nat.reduceEqDiff, ↓reduceIte]); refine AWL.gh (Gh.freeze 12 (bl rfl) rfl rfl (iv_flat catsL) (es' := catsL.map iv) rfl) ?_; (try simp only [nA, Nat.reduceBEq, Nat.reduceEqDiff, ↓reduceIte, Nat.reduceAdd, Nat.reduceSub])
  refine awJ (op_call1 rfl en22 (C22 (xs := catsL) hl (by decide) (by decide)) (by exact rfl) (RL.cons .ptr (RL.cons (.base (by exact View.same rfl)) (RL.nil))) (by exact ⟨_, _, _, rfl, rfl, rfl⟩) (by exact rfl) (by exact rfl) (by exact rfl)) ?_; (try simp only [nA, Nat.reduceBEq, Nat.reduceEqDiff, ↓reduceIte, Nat.reduceAdd, Nat.reduceSub])
  refine awP (op_build2 (xs := [_, _, _, _, _]) rfl pl37 ze37 [(0, [_, _, _]), (1, [_]), (2, [_])] rfl rfl rfl) ?_; (simp only [nA, ↓reduceIte])
  refine awJ (op_store rfl rfl rfl rfl rfl rfl sz37 rfl (bl rfl) rfl) ?_; (simp only [nA, Nat.reduceBEq, Nat.reduceEqDiff, ↓reduceIte])
  refine AWL.nil ?_
  (refine hK _ ?_; clear hK K; (skip))
  skip
  refine AW.ret ?_; (try simp only [thenE, inBlk, Nat.reduceEqDiff, ↓reduceIte]); exact RQ.of (.inl rfl) rfl (.cell (bl rfl) rfl rfl rfl ag37 sz37 (bl rfl) rfl rfl .nil) (by simp) rfl (one_out rfl)
end Go.Proofs.YtfmnaigedgmhoaaGreatDoor
namespace Go.Proofs.YtfmnaigedgmhoaaGreatDoor
open Go.RowKit
set_option linter.unusedSimpArgs false
set_option linter.unusedVariables false
set_option maxRecDepth 100000
abbrev sv (s : ByteArray) : List AV := [.v (.string s)]
def textV (l : List Int) (k : Nat) (ss : List ByteArray) : ByteArray := ss.getD (gmod (rawV l k) (ss.length : Nat)).toNat default
set_option maxHeartbeats 8000000 in
theorem C20 {l : List Int} {k : Nat} {ss : List ByteArray} (hl : l.length ≤ 2000) (h1 : 1 ≤ ss.length) (h2 : ss.length ≤ 1000) : Fn Tryz.prog 20 [.own 53 [srcRow l k]] [.ptr 0 0 0 0, .ro (ss.map sv)] [.v (.string (textV l k ss))] [.own 53 [srcRow l (rawN l k)]] := by
  have hg := gmod_bd (x := rawV l k) (n := (ss.length : Nat)) (by omega)
  refine Spec.body Tryz.func20 rfl Tryz.ntmps20 (by simp) rfl ?_; intro S0 own0 v0 w0 gl
  (refine AW.seq_k ?_; intro K hK)
  refine AW.region ?_
  refine awP (op_assign rfl rfl) ?_
  refine AWL.nil ?_
  (refine hK _ ?_; clear hK K; (try simp only [nA, Nat.reduceBEq, Nat.reduceEqDiff, ↓reduceIte, Nat.reduceAdd, Nat.reduceSub]))
  (refine AW.seq_k ?_; intro K hK)
  refine AW.region ?_
  refine awP (op_move rfl rfl) ?_
  refine awP (op_move rfl rfl) ?_
  refine awP (op_move rfl rfl) ?_
  refine awP (op_len_ro (n := ss.length) rfl rfl Tryz.underlying64 (.inr (.inl ⟨_, rfl, by simp⟩))) ?_
  refine awJ (op_call1 rfl en8 (C8 hl (n := (ss.length : Nat)) (by omega)) (by exact rfl) (RL.cons .ptr (RL.cons (.base (by exact View.same rfl)) (RL.nil))) (by exact ⟨_, _, _, rfl, rfl, rfl⟩) (by exact rfl) (by exact rfl) (by exact rfl)) ?_; (simp only [nA, ↓reduceIte])
  refine awP (op_ia_ro (gmod (rawV l k) (ss.length : Nat)).toNat rfl (.inl rfl) rfl Tryz.underlying64 (by omega) (get_mapD (f := sv) (xs := ss) (by omega)) (by exact sz9) (bl rfl)) ?_
  (refine awR (op_load_rop1 rfl rfl ag9) ?_)
  refine awP (op_assign rfl rfl) ?_
  refine AWL.nil ?_
  (refine hK _ ?_; clear hK K; (simp only [nA]))
  skip
  refine AW.ret ?_; (try simp only [thenE, inBlk, Nat.reduceEqDiff, ↓reduceIte]); exact RQ.of (.inl rfl) rfl (.tmp (bl rfl) rfl rfl .nil) (by simp) rfl (one_out rfl)
abbrev carL : List ByteArray := [⟨#[83, 75]⟩, ⟨#[66, 65]⟩, ⟨#[76, 72]⟩]
abbrev flS (l : List Int) (k : Nat) : Flight := ⟨textV l k carL, 1 + gmod (rawV l (rawN l k)) 3, ⟨#[]⟩, 1 + gmod (rawV l (rawN l (rawN l k))) 3⟩
set_option maxHeartbeats 8000000 in
theorem C23 {l : List Int} {k : Nat} (hl : l.length ≤ 2000) : Fn Tryz.prog 23 [.own 53 [srcRow l k]] [.ptr 0 0 0 0] [.agg (flS l k).av] [.own 53 [srcRow l (rawN l (rawN l (rawN l k)))]] := by
  have hg1 := gmod_bd (x := rawV l (rawN l k)) (n := 3) (by decide)
  have hg2 := gmod_bd (x := rawV l (rawN l (rawN l k))) (n := 3) (by decide)
  refine Spec.body Tryz.func23 rfl Tryz.ntmps23 (by simp) rfl ?_; intro S0 own0 v0 w0 gl
  (refine AW.seq_k ?_; intro K hK)
  refine AW.region ?_
  refine awJ (op_alloc rfl ze33 rfl) ?_; (simp only [nA, Nat.reduceBEq, Nat.reduceEqDiff, ↓reduceIte])
  refine AWL.nil ?_
  (refine hK _ ?_; clear hK K; (try simp only [nA, Nat.reduceBEq, Nat.reduceEqDiff, ↓reduceIte, Nat.reduceAdd, Nat.reduceSub]))
  (refine AW.seq_k ?_; intro K hK)
  refine AW.region ?_
  refine awP (op_move rfl rfl) ?_
  refine awJ (OpJ.frz (op_buildSlice rfl [(0, sv ⟨#[83, 75]⟩), (1, sv ⟨#[66, 65]⟩), (2, sv ⟨#[76, 72]⟩)] (carL.map sv) Tryz.underlying64 ze9 rfl (by simp) rfl (by simp) rfl (bl rfl) (by simp [maxLen])) (by simp [flatA]) rfl) ?_; (simp only [nA, ↓reduceIte])
  refine awJ (op_call1 rfl en20 (C20 (ss := carL) hl (by decide) (by decide)) (by exact rfl) (RL.cons .ptr (RL.cons (.base (by exact View.same rfl)) (RL.nil))) (by exact ⟨_, _, _, rfl, rfl, rfl⟩) (by exact rfl) (by exact rfl) (by exact rfl)) ?_; (try simp only [nA, Nat.reduceBEq, Nat.reduceEqDiff, ↓reduceIte, Nat.reduceAdd, Nat.reduceSub])
  refine awP (op_move rfl rfl) ?_
  refine awJ (op_call1 rfl en8 (C8 (n := 3) hl (by decide)) (by exact rfl) (RL.cons .ptr (RL.cons (.base (by exact View.same rfl)) (RL.nil))) (by exact ⟨_, _, _, rfl, rfl, rfl⟩) (by exact rfl) (by exact rfl) (by exact rfl)) ?_; (simp only [nA, ↓reduceIte])
  (refine awP (op_addi rfl rfl rfl (by omega)) ?_)
  refine awP (op_move rfl rfl) ?_
  refine awJ (op_call1 rfl en8 (C8 (n := 3) hl (by decide)) (by exact rfl) (RL.cons .ptr (RL.cons (.base (by exact View.same rfl)) (RL.nil))) (by exact ⟨_, _, _, rfl, rfl, rfl⟩) (by exact rfl) (by exact rfl) (by exact rfl)) ?_; (simp only [nA, ↓reduceIte])
  (refine awP (op_addi rfl rfl rfl (by omega)) ?_)
  refine awP (op_build2 (xs := [_, _, .v (.string ⟨#[]⟩), _]) rfl pl33 ze33 [(0, [_]), (1, [_]), (3, [_])] rfl rfl rfl) ?_
  refine awJ (op_store rfl rfl rfl rfl rfl rfl sz33 rfl (bl rfl) rfl) ?_; (simp only [nA, Nat.reduceBEq, Nat.reduceEqDiff, ↓reduceIte])
  refine AWL.nil ?_
  (refine hK _ ?_; clear hK K; (skip))
  skip
  refine AW.ret ?_; (try simp only [thenE, inBlk, Nat.reduceEqDiff, ↓reduceIte]); exact RQ.of (.inl rfl) rfl (.cell (bl rfl) rfl rfl rfl ag33 sz33 (bl rfl) rfl rfl .nil) (by simp) rfl (one_out rfl)
end Go.Proofs.YtfmnaigedgmhoaaGreatDoor
namespace Go.Proofs.YtfmnaigedgmhoaaGreatDoor
open Go.RowKit
set_option linter.unusedSimpArgs false
set_option linter.unusedVariables false
set_option maxRecDepth 100000
abbrev PL := Plate
theorem bytes_ext {a b : ByteArray} (h : a.data.toList = b.data.toList) : a = b := by
  obtain ⟨⟨x⟩⟩ := a
  obtain ⟨⟨y⟩⟩ := b
  simp at h
  rw [h]
abbrev BL := List UInt8
def byI (x : Int) : UInt8 := UInt8.ofNat (x % 256).toNat
def b4 (n : Int) : BL := [byI (n / 16777216), byI (n / 65536), byI (n / 256), byI n]
def n4 (a b c d : UInt8) : Int := ((a.toNat * 16777216 + b.toNat * 65536 + c.toNat * 256 + d.toNat : Nat) : Int)
theorem byI_nat (x : Int) : ((byI x).toNat : Int) = x % 256 := by
  unfold byI
  rw [UInt8.toNat_ofNat']
  omega
theorem n4_lt (a b c d : UInt8) : 0 ≤ n4 a b c d ∧ n4 a b c d < 4294967296 := by
  have h1 := a.toNat_lt; have h2 := b.toNat_lt; have h3 := c.toNat_lt; have h4 := d.toNat_lt
  unfold n4
  omega
theorem n4_b4 {n : Int} (h : 0 ≤ n ∧ n < 4294967296) : n4 (byI (n / 16777216)) (byI (n / 65536)) (byI (n / 256)) (byI n) = n := by
  have h1 := byI_nat (n / 16777216); have h2 := byI_nat (n / 65536); have h3 := byI_nat (n / 256); have h4 := byI_nat n
  unfold n4
  omega
theorem byI_of {x : Int} {a : UInt8} (h : x % 256 = (a.toNat : Int)) : byI x = a := by
  apply UInt8.toNat_inj.1
  have := byI_nat x
  omega
theorem b4_n4 (a b c d : UInt8) : b4 (n4 a b c d) = [a, b, c, d] := by
  have h1 := a.toNat_lt; have h2 := b.toNat_lt; have h3 := c.toNat_lt; have h4 := d.toNat_lt
  unfold b4
  rw [byI_of (a := a) (by unfold n4; omega), byI_of (a := b) (by unfold n4; omega), byI_of (a := c) (by unfold n4; omega), byI_of (a := d) (by unfold n4; omega)]
abbrev P (α : Type) := BL → Option (α × BL)
def pb {α β : Type} (p : P α) (f : α → P β) : P β := fun b => match p b with | some (a, r) => f a r | none => none
def pp {α : Type} (a : α) : P α := fun b => some (a, b)
theorem pb_some {α β : Type} {p : P α} {f : α → P β} {b r : BL} {a : α} (h : p b = some (a, r)) : pb p f b = f a r := by
  show (match p b with | some (a, r) => f a r | none => none) = _
  rw [h]
theorem pb_none {α β : Type} {p : P α} {f : α → P β} {b : BL} (h : p b = none) : pb p f b = none := by
  show (match p b with | some (a, r) => f a r | none => none) = _
  rw [h]
theorem pb_inv {α β : Type} {p : P α} {f : α → P β} {b r : BL} {z : β} (h : pb p f b = some (z, r)) : ∃ a r1, p b = some (a, r1) ∧ f a r1 = some (z, r) := by
  cases hp : p b with
  | none => rw [pb_none hp] at h; cases h
  | some xr => exact ⟨xr.1, xr.2, rfl, by rw [pb_some (show p b = some (xr.1, xr.2) from hp)] at h; exact h⟩
structure Cod {α : Type} (p : P α) (e : α → BL) (ok : α → Prop) : Prop where
  to : ∀ x r, ok x → p (e x ++ r) = some (x, r)
  of : ∀ b x r, p b = some (x, r) → b = e x ++ r ∧ ok x
theorem Cod.bind {α β γ : Type} {p : P α} {e : α → BL} {ok : α → Prop} {q : P β} {e2 : β → BL} {ok2 : β → Prop} (h : Cod p e ok) (h2 : Cod q e2 ok2) (f : α → β → γ) (g1 : γ → α) (g2 : γ → β) (hf : ∀ z, f (g1 z) (g2 z) = z) (h1' : ∀ x y, g1 (f x y) = x) (h2' : ∀ x y, g2 (f x y) = y) :
    Cod (pb p fun x => pb q fun y => pp (f x y)) (fun z => e (g1 z) ++ e2 (g2 z)) (fun z => ok (g1 z) ∧ ok2 (g2 z)) := by
  constructor
  · intro z r ⟨hz, hz2⟩
    rw [List.append_assoc, pb_some (h.to _ _ hz), pb_some (h2.to _ _ hz2)]
    show some (f (g1 z) (g2 z), r) = _
    rw [hf]
  intro b z r hz
  obtain ⟨x, r1, hp, hz⟩ := pb_inv hz
  obtain ⟨y, r2, hq, hz⟩ := pb_inv hz
  cases hz
  obtain ⟨hb, hx⟩ := h.of _ _ _ hp
  obtain ⟨hb2, hy⟩ := h2.of _ _ _ hq
  subst hb2
  refine ⟨?_, by rw [h1']; exact hx, by rw [h2']; exact hy⟩
  rw [h1', h2', List.append_assoc]
  exact hb
def pNum : P Int := fun b => match b with | a :: b :: c :: d :: r => some (n4 a b c d, r) | _ => none
def okN (n : Int) : Prop := 0 ≤ n ∧ n < 4294967296
theorem cNum : Cod pNum b4 okN := by
  constructor
  · intro n r h
    show some (n4 _ _ _ _, r) = _
    rw [n4_b4 h]
  intro b n r h
  match b, h with
  | x :: y :: z :: w :: r', h =>
    cases h
    exact ⟨by rw [b4_n4]; rfl, n4_lt ..⟩
def eTr (t : Bool) : BL := [if t then 1 else 0]
def pTr : P Bool := fun b => match b with | a :: r => if a = 0 then some (false, r) else if a = 1 then some (true, r) else none | [] => none
theorem cTr : Cod pTr eTr fun _ => True := by
  constructor
  · intro t r _
    cases t <;> rfl
  intro b t r h
  match b, h with
  | a :: r', h =>
    unfold pTr at h
    by_cases h0 : a = 0
    · simp only [h0, if_true] at h; cases h; exact ⟨by subst h0; rfl, trivial⟩
    by_cases h1 : a = 1
    · simp only [h1] at h; cases h; exact ⟨by subst h1; rfl, trivial⟩
    simp only [if_neg h0, if_neg h1] at h; cases h
def strB (l : BL) : ByteArray := ⟨l.toArray⟩
theorem strB_eq (s : ByteArray) : strB s.data.toList = s := by obtain ⟨⟨l⟩⟩ := s; rfl
theorem strB_data (l : BL) : (strB l).data.toList = l := rfl
theorem size_data (s : ByteArray) : s.data.toList.length = s.size := by show s.data.toList.length = s.data.size; simp
def eWd (s : ByteArray) : BL := b4 (s.size : Nat) ++ s.data.toList
def tkS (n : Int) : P ByteArray := fun b => if n ≤ (b.length : Nat) then some (strB (b.take n.toNat), b.drop n.toNat) else none
def pWd : P ByteArray := pb pNum tkS
def okS (s : ByteArray) : Prop := s.size < 4294967296
theorem tkS_yes {n : Int} {b : BL} (h : n ≤ (b.length : Nat)) : tkS n b = some (strB (b.take n.toNat), b.drop n.toNat) := if_pos h
theorem tkS_no {n : Int} {b : BL} (h : ¬ n ≤ (b.length : Nat)) : tkS n b = none := if_neg h
theorem cWd : Cod pWd eWd okS := by
  constructor
  · intro s r h
    have hk : okN ((s.size : Nat) : Int) := by unfold okN okS at *; omega
    have e := size_data s
    show pb pNum tkS ((b4 (s.size : Nat) ++ s.data.toList) ++ r) = _
    have hn : ((s.size : Nat) : Int).toNat = s.size := by omega
    rw [List.append_assoc, pb_some (cNum.to _ _ hk), tkS_yes (by rw [List.length_append]; omega), hn, List.take_left' e, List.drop_left' e, strB_eq]
  intro b s r h
  obtain ⟨n, r1, hp, h⟩ := pb_inv (p := pNum) (f := tkS) h
  obtain ⟨hb, hk⟩ := cNum.of _ _ _ hp
  have h0 := hk.1
  by_cases hn : n ≤ (r1.length : Nat)
  · rw [tkS_yes hn] at h
    have h := Option.some.inj h
    have hs : strB (r1.take n.toNat) = s := congrArg Prod.fst h
    have hr : r1.drop n.toNat = r := congrArg Prod.snd h
    subst hs; subst hr
    have hl : (strB (r1.take n.toNat)).size = n.toNat := by rw [← size_data, strB_data, List.length_take]; omega
    have he : ((n.toNat : Nat) : Int) = n := by omega
    refine ⟨?_, ?_⟩
    · show b = (b4 ((strB (r1.take n.toNat)).size : Nat) ++ (strB (r1.take n.toNat)).data.toList) ++ r1.drop n.toNat
      rw [hl, strB_data, List.append_assoc, List.take_append_drop, he]
      exact hb
    unfold okS okN at *
    rw [hl]
    omega
  rw [tkS_no hn] at h; cases h
def ePl (p : PL) : BL := b4 p.lead ++ (b4 p.airline ++ b4 p.serial)
def pPl : P PL := pb pNum fun a => pb (pb pNum fun b => pb pNum fun c => pp (b, c)) fun bc => pp ⟨a, bc.1, bc.2⟩
def okPl (p : PL) : Prop := okN p.lead ∧ okN p.airline ∧ okN p.serial
theorem cPl : Cod pPl ePl okPl := cNum.bind (cNum.bind cNum Prod.mk Prod.fst Prod.snd (fun _ => rfl) (fun _ _ => rfl) (fun _ _ => rfl)) (fun a bc => (⟨a, bc.1, bc.2⟩ : PL)) (·.lead) (fun p => (p.airline, p.serial)) (fun _ => rfl) (fun _ _ => rfl) (fun _ _ => rfl)
def eFl (f : Flight) : BL := eWd f.carrier ++ (b4 f.number ++ (eWd f.suffix ++ b4 f.day))
def pFl : P Flight := pb pWd fun a => pb (pb pNum fun b => pb (pb pWd fun c => pb pNum fun d => pp (c, d)) fun cd => pp (b, cd)) fun x => pp ⟨a, x.1, x.2.1, x.2.2⟩
def okFl (f : Flight) : Prop := okS f.carrier ∧ okN f.number ∧ okS f.suffix ∧ okN f.day
theorem cFl : Cod pFl eFl okFl := cWd.bind (cNum.bind (cWd.bind cNum Prod.mk Prod.fst Prod.snd (fun _ => rfl) (fun _ _ => rfl) (fun _ _ => rfl)) Prod.mk Prod.fst Prod.snd (fun _ => rfl) (fun _ _ => rfl) (fun _ _ => rfl))
  (fun a x => (⟨a, x.1, x.2.1, x.2.2⟩ : Flight)) (·.carrier) (fun f => (f.number, f.suffix, f.day)) (fun _ => rfl) (fun _ _ => rfl) (fun _ _ => rfl)
def ePi (p : Piece) : BL := ePl p.plate ++ (b4 p.weight ++ b4 p.category)
def pPi : P Piece := pb pPl fun a => pb (pb pNum fun b => pb pNum fun c => pp (b, c)) fun x => pp ⟨a, x.1, x.2⟩
def okPi (p : Piece) : Prop := okPl p.plate ∧ okN p.weight ∧ okN p.category
theorem cPi : Cod pPi ePi okPi := cPl.bind (cNum.bind cNum Prod.mk Prod.fst Prod.snd (fun _ => rfl) (fun _ _ => rfl) (fun _ _ => rfl)) (fun a bc => (⟨a, bc.1, bc.2⟩ : Piece)) (·.plate) (fun p => (p.weight, p.category)) (fun _ => rfl) (fun _ _ => rfl) (fun _ _ => rfl)
def eOp (o : Op) : BL := b4 o.time ++ (b4 o.device ++ (b4 o.seq ++ (b4 o.kind ++ (b4 o.cont ++ ePi o.piece))))
def pOp : P Op := pb pNum fun a => pb (pb pNum fun b => pb (pb pNum fun c => pb (pb pNum fun d => pb (pb pNum fun e => pb pPi fun f => pp (e, f)) fun x => pp (d, x)) fun x => pp (c, x)) fun x => pp (b, x)) fun x => pp ⟨a, x.1, x.2.1, x.2.2.1, x.2.2.2.1, x.2.2.2.2⟩
def okOp (o : Op) : Prop := okN o.time ∧ okN o.device ∧ okN o.seq ∧ okN o.kind ∧ okN o.cont ∧ okPi o.piece
theorem cOp : Cod pOp eOp okOp :=
  cNum.bind (cNum.bind (cNum.bind (cNum.bind (cNum.bind cPi Prod.mk Prod.fst Prod.snd (fun _ => rfl) (fun _ _ => rfl) (fun _ _ => rfl)) Prod.mk Prod.fst Prod.snd (fun _ => rfl) (fun _ _ => rfl) (fun _ _ => rfl))
    Prod.mk Prod.fst Prod.snd (fun _ => rfl) (fun _ _ => rfl) (fun _ _ => rfl)) Prod.mk Prod.fst Prod.snd (fun _ => rfl) (fun _ _ => rfl) (fun _ _ => rfl))
    (fun a x => (⟨a, x.1, x.2.1, x.2.2.1, x.2.2.2.1, x.2.2.2.2⟩ : Op)) (·.time) (fun o => (o.device, o.seq, o.kind, o.cont, o.piece)) (fun _ => rfl) (fun _ _ => rfl) (fun _ _ => rfl)
structure Report where
  device : Int
  seen : Bool
  read : ByteArray
structure Rev where
  kind : Int
  amount : Int
  fl : Flight
def eRp (r : Report) : BL := b4 r.device ++ (eTr r.seen ++ eWd r.read)
def pRp : P Report := pb pNum fun a => pb (pb pTr fun b => pb pWd fun c => pp (b, c)) fun x => pp ⟨a, x.1, x.2⟩
def okRp (r : Report) : Prop := okN r.device ∧ True ∧ okS r.read
theorem cRp : Cod pRp eRp okRp := cNum.bind (cTr.bind cWd Prod.mk Prod.fst Prod.snd (fun _ => rfl) (fun _ _ => rfl) (fun _ _ => rfl)) (fun a bc => (⟨a, bc.1, bc.2⟩ : Report)) (·.device) (fun p => (p.seen, p.read)) (fun _ => rfl) (fun _ _ => rfl) (fun _ _ => rfl)
def eRv (r : Rev) : BL := b4 r.kind ++ (b4 r.amount ++ eFl r.fl)
def pRv : P Rev := pb pNum fun a => pb (pb pNum fun b => pb pFl fun c => pp (b, c)) fun x => pp ⟨a, x.1, x.2⟩
def okRv (r : Rev) : Prop := okN r.kind ∧ okN r.amount ∧ okFl r.fl
theorem cRv : Cod pRv eRv okRv := cNum.bind (cNum.bind cFl Prod.mk Prod.fst Prod.snd (fun _ => rfl) (fun _ _ => rfl) (fun _ _ => rfl)) (fun a bc => (⟨a, bc.1, bc.2⟩ : Rev)) (·.kind) (fun p => (p.amount, p.fl)) (fun _ => rfl) (fun _ _ => rfl) (fun _ _ => rfl)
def pRep {α : Type} (p : P α) : Nat → P (List α)
  | 0 => pp []
  | n + 1 => pb p fun x => pb (pRep p n) fun xs => pp (x :: xs)
theorem pRep_to {α : Type} {p : P α} {e : α → BL} {ok : α → Prop} (h : Cod p e ok) : ∀ (l : List α) (r : BL), (∀ x ∈ l, ok x) → pRep p l.length (l.flatMap e ++ r) = some (l, r)
  | [], r, _ => rfl
  | x :: l, r, hl => by
    show pb p (fun x => pb (pRep p l.length) fun xs => pp (x :: xs)) _ = _
    rw [List.flatMap_cons, List.append_assoc, pb_some (h.to _ _ (hl x (by simp))), pb_some (pRep_to h l r fun y hy => hl y (by simp [hy]))]
    rfl
theorem pRep_of {α : Type} {p : P α} {e : α → BL} {ok : α → Prop} (h : Cod p e ok) : ∀ (n : Nat) (b : BL) (l : List α) (r : BL), pRep p n b = some (l, r) → b = l.flatMap e ++ r ∧ l.length = n ∧ ∀ x ∈ l, ok x
  | 0, b, l, r, hb => by cases hb; exact ⟨rfl, rfl, fun x hx => by cases hx⟩
  | n + 1, b, l, r, hb => by
    obtain ⟨x, r1, hp, hb⟩ := pb_inv (p := p) (f := fun x => pb (pRep p n) fun xs => pp (x :: xs)) hb
    obtain ⟨xs, r2, hq, hb⟩ := pb_inv hb
    cases hb
    obtain ⟨h1, hx⟩ := h.of _ _ _ hp
    obtain ⟨h2, h3, h4⟩ := pRep_of h n _ _ _ hq
    refine ⟨by rw [List.flatMap_cons, List.append_assoc, ← h2]; exact h1, by simp [h3], ?_⟩
    intro y hy
    rcases List.mem_cons.1 hy with rfl | hy
    · exact hx
    exact h4 y hy
def eLs {α : Type} (e : α → BL) (l : List α) : BL := b4 (l.length : Nat) ++ l.flatMap e
def pLs {α : Type} (p : P α) : P (List α) := pb pNum fun n => pRep p n.toNat
def okLs {α : Type} (ok : α → Prop) (l : List α) : Prop := l.length < 4294967296 ∧ ∀ x ∈ l, ok x
theorem cLs {α : Type} {p : P α} {e : α → BL} {ok : α → Prop} (h : Cod p e ok) : Cod (pLs p) (eLs e) (okLs ok) := by
  constructor
  · intro l r ⟨hn, hl⟩
    have hk : okN ((l.length : Nat) : Int) := by unfold okN; omega
    have he : ((l.length : Nat) : Int).toNat = l.length := by omega
    show pb pNum (fun n => pRep p n.toNat) ((b4 (l.length : Nat) ++ l.flatMap e) ++ r) = _
    rw [List.append_assoc, pb_some (cNum.to _ _ hk), he]
    exact pRep_to h l r hl
  intro b l r hb
  obtain ⟨n, r1, hp, hb⟩ := pb_inv (p := pNum) (f := fun n => pRep p n.toNat) hb
  obtain ⟨h1, hk⟩ := cNum.of _ _ _ hp
  obtain ⟨h2, h3, h4⟩ := pRep_of h _ _ _ _ hb
  unfold okN at hk
  have he : ((n.toNat : Nat) : Int) = n := by omega
  refine ⟨?_, by omega, h4⟩
  show b = (b4 (l.length : Nat) ++ l.flatMap e) ++ r
  rw [h3, he, List.append_assoc, ← h2]
  exact h1
structure Ev where
  kind : Int
  time : Int
  text : ByteArray
  plate : Plate
  node : Int
  image : Int
  clear : Bool
  reports : List Report
  rev : Rev
  device : Int
  op : Op
  ops : List Op
  fl : Flight
abbrev emptyS : ByteArray := ⟨#[]⟩
abbrev fl0 : Flight := ⟨emptyS, 0, emptyS, 0⟩
abbrev op0 : Op := ⟨0, 0, 0, 0, 0, ⟨⟨0, 0, 0⟩, 0, 0⟩⟩
abbrev rev0 : Rev := ⟨0, 0, fl0⟩
abbrev ev0 (k : Int) : Ev := ⟨k, 0, emptyS, ⟨0, 0, 0⟩, 0, 0, false, [], rev0, 0, op0, [], fl0⟩
/-- The parts: 0 time, 1 text, 2 bag, 3 node, 4 image, 5 clear, 6 reports, 7 revision, 8 device, 9 op, 10 ops, 11 leg. -/
def setP (p : Nat) (x y : Ev) : Ev := match p with
  | 0 => { y with time := x.time } | 1 => { y with text := x.text } | 2 => { y with plate := x.plate } | 3 => { y with node := x.node } | 4 => { y with image := x.image } | 5 => { y with clear := x.clear }
  | 6 => { y with reports := x.reports } | 7 => { y with rev := x.rev } | 8 => { y with device := x.device } | 9 => { y with op := x.op } | 10 => { y with ops := x.ops } | 11 => { y with fl := x.fl } | _ => y
def ePart (x : Ev) (p : Nat) : BL := match p with
  | 0 => b4 x.time | 1 => eWd x.text | 2 => ePl x.plate | 3 => b4 x.node | 4 => b4 x.image | 5 => eTr x.clear | 6 => eLs eRp x.reports | 7 => eRv x.rev | 8 => b4 x.device | 9 => eOp x.op | 10 => eLs eOp x.ops | 11 => eFl x.fl | _ => []
def okPart (x : Ev) (p : Nat) : Prop := match p with
  | 0 => okN x.time | 1 => okS x.text | 2 => okPl x.plate | 3 => okN x.node | 4 => okN x.image | 5 => True | 6 => okLs okRp x.reports | 7 => okRv x.rev | 8 => okN x.device | 9 => okOp x.op | 10 => okLs okOp x.ops | 11 => okFl x.fl | _ => True
def dPart (p : Nat) (y : Ev) : P Ev := match p with
  | 0 => pb pNum fun n => pp { y with time := n } | 1 => pb pWd fun n => pp { y with text := n } | 2 => pb pPl fun n => pp { y with plate := n } | 3 => pb pNum fun n => pp { y with node := n }
  | 4 => pb pNum fun n => pp { y with image := n } | 5 => pb pTr fun n => pp { y with clear := n } | 6 => pb (pLs pRp) fun n => pp { y with reports := n } | 7 => pb pRv fun n => pp { y with rev := n }
  | 8 => pb pNum fun n => pp { y with device := n } | 9 => pb pOp fun n => pp { y with op := n } | 10 => pb (pLs pOp) fun n => pp { y with ops := n } | 11 => pb pFl fun n => pp { y with fl := n } | _ => pp y
theorem cLsR : Cod (pLs pRp) (eLs eRp) (okLs okRp) := cLs cRp
theorem cLsO : Cod (pLs pOp) (eLs eOp) (okLs okOp) := cLs cOp
theorem cut_to {α : Type} {p : P α} {e : α → BL} {ok : α → Prop} (h : Cod p e ok) {f : α → Ev} {x : α} {r : BL} (hx : ok x) : pb p (fun n => pp (f n)) (e x ++ r) = some (f x, r) := by
  rw [pb_some (h.to _ _ hx)]; rfl
theorem dPart_to {p : Nat} {x y : Ev} {r : BL} (h : okPart x p) : dPart p y (ePart x p ++ r) = some (setP p x y, r) := by
  match p, h with
  | 0, h => exact cut_to (f := fun n => { y with time := n }) cNum h
  | 1, h => exact cut_to (f := fun n => { y with text := n }) cWd h
  | 2, h => exact cut_to (f := fun n => { y with plate := n }) cPl h
  | 3, h => exact cut_to (f := fun n => { y with node := n }) cNum h
  | 4, h => exact cut_to (f := fun n => { y with image := n }) cNum h
  | 5, h => exact cut_to (f := fun n => { y with clear := n }) cTr h
  | 6, h => exact cut_to (f := fun n => { y with reports := n }) cLsR h
  | 7, h => exact cut_to (f := fun n => { y with rev := n }) cRv h
  | 8, h => exact cut_to (f := fun n => { y with device := n }) cNum h
  | 9, h => exact cut_to (f := fun n => { y with op := n }) cOp h
  | 10, h => exact cut_to (f := fun n => { y with ops := n }) cLsO h
  | 11, h => exact cut_to (f := fun n => { y with fl := n }) cFl h
  | n + 12, h => rfl
theorem cut_of {α : Type} {p : P α} {e : α → BL} {ok : α → Prop} (h : Cod p e ok) {f : α → Ev} {b r : BL} {z : Ev} (hz : pb p (fun n => pp (f n)) b = some (z, r)) : ∃ n, z = f n ∧ b = e n ++ r ∧ ok n := by
  obtain ⟨n, r1, hp, hz⟩ := pb_inv hz
  cases hz
  exact ⟨n, rfl, h.of _ _ _ hp⟩
theorem dPart_of {p : Nat} {y z : Ev} {b r : BL} (h : dPart p y b = some (z, r)) : b = ePart z p ++ r ∧ okPart z p ∧ z = setP p z y := by
  match p, h with
  | 0, h => obtain ⟨n, rfl, h1, h2⟩ := cut_of cNum h; exact ⟨h1, h2, rfl⟩
  | 1, h => obtain ⟨n, rfl, h1, h2⟩ := cut_of cWd h; exact ⟨h1, h2, rfl⟩
  | 2, h => obtain ⟨n, rfl, h1, h2⟩ := cut_of cPl h; exact ⟨h1, h2, rfl⟩
  | 3, h => obtain ⟨n, rfl, h1, h2⟩ := cut_of cNum h; exact ⟨h1, h2, rfl⟩
  | 4, h => obtain ⟨n, rfl, h1, h2⟩ := cut_of cNum h; exact ⟨h1, h2, rfl⟩
  | 5, h => obtain ⟨n, rfl, h1, h2⟩ := cut_of cTr h; exact ⟨h1, h2, rfl⟩
  | 6, h => obtain ⟨n, rfl, h1, h2⟩ := cut_of cLsR h; exact ⟨h1, h2, rfl⟩
  | 7, h => obtain ⟨n, rfl, h1, h2⟩ := cut_of cRv h; exact ⟨h1, h2, rfl⟩
  | 8, h => obtain ⟨n, rfl, h1, h2⟩ := cut_of cNum h; exact ⟨h1, h2, rfl⟩
  | 9, h => obtain ⟨n, rfl, h1, h2⟩ := cut_of cOp h; exact ⟨h1, h2, rfl⟩
  | 10, h => obtain ⟨n, rfl, h1, h2⟩ := cut_of cLsO h; exact ⟨h1, h2, rfl⟩
  | 11, h => obtain ⟨n, rfl, h1, h2⟩ := cut_of cFl h; exact ⟨h1, h2, rfl⟩
  | n + 12, h => cases h; exact ⟨rfl, trivial, rfl⟩
def fieldsL (k : Int) : List Nat :=
  if k = 1 then [1] else if k = 2 then [2, 3] else if k = 3 then [0, 6] else if k = 4 then [4, 5] else if k = 5 then [7] else if k = 6 then [3] else if k = 7 then [3] else if k = 8 then [9, 3] else if k = 9 then [9]
  else if k = 10 then [2, 3] else if k = 11 then [8] else if k = 12 then [8, 10] else if k = 13 then [11] else []
theorem kind_cases {k : Int} (h : 1 ≤ k ∧ k ≤ 14) : k = 1 ∨ k = 2 ∨ k = 3 ∨ k = 4 ∨ k = 5 ∨ k = 6 ∨ k = 7 ∨ k = 8 ∨ k = 9 ∨ k = 10 ∨ k = 11 ∨ k = 12 ∨ k = 13 ∨ k = 14 := by omega
def decP : List Nat → Ev → P Ev
  | [], y => pp y
  | p :: l, y => pb (dPart p y) fun z => decP l z
def onlyP : List Nat → Ev → Ev → Ev
  | [], _, y => y
  | p :: l, x, y => onlyP l x (setP p x y)
theorem decP_to : ∀ {l : List Nat} {x y : Ev} {r : BL}, (∀ p ∈ l, okPart x p) → decP l y (l.flatMap (ePart x) ++ r) = some (onlyP l x y, r)
  | [], x, y, r, _ => rfl
  | p :: l, x, y, r, h => by
    show pb (dPart p y) (fun z => decP l z) _ = _
    rw [List.flatMap_cons, List.append_assoc, pb_some (dPart_to (h p (by simp)))]
    exact decP_to fun q hq => h q (by simp [hq])
theorem set_kind {p : Nat} {x y : Ev} : (setP p x y).kind = y.kind := by unfold setP; split <;> rfl
theorem ePart_set {p q : Nat} (h : p ≠ q) (x y : Ev) : ePart (setP q x y) p = ePart y p ∧ (okPart (setP q x y) p ↔ okPart y p) := by
  unfold setP
  split <;> (unfold ePart okPart; split <;> first | exact ⟨rfl, Iff.rfl⟩ | exact absurd rfl h)
theorem set_set {p q : Nat} (h : p ≠ q) (x y z : Ev) : setP p x (setP q y z) = setP q y (setP p x z) := by
  unfold setP
  split <;> split <;> first | rfl | exact absurd rfl h
theorem set_part {p q : Nat} (h : p ≠ q) (x y z : Ev) : setP p (setP q x y) z = setP p y z := by
  unfold setP
  split <;> (try rfl) <;> split <;> first | rfl | exact absurd rfl h
theorem dec1_of {p : Nat} {y z : Ev} {b r : BL} (h : decP [p] y b = some (z, r)) : b = ePart z p ++ r ∧ okPart z p ∧ z = setP p z y := by
  obtain ⟨w, r1, h1, h2⟩ := pb_inv (p := dPart p y) (f := fun z => decP [] z) h
  cases h2
  exact dPart_of h1
theorem dec2_of {p q : Nat} (hpq : p ≠ q) {y z : Ev} {b r : BL} (h : decP [p, q] y b = some (z, r)) : b = ePart z p ++ (ePart z q ++ r) ∧ okPart z p ∧ okPart z q ∧ z = setP q z (setP p z y) := by
  obtain ⟨w, r1, h1, h2⟩ := pb_inv (p := dPart p y) (f := fun z => decP [q] z) h
  obtain ⟨a1, a2, a3⟩ := dPart_of h1
  obtain ⟨b1, b2, b3⟩ := dec1_of h2
  have e := ePart_set hpq z w
  rw [← b3] at e
  refine ⟨by rw [e.1, ← b1]; exact a1, e.2.2 a2, b2, ?_⟩
  have hw : setP p z y = w := by rw [b3, set_part hpq]; exact a3.symm
  rw [hw]
  exact b3
def onlyV (x : Ev) : Ev := onlyP (fieldsL x.kind) x (ev0 x.kind)
def encB (x : Ev) : BL := byI x.kind :: (fieldsL x.kind).flatMap (ePart x)
theorem decP_of {k : Int} (hk : 1 ≤ k ∧ k ≤ 14) {z : Ev} {b r : BL} (h : decP (fieldsL k) (ev0 k) b = some (z, r)) : z.kind = k ∧ b = (fieldsL k).flatMap (ePart z) ++ r ∧ (∀ p ∈ fieldsL k, okPart z p) ∧ z = onlyV z := by
  have one : ∀ p, fieldsL k = [p] → z.kind = k ∧ b = (fieldsL k).flatMap (ePart z) ++ r ∧ (∀ p ∈ fieldsL k, okPart z p) ∧ z = onlyV z := fun p hp => by
    rw [hp] at h
    obtain ⟨h1, h2, h3⟩ := dec1_of h
    have hz : z.kind = k := by rw [h3, set_kind]
    refine ⟨hz, by rw [hp]; simpa using h1, by rw [hp]; simpa using h2, ?_⟩
    unfold onlyV
    rw [hz, hp]
    exact h3
  have two : ∀ p q, p ≠ q → fieldsL k = [p, q] → z.kind = k ∧ b = (fieldsL k).flatMap (ePart z) ++ r ∧ (∀ p ∈ fieldsL k, okPart z p) ∧ z = onlyV z := fun p q hpq hp => by
    rw [hp] at h
    obtain ⟨h1, h2, h2', h3⟩ := dec2_of hpq h
    have hz : z.kind = k := by rw [h3, set_kind, set_kind]
    refine ⟨hz, by rw [hp]; simpa using h1, by rw [hp]; simpa using ⟨h2, h2'⟩, ?_⟩
    unfold onlyV
    rw [hz, hp]
    exact h3
  rcases kind_cases hk with rfl | rfl | rfl | rfl | rfl | rfl | rfl | rfl | rfl | rfl | rfl | rfl | rfl | rfl
  · exact one 1 rfl
  · exact two 2 3 (by decide) rfl
  · exact two 0 6 (by decide) rfl
  · exact two 4 5 (by decide) rfl
  · exact one 7 rfl
  · exact one 3 rfl
  · exact one 3 rfl
  · exact two 9 3 (by decide) rfl
  · exact one 9 rfl
  · exact two 2 3 (by decide) rfl
  · exact one 8 rfl
  · exact two 8 10 (by decide) rfl
  · exact one 11 rfl
  cases h; exact ⟨rfl, rfl, fun p hp => by simp [fieldsL] at hp, rfl⟩
/-- What Decode finds, but for Validate. -/
def decB (b : BL) : Option Ev := match b with
  | [] => none
  | a :: r => match decP (fieldsL (a.toNat : Int)) (ev0 (a.toNat : Int)) r with | some (x, []) => some x | _ => none
theorem decB_to {x : Ev} (hk : 1 ≤ x.kind ∧ x.kind ≤ 14) (ho : x = onlyV x) (hp : ∀ p ∈ fieldsL x.kind, okPart x p) : decB (encB x) = some x := by
  have h := decP_to (l := fieldsL x.kind) (x := x) (y := ev0 x.kind) (r := []) hp
  have e : ((byI x.kind).toNat : Int) = x.kind := by rw [byI_nat]; omega
  unfold decB encB
  rw [List.append_nil] at h
  dsimp only
  rw [e, h]
  exact congrArg some ho.symm
theorem decB_of {b : BL} {x : Ev} (h : decB b = some x) (hk : 1 ≤ x.kind ∧ x.kind ≤ 14) : b = encB x ∧ x = onlyV x ∧ ∀ p ∈ fieldsL x.kind, okPart x p := by
  unfold decB at h
  match b, h with
  | a :: r, h =>
    dsimp only at h
    cases hd : decP (fieldsL (a.toNat : Int)) (ev0 (a.toNat : Int)) r with
    | none => rw [hd] at h; cases h
    | some xr =>
      obtain ⟨x', r1⟩ := xr
      rw [hd] at h
      cases r1 with
      | cons c r1 => cases h
      | nil =>
        cases h
        have hka : x.kind = (a.toNat : Int) := by
          by_cases hka : 1 ≤ (a.toNat : Int) ∧ (a.toNat : Int) ≤ 14
          · exact (decP_of hka hd).1
          rw [show fieldsL (a.toNat : Int) = [] by unfold fieldsL; repeat rw [if_neg (by omega)]] at hd
          cases hd
          rfl
        rw [hka] at hk
        obtain ⟨h1, h2, h3, h4⟩ := decP_of hk hd
        refine ⟨?_, h4, by rw [h1]; exact h3⟩
        unfold encB
        rw [h1, show byI (a.toNat : Int) = a from byI_of (by have := a.toNat_lt; omega)]
        rw [List.append_nil] at h2
        rw [← h2]
structure RS where
  b : BL
  bad : Bool
abbrev M (α : Type) := RS → α × RS
def mb {α β : Type} (m : M α) (f : α → M β) : M β := fun s => f (m s).1 (m s).2
def mp {α : Type} (a : α) : M α := fun s => (a, s)
def Sim {α : Type} (p : P α) (m : M α) : Prop := ∀ s : RS, (s.bad = true → (m s).2.bad = true) ∧ (s.bad = false → (∀ x r, p s.b = some (x, r) → m s = (x, ⟨r, false⟩)) ∧ (p s.b = none → (m s).2.bad = true))
theorem Sim.pure {α : Type} (a : α) : Sim (pp a) (mp a) := fun s => by
  refine ⟨fun h => h, fun h => ⟨fun x r hx => ?_, fun hx => by cases hx⟩⟩
  cases hx
  show (a, s) = (a, ⟨s.b, false⟩)
  rw [← h]
theorem Sim.bind {α β : Type} {p : P α} {m : M α} {q : α → P β} {f : α → M β} (h : Sim p m) (h2 : ∀ a, Sim (q a) (f a)) : Sim (pb p q) (mb m f) := fun s => by
  refine ⟨fun hb => ((h2 _) _).1 ((h s).1 hb), fun hb => ?_⟩
  cases hp : p s.b with
  | none =>
    have h1 := ((h s).2 hb).2 hp
    exact ⟨fun x r hx => by rw [pb_none hp] at hx; (cases hx), fun _ => ((h2 _) _).1 h1⟩
  | some xr =>
    obtain ⟨x, r⟩ := xr
    have h1 := ((h s).2 hb).1 _ _ hp
    have h3 := (h2 x ⟨r, false⟩).2 rfl
    rw [pb_some hp]
    show (∀ x_1 r_1, q x r = some (x_1, r_1) → f (m s).1 (m s).2 = _) ∧ (q x r = none → (f (m s).1 (m s).2).2.bad = true)
    rw [h1]
    exact h3
/-- The reader of numbers, bools and strings. -/
structure Rdr where
  num : M Int
  tr : M Bool
  wd : M ByteArray
structure Rdr.Ok (R : Rdr) : Prop where
  num : Sim pNum R.num
  tr : Sim pTr R.tr
  wd : Sim pWd R.wd
section
variable (R : Rdr)
def plM : M PL := mb R.num fun a => mb R.num fun b => mb R.num fun c => mp ⟨a, b, c⟩
def flM : M Flight := mb R.wd fun a => mb R.num fun b => mb R.wd fun c => mb R.num fun d => mp ⟨a, b, c, d⟩
def piM : M Piece := mb (plM R) fun a => mb R.num fun b => mb R.num fun c => mp ⟨a, b, c⟩
def opM : M Op := mb R.num fun a => mb R.num fun b => mb R.num fun c => mb R.num fun d => mb R.num fun e => mb (piM R) fun f => mp ⟨a, b, c, d, e, f⟩
def rpM : M Report := mb R.num fun a => mb R.tr fun b => mb R.wd fun c => mp ⟨a, b, c⟩
def rvM : M Rev := mb R.num fun a => mb R.num fun b => mb (flM R) fun c => mp ⟨a, b, c⟩
def repM {α : Type} (m : M α) : Nat → List α → M (List α)
  | 0, acc => mp acc
  | n + 1, acc => fun s => if s.bad = true then (acc, s) else repM m n (acc ++ [(m s).1]) (m s).2
def lsM {α : Type} (m : M α) (acc : List α) : M (List α) := mb R.num fun n => repM m n.toNat acc
def dM (p : Nat) (y : Ev) : M Ev := match p with
  | 0 => mb R.num fun n => mp { y with time := n } | 1 => mb R.wd fun n => mp { y with text := n } | 2 => mb (plM R) fun n => mp { y with plate := n } | 3 => mb R.num fun n => mp { y with node := n }
  | 4 => mb R.num fun n => mp { y with image := n } | 5 => mb R.tr fun n => mp { y with clear := n } | 6 => mb (lsM R (rpM R) y.reports) fun n => mp { y with reports := n } | 7 => mb (rvM R) fun n => mp { y with rev := n }
  | 8 => mb R.num fun n => mp { y with device := n } | 9 => mb (opM R) fun n => mp { y with op := n } | 10 => mb (lsM R (opM R) y.ops) fun n => mp { y with ops := n } | 11 => mb (flM R) fun n => mp { y with fl := n } | _ => mp y
def decM : List Nat → Ev → M Ev
  | [], y => mp y
  | p :: l, y => mb (dM R p y) fun z => decM l z
end
theorem pb_assoc {α β γ : Type} (p : P α) (f : α → P β) (g : β → P γ) : pb (pb p f) g = pb p fun x => pb (f x) g := by
  funext b
  cases hp : p b with
  | none => rw [pb_none hp, pb_none (pb_none hp)]
  | some xr =>
    obtain ⟨x, r⟩ := xr
    rw [pb_some hp]
    cases hf : f x r with
    | none => rw [pb_none hf, pb_none (by rw [pb_some hp]; exact hf)]
    | some yr =>
      obtain ⟨y, r2⟩ := yr
      rw [pb_some hf, pb_some (show pb p f b = some (y, r2) by rw [pb_some hp]; exact hf)]
theorem pp_bind {α β : Type} (a : α) (f : α → P β) : pb (pp a) f = f a := rfl
section
variable {R : Rdr}
theorem sPl (h : R.Ok) : Sim pPl (plM R) := by
  unfold pPl
  simp only [pb_assoc, pp_bind]
  exact h.num.bind fun _ => h.num.bind fun _ => h.num.bind fun _ => Sim.pure _
theorem sFl (h : R.Ok) : Sim pFl (flM R) := by
  unfold pFl
  simp only [pb_assoc, pp_bind]
  exact h.wd.bind fun _ => h.num.bind fun _ => h.wd.bind fun _ => h.num.bind fun _ => Sim.pure _
theorem sPi (h : R.Ok) : Sim pPi (piM R) := by
  unfold pPi
  simp only [pb_assoc, pp_bind]
  exact (sPl h).bind fun _ => h.num.bind fun _ => h.num.bind fun _ => Sim.pure _
theorem sOp (h : R.Ok) : Sim pOp (opM R) := by
  unfold pOp
  simp only [pb_assoc, pp_bind]
  exact h.num.bind fun _ => h.num.bind fun _ => h.num.bind fun _ => h.num.bind fun _ => h.num.bind fun _ => (sPi h).bind fun _ => Sim.pure _
theorem sRp (h : R.Ok) : Sim pRp (rpM R) := by
  unfold pRp
  simp only [pb_assoc, pp_bind]
  exact h.num.bind fun _ => h.tr.bind fun _ => h.wd.bind fun _ => Sim.pure _
theorem sRv (h : R.Ok) : Sim pRv (rvM R) := by
  unfold pRv
  simp only [pb_assoc, pp_bind]
  exact h.num.bind fun _ => h.num.bind fun _ => (sFl h).bind fun _ => Sim.pure _
theorem repM_bad {α : Type} {m : M α} : ∀ (n : Nat) (acc : List α) (s : RS), s.bad = true → (repM m n acc s).2.bad = true
  | 0, _, _, h => h
  | n + 1, acc, s, h => by
    show (if s.bad = true then (acc, s) else _).2.bad = true
    rw [if_pos h]
    exact h
theorem sRep {α : Type} {p : P α} {m : M α} (h : Sim p m) : ∀ (n : Nat) (acc : List α), Sim (pb (pRep p n) fun l => pp (acc ++ l)) (repM m n acc)
  | 0, acc => by
    show Sim (pp (acc ++ [])) (mp acc)
    rw [List.append_nil]
    exact Sim.pure acc
  | n + 1, acc => fun s => by
    refine ⟨fun hb => repM_bad _ _ _ hb, fun hb => ?_⟩
    have e : repM m (n + 1) acc s = repM m n (acc ++ [(m s).1]) (m s).2 := by
      show (if s.bad = true then (acc, s) else _) = _
      rw [if_neg (by rw [hb]; decide)]
    rw [e]
    have hq : (pb (pRep p (n + 1)) fun l => pp (acc ++ l)) = pb p fun x => pb (pRep p n) fun l => pp ((acc ++ [x]) ++ l) := by
      show (pb (pb p fun x => pb (pRep p n) fun xs => pp (x :: xs)) fun l => pp (acc ++ l)) = _
      simp only [pb_assoc, pp_bind, List.append_assoc, List.singleton_append]
    rw [hq]
    exact ((h.bind fun x => sRep h n (acc ++ [x])) s).2 hb
theorem sLs {α : Type} {p : P α} {m : M α} (h : R.Ok) (hp : Sim p m) : Sim (pLs p) (lsM R m []) := by
  have h2 : pLs p = pb pNum fun n => pb (pRep p n.toNat) fun l => pp ([] ++ l) := by
    show (pb pNum fun n => pRep p n.toNat) = _
    congr 1
    funext n b
    cases hb : pRep p n.toNat b with
    | none => rw [pb_none hb]
    | some xr => rw [pb_some (show pRep p n.toNat b = some (xr.1, xr.2) from hb)]; rfl
  rw [h2]
  exact h.num.bind fun n => sRep hp n.toNat []
theorem sD (h : R.Ok) {p : Nat} {y : Ev} (h6 : p = 6 → y.reports = []) (h10 : p = 10 → y.ops = []) : Sim (dPart p y) (dM R p y) := by
  match p, h6, h10 with
  | 0, _, _ => exact h.num.bind fun n => Sim.pure { y with time := n }
  | 1, _, _ => exact h.wd.bind fun n => Sim.pure { y with text := n }
  | 2, _, _ => exact (sPl h).bind fun n => Sim.pure { y with plate := n }
  | 3, _, _ => exact h.num.bind fun n => Sim.pure { y with node := n }
  | 4, _, _ => exact h.num.bind fun n => Sim.pure { y with image := n }
  | 5, _, _ => exact h.tr.bind fun n => Sim.pure { y with clear := n }
  | 6, h6, _ =>
    have h1 := (sLs h (sRp h)).bind fun n => Sim.pure { y with reports := n }
    rw [← h6 rfl] at h1
    exact h1
  | 7, _, _ => exact (sRv h).bind fun n => Sim.pure { y with rev := n }
  | 8, _, _ => exact h.num.bind fun n => Sim.pure { y with device := n }
  | 9, _, _ => exact (sOp h).bind fun n => Sim.pure { y with op := n }
  | 10, _, h10 =>
    have h1 := (sLs h (sOp h)).bind fun n => Sim.pure { y with ops := n }
    rw [← h10 rfl] at h1
    exact h1
  | 11, _, _ => exact (sFl h).bind fun n => Sim.pure { y with fl := n }
  | n + 12, _, _ => exact Sim.pure y
theorem dPart_lists {p : Nat} {y z : Ev} {b r : BL} (h : dPart p y b = some (z, r)) : (p ≠ 6 → z.reports = y.reports) ∧ (p ≠ 10 → z.ops = y.ops) := by
  have e := (dPart_of h).2.2
  rw [e]
  unfold setP
  split <;> first | exact ⟨fun _ => rfl, fun _ => rfl⟩ | exact ⟨fun h => absurd rfl h, fun _ => rfl⟩ | exact ⟨fun _ => rfl, fun h => absurd rfl h⟩
theorem Sim.bind' {α β : Type} {p : P α} {m : M α} {q : α → P β} {f : α → M β} (h : Sim p m) (hb : ∀ a s, s.bad = true → (f a s).2.bad = true) (h2 : ∀ a b r, p b = some (a, r) → Sim (q a) (f a)) : Sim (pb p q) (mb m f) := fun s => by
  refine ⟨fun hs => hb _ _ ((h s).1 hs), fun hs => ?_⟩
  cases hp : p s.b with
  | none =>
    have h1 := ((h s).2 hs).2 hp
    exact ⟨fun x r hx => by rw [pb_none hp] at hx; (cases hx), fun _ => hb _ _ h1⟩
  | some xr =>
    obtain ⟨x, r⟩ := xr
    have h1 := ((h s).2 hs).1 _ _ hp
    have h3 := (h2 x _ _ hp ⟨r, false⟩).2 rfl
    rw [pb_some hp]
    show (∀ x_1 r_1, q x r = some (x_1, r_1) → f (m s).1 (m s).2 = _) ∧ (q x r = none → (f (m s).1 (m s).2).2.bad = true)
    rw [h1]
    exact h3
theorem lsM_bad {α : Type} (h : R.Ok) {m : M α} (acc : List α) (s : RS) (hs : s.bad = true) : (lsM R m acc s).2.bad = true := repM_bad _ _ _ ((h.num s).1 hs)
theorem dM_bad (h : R.Ok) {p : Nat} {y : Ev} (s : RS) (hs : s.bad = true) : (dM R p y s).2.bad = true := by
  match p with
  | 0 => exact (h.num s).1 hs
  | 1 => exact (h.wd s).1 hs
  | 2 => exact (sPl h s).1 hs
  | 3 => exact (h.num s).1 hs
  | 4 => exact (h.num s).1 hs
  | 5 => exact (h.tr s).1 hs
  | 6 => exact lsM_bad h _ s hs
  | 7 => exact (sRv h s).1 hs
  | 8 => exact (h.num s).1 hs
  | 9 => exact (sOp h s).1 hs
  | 10 => exact lsM_bad h _ s hs
  | 11 => exact (sFl h s).1 hs
  | n + 12 => exact hs
theorem decM_bad (h : R.Ok) : ∀ (l : List Nat) (y : Ev) (s : RS), s.bad = true → (decM R l y s).2.bad = true
  | [], _, _, hs => hs
  | p :: l, y, s, hs => decM_bad h l _ _ (dM_bad h s hs)
theorem sDec (h : R.Ok) : ∀ {l : List Nat} {y : Ev}, l.Nodup → (6 ∈ l → y.reports = []) → (10 ∈ l → y.ops = []) → Sim (decP l y) (decM R l y)
  | [], y, _, _, _ => Sim.pure y
  | p :: l, y, hn, h6, h10 => by
    have hn' := List.nodup_cons.1 hn
    refine (sD h (fun e => h6 (by simp [e])) fun e => h10 (by simp [e])).bind' (fun z s hs => decM_bad h l z s hs) fun z b r hz => ?_
    have hl := dPart_lists hz
    refine sDec h hn'.2 (fun h' => ?_) fun h' => ?_
    · rw [hl.1 fun e => hn'.1 (e ▸ h')]; exact h6 (by simp [h'])
    rw [hl.2 fun e => hn'.1 (e ▸ h')]; exact h10 (by simp [h'])
theorem ite_nodup {c : Prop} [Decidable c] {a b : List Nat} (ha : a.Nodup) (hb : b.Nodup) : (if c then a else b).Nodup := by
  split
  · exact ha
  exact hb
theorem fields_nodup (k : Int) : (fieldsL k).Nodup := by
  unfold fieldsL
  repeat' apply ite_nodup
  all_goals decide
/-- What a reader's Decode finds, but for Validate: the event, if all went well and nothing is left. -/
def runD (R : Rdr) (b : BL) : Option Ev := match b with
  | [] => none
  | a :: r => if (decM R (fieldsL (a.toNat : Int)) (ev0 (a.toNat : Int)) ⟨r, false⟩).2.bad = true ∨ (decM R (fieldsL (a.toNat : Int)) (ev0 (a.toNat : Int)) ⟨r, false⟩).2.b ≠ [] then none else some (decM R (fieldsL (a.toNat : Int)) (ev0 (a.toNat : Int)) ⟨r, false⟩).1
theorem runD_eq (h : R.Ok) (b : BL) : runD R b = decB b := by
  match b with
  | [] => rfl
  | a :: r =>
    have hs := (sDec h (l := fieldsL (a.toNat : Int)) (y := ev0 (a.toNat : Int)) (fields_nodup _) (fun _ => rfl) (fun _ => rfl) ⟨r, false⟩).2 rfl
    unfold runD decB
    dsimp only at hs ⊢
    cases hd : decP (fieldsL (a.toNat : Int)) (ev0 (a.toNat : Int)) r with
    | none =>
      rw [if_pos (.inl (hs.2 hd))]
    | some xr =>
      obtain ⟨x, r1⟩ := xr
      rw [hs.1 _ _ hd]
      cases r1 with
      | nil => rw [if_neg (by simp)]
      | cons c r1 => rw [if_pos (.inr (by simp))]
def numE : M Int := fun s => match s.bad, s.b with | false, a :: b :: c :: d :: r => (n4 a b c d, ⟨r, false⟩) | _, _ => (0, ⟨s.b, true⟩)
def trE : M Bool := fun s => match s.bad, s.b with | false, a :: r => (decide (a = 1), ⟨r, decide (a.toNat > 1)⟩) | _, _ => (false, ⟨s.b, true⟩)
def tkE (n : Int) : M ByteArray := fun s => if s.bad = true ∨ n > (s.b.length : Nat) then (emptyS, ⟨s.b, true⟩) else (strB (s.b.take n.toNat), ⟨s.b.drop n.toNat, false⟩)
def wdE : M ByteArray := mb numE tkE
def rE : Rdr := ⟨numE, trE, wdE⟩
theorem sim_num : Sim pNum numE := by
  rintro ⟨b, bad⟩
  refine ⟨fun h => by simp only at h; subst h; rfl, fun h => ?_⟩
  simp only at h; subst h
  match b with
  | a :: b :: c :: d :: r => exact ⟨fun x r' hx => (by cases hx; rfl), fun hx => (by cases hx)⟩
  | [] => exact ⟨fun x r' hx => (by cases hx), fun _ => rfl⟩
  | [_] => exact ⟨fun x r' hx => (by cases hx), fun _ => rfl⟩
  | [_, _] => exact ⟨fun x r' hx => (by cases hx), fun _ => rfl⟩
  | [_, _, _] => exact ⟨fun x r' hx => (by cases hx), fun _ => rfl⟩
theorem pTr_0 (r : BL) : pTr (0 :: r) = some (false, r) := rfl
theorem pTr_1 (r : BL) : pTr (1 :: r) = some (true, r) := rfl
theorem pTr_no {a : UInt8} (r : BL) (h0 : a ≠ 0) (h1 : a ≠ 1) : pTr (a :: r) = none := by
  show (if a = 0 then _ else if a = 1 then _ else _) = _
  rw [if_neg h0, if_neg h1]
theorem sim_tr : Sim pTr trE := by
  rintro ⟨b, bad⟩
  refine ⟨fun h => by simp only at h; subst h; rfl, fun h => ?_⟩
  simp only at h; subst h
  match b with
  | [] => exact ⟨fun x r' hx => (by cases hx), fun _ => rfl⟩
  | a :: r =>
    by_cases h0 : a = 0
    · subst h0
      exact ⟨fun x r' hx => (by rw [pTr_0] at hx; cases hx; rfl), fun hx => (by rw [pTr_0] at hx; cases hx)⟩
    by_cases h1 : a = 1
    · subst h1
      exact ⟨fun x r' hx => (by rw [pTr_1] at hx; cases hx; rfl), fun hx => (by rw [pTr_1] at hx; cases hx)⟩
    rw [pTr_no r h0 h1]
    refine ⟨fun x r' hx => (by cases hx), fun _ => ?_⟩
    have e0 : a.toNat ≠ 0 := fun e => h0 (UInt8.toNat_inj.1 e)
    have e1 : a.toNat ≠ 1 := fun e => h1 (UInt8.toNat_inj.1 e)
    exact decide_eq_true (show a.toNat > 1 by omega)
theorem sim_tk (n : Int) : Sim (tkS n) (tkE n) := by
  rintro ⟨b, bad⟩
  unfold tkE
  dsimp only
  refine ⟨fun h => by rw [if_pos (.inl h)], fun h => ?_⟩
  subst h
  by_cases hn : n ≤ (b.length : Nat)
  · rw [tkS_yes hn, if_neg (fun h => h.elim (fun h => by cases h) (fun h => by omega))]
    exact ⟨fun x r' hx => (by cases hx; rfl), fun hx => (by cases hx)⟩
  rw [tkS_no hn, if_pos (.inr (by omega))]
  exact ⟨fun x r' hx => (by cases hx), fun _ => rfl⟩
theorem rE_ok : rE.Ok := ⟨sim_num, sim_tr, sim_num.bind sim_tk⟩
/-- The reference's reader. -/
def byR : M Int := fun s => match s.b with | [] => (0, ⟨[], true⟩) | a :: r => ((a.toNat : Int), ⟨r, s.bad⟩)
def numR : M Int := mb byR fun a => mb byR fun b => mb byR fun c => mb byR fun d => mp (((a * 256 + b) * 256 + c) * 256 + d)
def trR : M Bool := mb byR fun n s => (decide (n = 1), ⟨s.b, s.bad || decide (n > 1)⟩)
def tkR (n : Int) : M ByteArray := fun s => if s.bad = true ∨ n > (s.b.length : Nat) then (emptyS, ⟨s.b, true⟩) else (strB (s.b.take n.toNat), ⟨s.b.drop n.toNat, s.bad⟩)
def wdR : M ByteArray := mb numR tkR
def rR : Rdr := ⟨numR, trR, wdR⟩
def pBy : P Int := fun b => match b with | [] => none | a :: r => some ((a.toNat : Int), r)
theorem sim_by : Sim pBy byR := by
  rintro ⟨b, bad⟩
  refine ⟨fun h => ?_, fun h => ?_⟩
  · simp only at h; subst h
    cases b <;> rfl
  simp only at h; subst h
  cases b with
  | nil => exact ⟨fun x r' hx => (by cases hx), fun _ => rfl⟩
  | cons a r => exact ⟨fun x r' hx => (by cases hx; rfl), fun hx => (by cases hx)⟩
theorem n4_eq (a b c d : UInt8) : ((((a.toNat : Int) * 256 + (b.toNat : Int)) * 256 + (c.toNat : Int)) * 256 + (d.toNat : Int)) = n4 a b c d := by
  unfold n4
  omega
theorem pNum_by : pNum = pb pBy fun a => pb pBy fun b => pb pBy fun c => pb pBy fun d => pp (((a * 256 + b) * 256 + c) * 256 + d) := by
  funext b
  match b with
  | a :: b :: c :: d :: r =>
    show some (n4 a b c d, r) = some (((((a.toNat : Int) * 256 + (b.toNat : Int)) * 256 + (c.toNat : Int)) * 256 + (d.toNat : Int)), r)
    rw [n4_eq]
  | [] => rfl
  | [_] => rfl
  | [_, _] => rfl
  | [_, _, _] => rfl
theorem sim_numR : Sim pNum numR := by
  rw [pNum_by]
  exact sim_by.bind fun _ => sim_by.bind fun _ => sim_by.bind fun _ => sim_by.bind fun _ => Sim.pure _
theorem sim_trR : Sim pTr trR := by
  rintro ⟨b, bad⟩
  refine ⟨fun h => ?_, fun h => ?_⟩
  · simp only at h; subst h
    cases b <;> rfl
  simp only at h; subst h
  cases b with
  | nil => exact ⟨fun x r' hx => (by cases hx), fun _ => rfl⟩
  | cons a r =>
    by_cases h0 : a = 0
    · subst h0
      exact ⟨fun x r' hx => (by rw [pTr_0] at hx; cases hx; rfl), fun hx => (by rw [pTr_0] at hx; cases hx)⟩
    by_cases h1 : a = 1
    · subst h1
      exact ⟨fun x r' hx => (by rw [pTr_1] at hx; cases hx; rfl), fun hx => (by rw [pTr_1] at hx; cases hx)⟩
    rw [pTr_no r h0 h1]
    refine ⟨fun x r' hx => (by cases hx), fun _ => ?_⟩
    have e0 : a.toNat ≠ 0 := fun e => h0 (UInt8.toNat_inj.1 e)
    have e1 : a.toNat ≠ 1 := fun e => h1 (UInt8.toNat_inj.1 e)
    exact decide_eq_true (show ((a.toNat : Nat) : Int) > 1 by omega)
theorem sim_tkR (n : Int) : Sim (tkS n) (tkR n) := by
  rintro ⟨b, bad⟩
  unfold tkR
  dsimp only
  refine ⟨fun h => by rw [if_pos (.inl h)], fun h => ?_⟩
  subst h
  by_cases hn : n ≤ (b.length : Nat)
  · rw [tkS_yes hn, if_neg (fun h => h.elim (fun h => by cases h) (fun h => by omega))]
    exact ⟨fun x r' hx => (by cases hx; rfl), fun hx => (by cases hx)⟩
  rw [tkS_no hn, if_pos (.inr (by omega))]
  exact ⟨fun x r' hx => (by cases hx), fun _ => rfl⟩
theorem rR_ok : rR.Ok := ⟨sim_numR, sim_trR, sim_numR.bind sim_tkR⟩
end
def rdB (s : ByteArray) : Bool := s.data.toList.all (fun c => decide (c = 63) || dgB c) && (decide (s.size = 0) || decide (s.size = 10))
def rpB (r : Report) : Bool := inB r.device 0 23 && rdB r.read
def prB (x : Ev) (p : Nat) : Bool := match p with
  | 0 => inB x.time 0 1048576 | 1 => true | 2 => plB x.plate | 3 => inB x.node 0 23 | 4 => inB x.image 0 1048576 | 5 => true | 6 => x.reports.all rpB
  | 7 => (inB x.rev.kind 1 5 && inB x.rev.amount 0 1048576) && flB x.rev.fl | 8 => inB x.device 1 6 | 9 => opB x.op && (decide (x.op.kind = 1) == decide (x.kind = 8))
  | 10 => x.ops.all (fun o => opB o && decide (o.device = x.device)) | 11 => flB x.fl | _ => true
def ascR (l : List Report) : Bool := (List.range l.length).all fun i => decide (i = 0) || decide ((l.getD i ⟨0, false, emptyS⟩).device > (l.getD (i - 1) ⟨0, false, emptyS⟩).device)
def limB (x : Ev) : Bool := (decide ((x.text.size : Int) > 2048) || decide ((x.reports.length : Int) > 24)) || decide ((x.ops.length : Int) > 60)
open Classical in
noncomputable def sameB (x y : Ev) : Bool := decide (x = y)
open Classical in
noncomputable def valV (x : Ev) : Int :=
  if inB x.kind 1 14 = false then 4 else if x ≠ onlyV x then 7 else if limB x = true then 2 else if (fieldsL x.kind).all (prB x) = false then 1 else if ascR x.reports = false then 9 else 0
structure Good (x : Ev) : Prop where
  kind : 1 ≤ x.kind ∧ x.kind ≤ 14
  only : x = onlyV x
  lim : x.text.size ≤ 2048 ∧ x.reports.length ≤ 24 ∧ x.ops.length ≤ 60
  pr : ∀ p ∈ fieldsL x.kind, prB x p = true
  asc : ascR x.reports = true
theorem inB_iff {n lo hi : Int} : inB n lo hi = true ↔ lo ≤ n ∧ n ≤ hi := by
  unfold inB
  rw [Bool.and_eq_true, decide_eq_true_eq, decide_eq_true_eq]
theorem valV_0 {x : Ev} : valV x = 0 ↔ Good x := by
  unfold valV
  constructor
  · intro h
    by_cases h1 : inB x.kind 1 14 = false
    · rw [if_pos h1] at h; exact absurd h (by decide)
    rw [if_neg h1] at h
    by_cases h2 : x ≠ onlyV x
    · rw [if_pos h2] at h; exact absurd h (by decide)
    rw [if_neg h2] at h
    by_cases h3 : limB x = true
    · rw [if_pos h3] at h; exact absurd h (by decide)
    rw [if_neg h3] at h
    by_cases h4 : (fieldsL x.kind).all (prB x) = false
    · rw [if_pos h4] at h; exact absurd h (by decide)
    rw [if_neg h4] at h
    by_cases h5 : ascR x.reports = false
    · rw [if_pos h5] at h; exact absurd h (by decide)
    refine ⟨inB_iff.1 (by simpa using h1), Classical.not_not.1 h2, ?_, fun p hp => ?_, by simpa using h5⟩
    · unfold limB at h3
      simp only [Bool.or_eq_true, decide_eq_true_eq, not_or] at h3
      omega
    have := (Bool.not_eq_false _).mp h4
    exact List.all_eq_true.1 this p hp
  intro h
  rw [if_neg (by rw [inB_iff.2 h.kind]; decide), if_neg (fun h' => h' h.only), if_neg, if_neg, if_neg (by rw [h.asc]; decide)]
  · rw [List.all_eq_true.2 h.pr]; decide
  have := h.lim
  unfold limB
  simp only [Bool.or_eq_true, decide_eq_true_eq, not_or]
  omega
theorem car_size {s : ByteArray} (h : carB s = true) : s.size = 2 := by
  unfold carB at h
  simp only [Bool.and_eq_true, decide_eq_true_eq] at h
  exact h.1
theorem let_size {s : ByteArray} {a b : Int} (h : lettersB s a b = true) : (s.size : Int) ≤ b := by
  unfold lettersB at h
  simp only [Bool.and_eq_true, decide_eq_true_eq] at h
  omega
theorem fl_good {f : Flight} (h : flB f = true) : okFl f ∧ f.carrier.size ≤ 2 ∧ f.suffix.size ≤ 1 := by
  unfold flB at h
  simp only [Bool.and_eq_true, decide_eq_true_eq] at h
  obtain ⟨⟨⟨⟨⟨h1, h2⟩, h3⟩, h4⟩, h5⟩, h6⟩ := h
  have a := car_size h1
  have b := let_size h4
  refine ⟨⟨?_, ?_, ?_, ?_⟩, by omega, by omega⟩ <;> (first | unfold okS | unfold okN) <;> omega
theorem pl_good {p : Plate} (h : plB p = true) : okPl p := by
  unfold plB at h
  simp only [Bool.and_eq_true, decide_eq_true_eq] at h
  unfold okPl okN
  omega
theorem pi_good {p : Piece} (h : piB p = true) : okPi p := by
  unfold piB at h
  simp only [Bool.and_eq_true, inB_iff] at h
  refine ⟨pl_good h.1.1, ?_, ?_⟩ <;> unfold okN <;> omega
theorem op_good {o : Op} (h : opB o = true) : okOp o ∧ (o.kind = 1 ∨ o.kind = 2) := by
  unfold opB at h
  split at h
  · cases h
  rename_i h0
  simp only [Bool.or_eq_true, Bool.not_eq_true', not_or, Bool.not_eq_false, inB_iff] at h0
  simp only [Bool.and_eq_true, Bool.or_eq_true, decide_eq_true_eq, inB_iff] at h
  refine ⟨⟨?_, ?_, ?_, ?_, ?_, pi_good h.2⟩, h.1.1⟩ <;> unfold okN <;> omega
theorem rp_good {r : Report} (h : rpB r = true) : okRp r ∧ r.read.size ≤ 10 := by
  unfold rpB rdB at h
  simp only [Bool.and_eq_true, Bool.or_eq_true, decide_eq_true_eq, inB_iff] at h
  refine ⟨⟨?_, trivial, ?_⟩, by omega⟩ <;> (first | unfold okS | unfold okN) <;> omega
theorem Good.ok {x : Ev} (h : Good x) : ∀ p ∈ fieldsL x.kind, okPart x p := fun p hp => by
  have hl := h.lim
  have h1 := h.pr p hp
  unfold okPart
  split
  · have := inB_iff.1 h1; unfold okN; omega
  · unfold okS; omega
  · exact pl_good h1
  · have := inB_iff.1 h1; unfold okN; omega
  · have := inB_iff.1 h1; unfold okN; omega
  · trivial
  · exact ⟨by omega, fun r hr => (rp_good (List.all_eq_true.1 h1 r hr)).1⟩
  · unfold prB at h1
    simp only [Bool.and_eq_true, inB_iff] at h1
    refine ⟨?_, ?_, (fl_good h1.2).1⟩ <;> unfold okN <;> omega
  · have := inB_iff.1 h1; unfold okN; omega
  · unfold prB at h1
    exact (op_good (Bool.and_eq_true _ _ |>.mp h1).1).1
  · refine ⟨by omega, fun o ho => (op_good ?_).1⟩
    have := List.all_eq_true.1 h1 o ho
    exact (Bool.and_eq_true _ _ |>.mp this).1
  · exact (fl_good h1).1
  trivial
open Classical in
noncomputable def decV (b : BL) : Ev × Int := match b with
  | [] => (ev0 0, 4)
  | a :: _ => if inB (a.toNat : Int) 1 14 = false then (ev0 0, 4) else match decB b with | some x => if valV x = 0 then (x, 0) else (ev0 0, 3) | none => (ev0 0, 3)
open Classical in
noncomputable def encV (x : Ev) : BL × Int := if valV x = 0 then (encB x, 0) else ([], valV x)
theorem dec_enc {x : Ev} (h : Good x) : decV (encB x) = (x, 0) := by
  have e : ((byI x.kind).toNat : Int) = x.kind := by rw [byI_nat]; have := h.kind; omega
  have hd := decB_to h.kind h.only h.ok
  unfold decV
  rw [hd]
  show (if inB ((byI x.kind).toNat : Int) 1 14 = false then _ else if valV x = 0 then (x, (0 : Int)) else _) = _
  rw [e, if_neg (by rw [inB_iff.2 h.kind]; decide), if_pos (valV_0.2 h)]
theorem dec_ok {b : BL} {y : Ev} (h : decV b = (y, 0)) : Good y ∧ b = encB y := by
  unfold decV at h
  match b, h with
  | [], h => exact absurd (show (4 : Int) = 0 from congrArg Prod.snd h) (by decide)
  | a :: r, h =>
    dsimp only at h
    by_cases h1 : inB (a.toNat : Int) 1 14 = false
    · rw [if_pos h1] at h; exact absurd (show (4 : Int) = 0 from congrArg Prod.snd h) (by decide)
    rw [if_neg h1] at h
    cases hd : decB (a :: r) with
    | none => rw [hd] at h; exact absurd (show (3 : Int) = 0 from congrArg Prod.snd h) (by decide)
    | some x =>
      rw [hd] at h
      dsimp only at h
      by_cases hv : valV x = 0
      · rw [if_pos hv] at h
        obtain rfl : x = y := congrArg Prod.fst h
        have hg := valV_0.1 hv
        exact ⟨hg, (decB_of hd hg.kind).1⟩
      rw [if_neg hv] at h; exact absurd (show (3 : Int) = 0 from congrArg Prod.snd h) (by decide)
theorem dec_ok' {b : BL} (h : (decV b).2 = 0) : Good (decV b).1 ∧ b = encB (decV b).1 := dec_ok (Prod.ext rfl h)
theorem enc_ok {x : Ev} (h : Good x) : encV x = (encB x, 0) := if_pos (valV_0.2 h)
theorem enc_no {x : Ev} (h : ¬ Good x) : encV x = ([], valV x) := if_neg fun h' => h (valV_0.1 h')
theorem b4_len (n : Int) : (b4 n).length = 4 := rfl
theorem wd_len (s : ByteArray) : (eWd s).length = 4 + s.size := by
  show (b4 _ ++ s.data.toList).length = _
  rw [List.length_append, b4_len, size_data]
theorem pl_len (p : Plate) : (ePl p).length = 12 := rfl
theorem op_len (o : Op) : (eOp o).length = 40 := rfl
theorem fl_len {f : Flight} (h : flB f = true) : (eFl f).length ≤ 19 := by
  obtain ⟨_, h1, h2⟩ := fl_good h
  show (eWd f.carrier ++ (b4 f.number ++ (eWd f.suffix ++ b4 f.day))).length ≤ _
  simp only [List.length_append, b4_len, wd_len]
  omega
theorem rp_len {r : Report} (h : rpB r = true) : (eRp r).length ≤ 19 := by
  have h1 := (rp_good h).2
  show (b4 r.device ++ ([_] ++ eWd r.read)).length ≤ _
  simp only [List.length_append, b4_len, wd_len, List.length_cons, List.length_nil]
  omega
theorem flatB_len {α : Type} {e : α → BL} {k : Nat} : ∀ {l : List α}, (∀ x ∈ l, (e x).length ≤ k) → (l.flatMap e).length ≤ l.length * k
  | [], _ => by simp
  | x :: l, h => by
    have h1 := h x (by simp)
    have h2 := flatB_len (l := l) fun y hy => h y (by simp [hy])
    rw [List.flatMap_cons, List.length_append, List.length_cons, Nat.succ_mul]
    omega
theorem part_len {x : Ev} (h : Good x) : ∀ p ∈ fieldsL x.kind, (ePart x p).length ≤ 2404 := fun p hp => by
  have hl := h.lim
  have h1 := h.pr p hp
  unfold ePart
  split
  · rw [b4_len]; omega
  · rw [wd_len]; omega
  · rw [pl_len]; omega
  · rw [b4_len]; omega
  · rw [b4_len]; omega
  · show 1 ≤ _; omega
  · have := flatB_len (l := x.reports) (e := eRp) (k := 19) fun r hr => rp_len (List.all_eq_true.1 h1 r hr)
    show (b4 _ ++ x.reports.flatMap eRp).length ≤ _
    rw [List.length_append, b4_len]
    omega
  · unfold prB at h1
    simp only [Bool.and_eq_true] at h1
    have := fl_len h1.2
    show (b4 _ ++ (b4 _ ++ eFl x.rev.fl)).length ≤ _
    simp only [List.length_append, b4_len]
    omega
  · rw [b4_len]; omega
  · rw [op_len]; omega
  · have := flatB_len (l := x.ops) (e := eOp) (k := 40) fun r hr => by rw [op_len]; omega
    show (b4 _ ++ x.ops.flatMap eOp).length ≤ _
    rw [List.length_append, b4_len]
    omega
  · have := fl_len (f := x.fl) h1; omega
  simp
theorem fields_len (k : Int) : fieldsL k = [] ∨ (∃ p, fieldsL k = [p]) ∨ (k = 2 ∧ fieldsL k = [2, 3]) ∨ (k = 3 ∧ fieldsL k = [0, 6]) ∨ (k = 4 ∧ fieldsL k = [4, 5]) ∨ (k = 8 ∧ fieldsL k = [9, 3]) ∨ (k = 10 ∧ fieldsL k = [2, 3]) ∨ (k = 12 ∧ fieldsL k = [8, 10]) := by
  by_cases hk : 1 ≤ k ∧ k ≤ 14
  · rcases kind_cases hk with rfl | rfl | rfl | rfl | rfl | rfl | rfl | rfl | rfl | rfl | rfl | rfl | rfl | rfl <;> simp [fieldsL]
  left
  unfold fieldsL
  repeat rw [if_neg (by omega)]
theorem enc_len {x : Ev} (h : Good x) : (encB x).length ≤ 2500 := by
  have hp := part_len h
  show ((fieldsL x.kind).flatMap (ePart x)).length + 1 ≤ _
  rcases fields_len x.kind with e | ⟨p, e⟩ | ⟨hk, e⟩ | ⟨hk, e⟩ | ⟨hk, e⟩ | ⟨hk, e⟩ | ⟨hk, e⟩ | ⟨hk, e⟩ <;> rw [e] at hp ⊢
  · simp
  · have := hp p (by simp); simp; omega
  · simp only [List.flatMap_cons, List.flatMap_nil, List.length_append, List.length_nil]; have := pl_len x.plate; have := b4_len x.node; simp only [ePart]; omega
  · simp only [List.flatMap_cons, List.flatMap_nil, List.length_append, List.length_nil]; have := hp 6 (by simp); have := b4_len x.time; simp only [ePart] at *; omega
  · simp only [List.flatMap_cons, List.flatMap_nil, List.length_append, List.length_nil]; have := b4_len x.image; simp only [ePart, eTr, List.length_cons, List.length_nil]; omega
  · simp only [List.flatMap_cons, List.flatMap_nil, List.length_append, List.length_nil]; have := op_len x.op; have := b4_len x.node; simp only [ePart]; omega
  · simp only [List.flatMap_cons, List.flatMap_nil, List.length_append, List.length_nil]; have := pl_len x.plate; have := b4_len x.node; simp only [ePart]; omega
  simp only [List.flatMap_cons, List.flatMap_nil, List.length_append, List.length_nil]; have := hp 10 (by simp); have := b4_len x.device; simp only [ePart] at *; omega
end Go.Proofs.YtfmnaigedgmhoaaGreatDoor
namespace Go.Proofs.YtfmnaigedgmhoaaGreatDoor
open Go.RowKit
set_option linter.unusedSimpArgs false
set_option linter.unusedVariables false
set_option maxRecDepth 100000
abbrev bv (b : UInt8) : List AV := [.v (.int .u8 (b.toNat : Nat))]
theorem bv_len (l : BL) : ∀ x ∈ l.map bv, x.length = 1 := fun x hx => by obtain ⟨g, _, rfl⟩ := List.mem_map.1 hx; rfl
theorem bv_flat (l : BL) : ∀ r ∈ l.map bv, ∀ c ∈ r, flatA c = true := fun r hr c hc => by
  obtain ⟨p, _, rfl⟩ := List.mem_map.1 hr
  obtain rfl : c = _ := by simpa using hc
  rfl
abbrev Report.av (r : Report) : List AV := [.v (.int .i64 r.device), .v (.bool r.seen), .v (.string r.read)]
abbrev Rev.av (r : Rev) : List AV := [.v (.int .i64 r.kind), .v (.int .i64 r.amount), .v (.string r.fl.carrier), .v (.int .i64 r.fl.number), .v (.string r.fl.suffix), .v (.int .i64 r.fl.day)]
abbrev evC (x : Ev) (rs os : AV) : List AV := [.v (.int .i64 x.kind), .v (.int .i64 x.time), .v (.string x.text), .v (.int .i64 x.plate.lead), .v (.int .i64 x.plate.airline), .v (.int .i64 x.plate.serial), .v (.int .i64 x.node), .v (.int .i64 x.image), .v (.bool x.clear), rs,
  .v (.int .i64 x.rev.kind), .v (.int .i64 x.rev.amount), .v (.string x.rev.fl.carrier), .v (.int .i64 x.rev.fl.number), .v (.string x.rev.fl.suffix), .v (.int .i64 x.rev.fl.day), .v (.int .i64 x.device),
  .v (.int .i64 x.op.time), .v (.int .i64 x.op.device), .v (.int .i64 x.op.seq), .v (.int .i64 x.op.kind), .v (.int .i64 x.op.cont), .v (.int .i64 x.op.piece.plate.lead), .v (.int .i64 x.op.piece.plate.airline), .v (.int .i64 x.op.piece.plate.serial), .v (.int .i64 x.op.piece.weight), .v (.int .i64 x.op.piece.category),
  os, .v (.string x.fl.carrier), .v (.int .i64 x.fl.number), .v (.string x.fl.suffix), .v (.int .i64 x.fl.day)]
abbrev Ev.av (x : Ev) : List AV := evC x (.ro (x.reports.map Report.av)) (.ro (x.ops.map Op.av))
abbrev rdC (x : Ev) (rs os : AV) (s : RS) : List AV := .ro (s.b.map bv) :: (evC x rs os ++ [.v (.bool s.bad)])
def takE (n : Int) (s : RS) : (BL × Bool) × RS := if s.bad = true ∨ n > (s.b.length : Nat) then (([], false), ⟨s.b, true⟩) else ((s.b.take n.toNat, true), ⟨s.b.drop n.toNat, false⟩)
theorem takE_no {n : Int} {s : RS} (h : s.bad = true ∨ n > (s.b.length : Nat)) : takE n s = (([], false), ⟨s.b, true⟩) := if_pos h
theorem takE_yes {n : Int} {s : RS} (h : ¬ (s.bad = true ∨ n > (s.b.length : Nat))) : takE n s = ((s.b.take n.toNat, true), ⟨s.b.drop n.toNat, false⟩) := if_neg h
set_option maxHeartbeats 8000000 in
theorem C89 {x : Ev} {rs os : AV} {s : RS} {n : Int} (h0 : 0 ≤ n) (hl : s.b.length ≤ 1000000) : Fn Tryz.prog 89 [.own 73 [rdC x rs os s]] [.ptr 0 0 0 0, .v (.int .i64 n)] [.ro ((takE n s).1.1.map bv), .v (.bool (takE n s).1.2)] [.own 73 [rdC x rs os (takE n s).2]] := by
  obtain ⟨b, bad⟩ := s
  dsimp only at hl
  refine Spec.body Tryz.func89 rfl Tryz.ntmps89 (by simp) rfl ?_; intro S0 own0 v0 w0 gl
  (refine AW.seq_k ?_; intro K hK)
  refine AW.region ?_
  refine awP (op_assign rfl rfl) ?_; (try simp only [nA, Nat.reduceBEq, Nat.reduceEqDiff, ↓reduceIte, Nat.reduceAdd, Nat.reduceSub])
  refine awP (op_assign rfl rfl) ?_; (try simp only [nA, Nat.reduceBEq, Nat.reduceEqDiff, ↓reduceIte, Nat.reduceAdd, Nat.reduceSub])
  refine AWL.nil ?_
  (refine hK _ ?_; clear hK K; (try simp only [nA, Nat.reduceBEq, Nat.reduceEqDiff, ↓reduceIte, Nat.reduceAdd, Nat.reduceSub]))
  (refine AW.seq_k ?_; intro K hK)
  (refine AW.seq_k ?_; intro K hK)
  refine AW.region (AWL.quiet ?_)
  refine aqP (op_move rfl rfl) ?_; (simp only [nA, ↓reduceIte])
  (refine aqP (op_nil_slot rfl rfl rfl) ?_); (try simp only [nA, Nat.reduceBEq, Nat.reduceEqDiff, ↓reduceIte, Nat.reduceAdd, Nat.reduceSub])
  (refine aqP (op_fa_ptr rfl rfl rfl fl73_2 (by exact sz4) (by decide) rfl) ?_); (try simp only [nA, Nat.reduceBEq, Nat.reduceEqDiff, ↓reduceIte, Nat.reduceAdd, Nat.reduceSub])
  (refine aqR (op_load_ptr1 rfl rfl rfl rfl ag4 rfl rfl) ?_); (try simp only [nA, Nat.reduceBEq, Nat.reduceEqDiff, ↓reduceIte, Nat.reduceAdd, Nat.reduceSub])
  refine aqP (op_move rfl rfl) ?_; (simp only [nA])
  refine' aqOr' [_, _, _, _, _, _, _] [12,13,14,15,16,17,18] rfl rfl rfl rfl rfl rfl rfl rfl rfl rfl rfl rfl (fun hb => ?_) ?_; rotate_left
  ·
   (try simp only [hcS] at hb)
   refine aqP (op_move rfl rfl) ?_; (simp only [nA, ↓reduceIte])
   refine aqP (op_move rfl rfl) ?_; (simp only [nA, ↓reduceIte])
   (refine aqP (op_nil_slot rfl rfl rfl) ?_); (try simp only [nA, Nat.reduceBEq, Nat.reduceEqDiff, ↓reduceIte, Nat.reduceAdd, Nat.reduceSub])
   (refine aqP (op_fa_ptr rfl rfl rfl fl73_0 (by exact sz22) (by decide) rfl) ?_); (try simp only [nA, Nat.reduceBEq, Nat.reduceEqDiff, ↓reduceIte, Nat.reduceAdd, Nat.reduceSub])
   (refine aqR (op_load_ptr1 rfl rfl rfl rfl ag22 rfl rfl) ?_); (try simp only [nA, Nat.reduceBEq, Nat.reduceEqDiff, ↓reduceIte, Nat.reduceAdd, Nat.reduceSub])
   refine aqQ (OpP.q (op_len_ro (n := b.length) rfl rfl Tryz.underlying22 (.inr (.inl ⟨_, rfl, by simp⟩)))) ?_; (try simp only [nA, Nat.reduceBEq, Nat.reduceEqDiff, ↓reduceIte, Nat.reduceAdd, Nat.reduceSub])
   refine aqP (op_gtr rfl rfl rfl) ?_; (try simp only [nA, Nat.reduceBEq, Nat.reduceEqDiff, ↓reduceIte, Nat.reduceAdd, Nat.reduceSub])
   (refine aqSeg rfl rfl rfl ?_; repeat (first | exact fun _ _ => rfl | refine upd_out rfl ?_))
  refine AQ.nil ?_
  (refine hK _ ?_; clear hK K; (skip))
  refine AW.cond rfl rfl rfl (fun hc => ?_) (fun hc => ?_)
  ·
   (try simp only [hcS] at hc); have hc1 := hc; have hT : bad = true ∨ n > (b.length : Nat) := (by simpa using hc1)
   (refine AW.seq_k ?_; intro K hK)
   refine AW.region ?_
   refine awP (op_move rfl rfl) ?_; (simp only [nA, Nat.reduceEqDiff, ↓reduceIte])
   (refine awP (op_nil_slot rfl rfl rfl) ?_); (try simp only [nA, Nat.reduceBEq, Nat.reduceEqDiff, ↓reduceIte, Nat.reduceAdd, Nat.reduceSub])
   (refine awP (op_fa_ptr rfl rfl rfl fl73_2 (by exact sz4) (by decide) rfl) ?_); (try simp only [nA, Nat.reduceBEq, Nat.reduceEqDiff, ↓reduceIte, Nat.reduceAdd, Nat.reduceSub])
   refine awJ (op_store rfl rfl rfl rfl rfl rfl sz4 rfl (bl rfl) rfl) ?_; (try simp only [nA, Nat.reduceBEq, Nat.reduceEqDiff, ↓reduceIte, Nat.reduceAdd, Nat.reduceSub])
   refine AWL.nil ?_
   (refine hK _ ?_; clear hK K; (skip))
   (refine AW.seq_k ?_; intro K hK)
   refine AW.region ?_
   refine awP (op_assign rfl rfl) ?_; (try simp only [nA, Nat.reduceBEq, Nat.reduceEqDiff, ↓reduceIte, Nat.reduceAdd, Nat.reduceSub])
   refine awP (op_assign rfl rfl) ?_; (try simp only [nA, Nat.reduceBEq, Nat.reduceEqDiff, ↓reduceIte, Nat.reduceAdd, Nat.reduceSub])
   refine AWL.nil ?_
   (refine hK _ ?_; clear hK K; (skip))
   refine AW.gh (Gh.nil (e := 5) 4 (bl rfl) rfl sz5) ?_; (simp only [nA, Nat.reduceBEq, Nat.reduceEqDiff, ↓reduceIte]); refine AW.gh (Gh.freeze 4 (bl rfl) rfl rfl (by simp) (es' := ([] : BL).map bv) rfl) ?_; (try simp only [nA, Nat.reduceBEq, Nat.reduceEqDiff, ↓reduceIte, Nat.reduceAdd, Nat.reduceSub])
   refine AW.ret ?_; (try simp only [thenE, inBlk, Nat.reduceEqDiff, ↓reduceIte]); rw [takE_no (s := ⟨b, bad⟩) hT]; exact RQ.of (.inl rfl) rfl (.tmp (bl rfl) rfl rfl (.tmp (bl rfl) rfl rfl .nil)) (by simp) rfl (one_out rfl)
  (try simp only [hcS] at hc); have hc1 := hc; have hF : ¬ (bad = true ∨ n > (b.length : Nat)) := (by simpa using hc1); obtain rfl : bad = false := (by simpa using fun h => hF (.inl h)); have hnl : n.toNat ≤ b.length := (by have := fun h => hF (.inr h); omega)
  refine AW.skip ?_
  (refine hK _ ?_; clear hK K; (try simp only [nA, Nat.reduceBEq, Nat.reduceEqDiff, ↓reduceIte, Nat.reduceAdd, Nat.reduceSub]))
  (refine AW.seq_k ?_; intro K hK)
  refine AW.region ?_
  refine awP (op_move rfl rfl) ?_; (simp only [nA, Nat.reduceEqDiff, ↓reduceIte])
  (refine awP (op_nil_slot rfl rfl rfl) ?_); (try simp only [nA, Nat.reduceBEq, Nat.reduceEqDiff, ↓reduceIte, Nat.reduceAdd, Nat.reduceSub])
  (refine awP (op_fa_ptr rfl rfl rfl fl73_0 (by exact sz22) (by decide) rfl) ?_); (try simp only [nA, Nat.reduceBEq, Nat.reduceEqDiff, ↓reduceIte, Nat.reduceAdd, Nat.reduceSub])
  (refine awR (op_load_ptr1 rfl rfl rfl rfl ag22 rfl rfl) ?_); (try simp only [nA, Nat.reduceBEq, Nat.reduceEqDiff, ↓reduceIte, Nat.reduceAdd, Nat.reduceSub])
  refine awP (op_move rfl rfl) ?_; (simp only [nA, Nat.reduceEqDiff, ↓reduceIte])
  refine awP (op_slice_ro 0 n.toNat rfl (.inl rfl) (by exact rfl) (by exact ⟨_, by rw [Int.toNat_of_nonneg h0]; rfl⟩) (Nat.zero_le _) (by simpa using hnl) Tryz.underlying22 sz5 (bv_len b) (es' := (b.take n.toNat).map bv) (by simp [List.map_take])) ?_; (try simp only [nA, Nat.reduceBEq, Nat.reduceEqDiff, ↓reduceIte, Nat.reduceAdd, Nat.reduceSub])
  refine awP (op_assign rfl rfl) ?_; (simp only [nA])
  refine AWL.nil ?_
  (refine hK _ ?_; clear hK K; (skip))
  (refine AW.seq_k ?_; intro K hK)
  refine AW.region ?_
  refine awP (op_move rfl rfl) ?_; (simp only [nA, Nat.reduceEqDiff, ↓reduceIte])
  refine awP (op_move rfl rfl) ?_; (simp only [nA, Nat.reduceEqDiff, ↓reduceIte])
  (refine awP (op_nil_slot rfl rfl rfl) ?_); (try simp only [nA, Nat.reduceBEq, Nat.reduceEqDiff, ↓reduceIte, Nat.reduceAdd, Nat.reduceSub])
  (refine awP (op_fa_ptr rfl rfl rfl fl73_0 (by exact sz22) (by decide) rfl) ?_); (try simp only [nA, Nat.reduceBEq, Nat.reduceEqDiff, ↓reduceIte, Nat.reduceAdd, Nat.reduceSub])
  (refine awR (op_load_ptr1 rfl rfl rfl rfl ag22 rfl rfl) ?_); (try simp only [nA, Nat.reduceBEq, Nat.reduceEqDiff, ↓reduceIte, Nat.reduceAdd, Nat.reduceSub])
  refine awP (op_move rfl rfl) ?_; (simp only [nA, Nat.reduceEqDiff, ↓reduceIte])
  refine awP (op_slice_ro n.toNat b.length rfl (.inl rfl) (by exact ⟨_, by rw [Int.toNat_of_nonneg h0]; rfl⟩) (by simp [bndIs]) hnl (by simp) Tryz.underlying22 sz5 (bv_len b) (es' := (b.drop n.toNat).map bv) (by rw [List.take_of_length_le (by simp), List.map_drop])) ?_; (try simp only [nA, Nat.reduceBEq, Nat.reduceEqDiff, ↓reduceIte, Nat.reduceAdd, Nat.reduceSub])
  (refine awP (op_nil_slot rfl rfl rfl) ?_); (try simp only [nA, Nat.reduceBEq, Nat.reduceEqDiff, ↓reduceIte, Nat.reduceAdd, Nat.reduceSub])
  (refine awP (op_fa_ptr rfl rfl rfl fl73_0 (by exact sz22) (by decide) rfl) ?_); (try simp only [nA, Nat.reduceBEq, Nat.reduceEqDiff, ↓reduceIte, Nat.reduceAdd, Nat.reduceSub])
  refine awJ (op_store rfl rfl rfl rfl rfl rfl sz22 rfl (bl rfl) rfl) ?_; (simp only [nA, ↓reduceIte])
  refine AWL.nil ?_
  (refine hK _ ?_; clear hK K; (skip))
  (refine AW.seq_k ?_; intro K hK)
  refine AW.region ?_
  refine awP (op_move rfl rfl) ?_; (simp only [nA, ↓reduceIte])
  refine awP (op_assign rfl rfl) ?_; (simp only [nA])
  refine awP (op_assign rfl rfl) ?_; (try simp only [nA, Nat.reduceBEq, Nat.reduceEqDiff, ↓reduceIte, Nat.reduceAdd, Nat.reduceSub])
  refine AWL.nil ?_
  (refine hK _ ?_; clear hK K; (skip))
  skip
  refine AW.ret ?_; (try simp only [thenE, inBlk, Nat.reduceEqDiff, ↓reduceIte]); rw [takE_yes (s := ⟨b, false⟩) hF]; exact RQ.of (.inl rfl) rfl (.tmp (bl rfl) rfl rfl (.tmp (bl rfl) rfl rfl .nil)) (by simp) rfl (one_out rfl)
end Go.Proofs.YtfmnaigedgmhoaaGreatDoor
namespace Go.Proofs.YtfmnaigedgmhoaaGreatDoor
open Go.RowKit
set_option linter.unusedSimpArgs false
set_option linter.unusedVariables false
set_option maxRecDepth 100000
theorem takE_fail {n : Int} {s : RS} (h : (takE n s).1.2 = false) : s.bad = true ∨ n > (s.b.length : Nat) := by
  refine Classical.byContradiction fun h' => ?_
  rw [takE_yes h'] at h
  cases h
theorem takE_fine {n : Int} {s : RS} (h : (takE n s).1.2 = true) : s.bad = false ∧ n ≤ (s.b.length : Nat) := by
  have h' : ¬ (s.bad = true ∨ n > (s.b.length : Nat)) := fun h' => by rw [takE_no h'] at h; cases h
  refine ⟨?_, by have := fun h => h' (.inr h); omega⟩
  cases hb : s.bad with
  | false => rfl
  | true => exact absurd (.inl hb) h'
theorem takE4_no {s : RS} (h : (takE 4 s).1.2 = false) : numE s = (0, (takE 4 s).2) := by
  have h1 := takE_fail h
  rw [takE_no h1]
  obtain ⟨b, bad⟩ := s
  cases bad with
  | true => rfl
  | false =>
    have h2 : (4 : Int) > (b.length : Nat) := h1.elim (fun h => by cases h) id
    match b, h2 with
    | [], _ => rfl
    | [_], _ => rfl
    | [_, _], _ => rfl
    | [_, _, _], _ => rfl
    | _ :: _ :: _ :: _ :: r, h2 => simp at h2; omega
theorem takE4_yes {s : RS} (h : (takE 4 s).1.2 = true) : ∃ a b c d r, s = ⟨a :: b :: c :: d :: r, false⟩ ∧ takE 4 s = (([a, b, c, d], true), ⟨r, false⟩) := by
  obtain ⟨h1, h2⟩ := takE_fine h
  obtain ⟨b, bad⟩ := s
  dsimp only at h1 h2
  subst h1
  match b, h2 with
  | [], h2 => simp at h2
  | [_], h2 => simp at h2
  | [_, _], h2 => simp at h2
  | [_, _, _], h2 => simp at h2
  | a :: b :: c :: d :: r, _ => exact ⟨a, b, c, d, r, rfl, by rw [takE_yes (by simp; omega)]; rfl⟩
theorem takE1_no {s : RS} (h : (takE 1 s).1.2 = false) : trE s = (false, (takE 1 s).2) := by
  have h1 := takE_fail h
  rw [takE_no h1]
  obtain ⟨b, bad⟩ := s
  cases bad with
  | true => rfl
  | false =>
    have h2 : (1 : Int) > (b.length : Nat) := h1.elim (fun h => by cases h) id
    match b, h2 with
    | [], _ => rfl
    | _ :: r, h2 => simp at h2; omega
theorem takE1_yes {s : RS} (h : (takE 1 s).1.2 = true) : ∃ a r, s = ⟨a :: r, false⟩ ∧ takE 1 s = (([a], true), ⟨r, false⟩) := by
  obtain ⟨h1, h2⟩ := takE_fine h
  obtain ⟨b, bad⟩ := s
  dsimp only at h1 h2
  subst h1
  match b, h2 with
  | [], h2 => simp at h2
  | a :: r, _ => exact ⟨a, r, rfl, by rw [takE_yes (by simp; omega)]; rfl⟩
theorem wrapB (a : UInt8) : IntKind.i64.wrap (a.toNat : Int) = (a.toNat : Int) := by
  have := a.toNat_lt
  rw [IntKind.wrap_i64]; omega
theorem shlB (a : UInt8) (k : Nat) (hk : k ≤ 24) : IntKind.i64.wrap ((a.toNat : Int) * 2 ^ k) = ((a.toNat * 2 ^ k : Nat) : Int) := by
  have h := a.toNat_lt
  have h2 : 2 ^ k ≤ 2 ^ 24 := Nat.pow_le_pow_right (by decide) hk
  have h3 : a.toNat * 2 ^ k ≤ 255 * 2 ^ 24 := Nat.mul_le_mul (by omega) h2
  have e : (a.toNat : Int) * 2 ^ k = ((a.toNat * 2 ^ k : Nat) : Int) := by simp
  rw [e, IntKind.wrap_i64]
  omega
set_option maxHeartbeats 8000000 in
theorem C62 {x : Ev} {rs os : AV} {s : RS} (hl : s.b.length ≤ 1000000) : Fn Tryz.prog 62 [.own 73 [rdC x rs os s]] [.ptr 0 0 0 0] [.v (.int .i64 (numE s).1)] [.own 73 [rdC x rs os (numE s).2]] := by
  refine Spec.body Tryz.func62 rfl Tryz.ntmps62 (by simp) rfl ?_; intro S0 own0 v0 w0 gl
  (refine AW.seq_k ?_; intro K hK)
  refine AW.region ?_
  refine awP (op_assign rfl rfl) ?_; (try simp only [nA, Nat.reduceBEq, Nat.reduceEqDiff, ↓reduceIte, Nat.reduceAdd, Nat.reduceSub])
  refine AWL.nil ?_
  (refine hK _ ?_; clear hK K; (try simp only [nA, Nat.reduceBEq, Nat.reduceEqDiff, ↓reduceIte, Nat.reduceAdd, Nat.reduceSub]))
  (refine AW.seq_k ?_; intro K hK)
  refine AW.region ?_
  refine awP (op_move rfl rfl) ?_; (simp only [nA, ↓reduceIte])
  refine awJ (op_call1 rfl en89 (C89 (x := x) (rs := rs) (os := os) (s := s) (n := 4) (by decide) hl) (by exact rfl) (RL.cons .ptr (RL.cons (.base (by exact View.same rfl)) (RL.nil))) (by exact ⟨_, _, _, rfl, rfl, rfl⟩) (by exact rfl) (by exact rfl) (by exact rfl)) ?_; (try simp only [nA, Nat.reduceBEq, Nat.reduceEqDiff, ↓reduceIte, Nat.reduceAdd, Nat.reduceSub])
  refine awP (op_move rfl rfl) ?_; (simp only [nA])
  refine awP (op_extract rfl rfl rfl) ?_; (try simp only [nA, Nat.reduceBEq, Nat.reduceEqDiff, ↓reduceIte, Nat.reduceAdd, Nat.reduceSub])
  refine awP (op_extract rfl rfl rfl) ?_; (try simp only [nA, Nat.reduceBEq, Nat.reduceEqDiff, ↓reduceIte, Nat.reduceAdd, Nat.reduceSub])
  refine awP (op_assign rfl rfl) ?_; (simp only [nA, ↓reduceIte])
  refine awP (op_assign rfl rfl) ?_; (simp only [nA, ↓reduceIte])
  refine AWL.nil ?_
  (refine hK _ ?_; clear hK K; (skip))
  (refine AW.seq_k ?_; intro K hK)
  (refine AW.seq_k ?_; intro K hK)
  refine AW.region ?_
  refine awP (op_move rfl rfl) ?_; (simp only [nA])
  refine awP (op_not rfl rfl rfl) ?_; (try simp only [nA, Nat.reduceBEq, Nat.reduceEqDiff, ↓reduceIte, Nat.reduceAdd, Nat.reduceSub])
  refine AWL.nil ?_
  (refine hK _ ?_; clear hK K; (skip))
  refine AW.cond rfl rfl rfl (fun hc => ?_) (fun hc => ?_)
  ·
   (try simp only [hcS] at hc); have hc1 := hc; have hT : (takE 4 s).1.2 = false := (by simpa using hc1)
   (refine AW.seq_k ?_; intro K hK)
   refine AW.region ?_
   refine awP (op_assign rfl rfl) ?_; (try simp only [nA, Nat.reduceBEq, Nat.reduceEqDiff, ↓reduceIte, Nat.reduceAdd, Nat.reduceSub])
   refine AWL.nil ?_
   (refine hK _ ?_; clear hK K; (skip))
   skip
   refine AW.ret ?_; (try simp only [thenE, inBlk, Nat.reduceEqDiff, ↓reduceIte]); rw [takE4_no hT]; exact RQ.of (.inl rfl) rfl (.tmp (bl rfl) rfl rfl .nil) (by simp) rfl (one_out rfl)
  (try simp only [hcS] at hc); have hc1 := hc; obtain ⟨a, b, c, d, r, rfl, htk⟩ := takE4_yes (s := s) (by simpa using hc1); simp only [htk, List.map_cons, List.map_nil]; have la := a.toNat_lt; have lb := b.toNat_lt; have lc := c.toNat_lt; have ld := d.toNat_lt
  refine AW.skip ?_
  (refine hK _ ?_; clear hK K; (skip))
  (refine AW.seq_k ?_; intro K hK)
  refine AW.quiet mix (by kernel_rfl) ?_
  refine aqP (op_move rfl rfl) ?_; (simp only [nA, ↓reduceIte])
  refine aqP (op_ia_ro 0 rfl (.inl rfl) rfl Tryz.underlying22 rfl rfl (by exact sz5) (bl rfl)) ?_; (try simp only [nA, Nat.reduceBEq, Nat.reduceEqDiff, ↓reduceIte, Nat.reduceAdd, Nat.reduceSub])
  (refine aqR (op_load_rop1 rfl rfl ag5) ?_); (try simp only [nA, Nat.reduceBEq, Nat.reduceEqDiff, ↓reduceIte, Nat.reduceAdd, Nat.reduceSub])
  refine aqP (op_conv rfl rfl Tryz.underlying5 Tryz.underlying3 (wrapB _)) ?_; (try simp only [nA, Nat.reduceBEq, Nat.reduceEqDiff, ↓reduceIte, Nat.reduceAdd, Nat.reduceSub])
  refine aqP (op_shl (z := ((a.toNat * 2 ^ 24 : Nat) : Int)) rfl rfl rfl (by decide) (shlB a 24 (by decide))) ?_; (try simp only [nA, Nat.reduceBEq, Nat.reduceEqDiff, ↓reduceIte, Nat.reduceAdd, Nat.reduceSub])
  refine aqP (op_move rfl rfl) ?_; (simp only [nA, ↓reduceIte])
  refine aqP (op_ia_ro 1 rfl (.inl rfl) rfl Tryz.underlying22 rfl rfl (by exact sz5) (bl rfl)) ?_; (try simp only [nA, Nat.reduceBEq, Nat.reduceEqDiff, ↓reduceIte, Nat.reduceAdd, Nat.reduceSub])
  (refine aqR (op_load_rop1 rfl rfl ag5) ?_); (try simp only [nA, Nat.reduceBEq, Nat.reduceEqDiff, ↓reduceIte, Nat.reduceAdd, Nat.reduceSub])
  refine aqP (op_conv rfl rfl Tryz.underlying5 Tryz.underlying3 (wrapB _)) ?_; (try simp only [nA, Nat.reduceBEq, Nat.reduceEqDiff, ↓reduceIte, Nat.reduceAdd, Nat.reduceSub])
  refine aqP (op_shl (z := ((b.toNat * 2 ^ 16 : Nat) : Int)) rfl rfl rfl (by decide) (shlB b 16 (by decide))) ?_; (try simp only [nA, Nat.reduceBEq, Nat.reduceEqDiff, ↓reduceIte, Nat.reduceAdd, Nat.reduceSub])
  refine aqP (op_or rfl rfl rfl (or_add 24 _ _ (by omega) (by omega) (by omega))) ?_; (try simp only [nA, Nat.reduceBEq, Nat.reduceEqDiff, ↓reduceIte, Nat.reduceAdd, Nat.reduceSub])
  refine aqP (op_move rfl rfl) ?_; (simp only [nA, ↓reduceIte])
  refine aqP (op_ia_ro 2 rfl (.inl rfl) rfl Tryz.underlying22 rfl rfl (by exact sz5) (bl rfl)) ?_; (try simp only [nA, Nat.reduceBEq, Nat.reduceEqDiff, ↓reduceIte, Nat.reduceAdd, Nat.reduceSub])
  (refine aqR (op_load_rop1 rfl rfl ag5) ?_); (try simp only [nA, Nat.reduceBEq, Nat.reduceEqDiff, ↓reduceIte, Nat.reduceAdd, Nat.reduceSub])
  refine aqP (op_conv rfl rfl Tryz.underlying5 Tryz.underlying3 (wrapB _)) ?_; (try simp only [nA, Nat.reduceBEq, Nat.reduceEqDiff, ↓reduceIte, Nat.reduceAdd, Nat.reduceSub])
  refine aqP (op_shl (z := ((c.toNat * 2 ^ 8 : Nat) : Int)) rfl rfl rfl (by decide) (shlB c 8 (by decide))) ?_; (try simp only [nA, Nat.reduceBEq, Nat.reduceEqDiff, ↓reduceIte, Nat.reduceAdd, Nat.reduceSub])
  refine aqP (op_or rfl rfl rfl (or_add 16 _ _ (by omega) (by omega) (by omega))) ?_; (try simp only [nA, Nat.reduceBEq, Nat.reduceEqDiff, ↓reduceIte, Nat.reduceAdd, Nat.reduceSub])
  refine aqP (op_move rfl rfl) ?_; (simp only [nA, ↓reduceIte])
  refine aqP (op_ia_ro 3 rfl (.inl rfl) rfl Tryz.underlying22 rfl rfl (by exact sz5) (bl rfl)) ?_; (try simp only [nA, Nat.reduceBEq, Nat.reduceEqDiff, ↓reduceIte, Nat.reduceAdd, Nat.reduceSub])
  (refine aqR (op_load_rop1 rfl rfl ag5) ?_); (try simp only [nA, Nat.reduceBEq, Nat.reduceEqDiff, ↓reduceIte, Nat.reduceAdd, Nat.reduceSub])
  refine aqP (op_conv rfl rfl Tryz.underlying5 Tryz.underlying3 (wrapB _)) ?_; (try simp only [nA, Nat.reduceBEq, Nat.reduceEqDiff, ↓reduceIte, Nat.reduceAdd, Nat.reduceSub])
  refine aqP (op_or rfl rfl rfl (or_add 8 _ _ (by omega) (by omega) (by omega))) ?_; (try simp only [nA, Nat.reduceBEq, Nat.reduceEqDiff, ↓reduceIte, Nat.reduceAdd, Nat.reduceSub])
  refine aqP (op_assign rfl rfl) ?_; (simp only [nA])
  refine AQ.nil ?_
  (refine hK _ ?_; clear hK K; (skip))
  skip
  refine AW.ret ?_; (try simp only [thenE, inBlk, Nat.reduceEqDiff, ↓reduceIte]); rw [show numE ⟨a :: b :: c :: d :: r, false⟩ = (n4 a b c d, ⟨r, false⟩) from rfl]; exact RQ.of (.inl rfl) rfl (.tmp (bl rfl) rfl rfl .nil) (by simp) rfl (one_out rfl)
theorem trE_at (a : UInt8) (r : BL) : trE ⟨a :: r, false⟩ = (decide (((a.toNat : Nat) : Int) = 1), ⟨r, decide (((a.toNat : Nat) : Int) > 1)⟩) := by
  show (decide (a = 1), (⟨r, decide (a.toNat > 1)⟩ : RS)) = _
  have e : decide (a = 1) = decide (((a.toNat : Nat) : Int) = 1) := decide_eq_decide.2 ⟨fun h => by subst h; rfl, fun h => UInt8.toNat_inj.1 (by show a.toNat = 1; omega)⟩
  have e2 : decide (a.toNat > 1) = decide (((a.toNat : Nat) : Int) > 1) := decide_eq_decide.2 (by omega)
  rw [e, e2]
set_option maxHeartbeats 8000000 in
theorem C65 {x : Ev} {rs os : AV} {s : RS} (hl : s.b.length ≤ 1000000) : Fn Tryz.prog 65 [.own 73 [rdC x rs os s]] [.ptr 0 0 0 0] [.v (.bool (trE s).1)] [.own 73 [rdC x rs os (trE s).2]] := by
  refine Spec.body Tryz.func65 rfl Tryz.ntmps65 (by simp) rfl ?_; intro S0 own0 v0 w0 gl
  (refine AW.seq_k ?_; intro K hK)
  refine AW.region ?_
  refine awP (op_assign rfl rfl) ?_; (try simp only [nA, Nat.reduceBEq, Nat.reduceEqDiff, ↓reduceIte, Nat.reduceAdd, Nat.reduceSub])
  refine AWL.nil ?_
  (refine hK _ ?_; clear hK K; (try simp only [nA, Nat.reduceBEq, Nat.reduceEqDiff, ↓reduceIte, Nat.reduceAdd, Nat.reduceSub]))
  (refine AW.seq_k ?_; intro K hK)
  refine AW.region ?_
  refine awP (op_move rfl rfl) ?_; (simp only [nA, ↓reduceIte])
  refine awJ (op_call1 rfl en89 (C89 (x := x) (rs := rs) (os := os) (s := s) (n := 1) (by decide) hl) (by exact rfl) (RL.cons .ptr (RL.cons (.base (by exact View.same rfl)) (RL.nil))) (by exact ⟨_, _, _, rfl, rfl, rfl⟩) (by exact rfl) (by exact rfl) (by exact rfl)) ?_; (try simp only [nA, Nat.reduceBEq, Nat.reduceEqDiff, ↓reduceIte, Nat.reduceAdd, Nat.reduceSub])
  refine awP (op_move rfl rfl) ?_; (simp only [nA])
  refine awP (op_extract rfl rfl rfl) ?_; (try simp only [nA, Nat.reduceBEq, Nat.reduceEqDiff, ↓reduceIte, Nat.reduceAdd, Nat.reduceSub])
  refine awP (op_extract rfl rfl rfl) ?_; (try simp only [nA, Nat.reduceBEq, Nat.reduceEqDiff, ↓reduceIte, Nat.reduceAdd, Nat.reduceSub])
  refine awP (op_assign rfl rfl) ?_; (simp only [nA, ↓reduceIte])
  refine awP (op_assign rfl rfl) ?_; (simp only [nA, ↓reduceIte])
  refine AWL.nil ?_
  (refine hK _ ?_; clear hK K; (skip))
  (refine AW.seq_k ?_; intro K hK)
  (refine AW.seq_k ?_; intro K hK)
  refine AW.region ?_
  refine awP (op_move rfl rfl) ?_; (simp only [nA])
  refine awP (op_not rfl rfl rfl) ?_; (try simp only [nA, Nat.reduceBEq, Nat.reduceEqDiff, ↓reduceIte, Nat.reduceAdd, Nat.reduceSub])
  refine AWL.nil ?_
  (refine hK _ ?_; clear hK K; (skip))
  refine AW.cond rfl rfl rfl (fun hc => ?_) (fun hc => ?_)
  ·
   (try simp only [hcS] at hc); have hc1 := hc; have hT : (takE 1 s).1.2 = false := (by simpa using hc1)
   (refine AW.seq_k ?_; intro K hK)
   refine AW.region ?_
   refine awP (op_assign rfl rfl) ?_; (try simp only [nA, Nat.reduceBEq, Nat.reduceEqDiff, ↓reduceIte, Nat.reduceAdd, Nat.reduceSub])
   refine AWL.nil ?_
   (refine hK _ ?_; clear hK K; (skip))
   skip
   refine AW.ret ?_; (try simp only [thenE, inBlk, Nat.reduceEqDiff, ↓reduceIte]); rw [takE1_no hT]; exact RQ.of (.inl rfl) rfl (.tmp (bl rfl) rfl rfl .nil) (by simp) rfl (one_out rfl)
  (try simp only [hcS] at hc); have hc1 := hc; obtain ⟨a, r, rfl, htk⟩ := takE1_yes (s := s) (by simpa using hc1); simp only [htk, List.map_cons, List.map_nil]; have la := a.toNat_lt
  refine AW.skip ?_
  (refine hK _ ?_; clear hK K; (skip))
  (refine AW.seq_k ?_; intro K hK)
  refine AW.region ?_
  refine awP (op_move rfl rfl) ?_; (simp only [nA, ↓reduceIte])
  refine awP (op_move rfl rfl) ?_; (simp only [nA, ↓reduceIte])
  refine awP (op_ia_ro 0 rfl (.inl rfl) rfl Tryz.underlying22 rfl rfl (by exact sz5) (bl rfl)) ?_; (try simp only [nA, Nat.reduceBEq, Nat.reduceEqDiff, ↓reduceIte, Nat.reduceAdd, Nat.reduceSub])
  (refine awR (op_load_rop1 rfl rfl ag5) ?_); (try simp only [nA, Nat.reduceBEq, Nat.reduceEqDiff, ↓reduceIte, Nat.reduceAdd, Nat.reduceSub])
  refine awP (op_gtr rfl rfl rfl) ?_; (try simp only [nA, Nat.reduceBEq, Nat.reduceEqDiff, ↓reduceIte, Nat.reduceAdd, Nat.reduceSub])
  (refine awP (op_nil_slot rfl rfl rfl) ?_); (try simp only [nA, Nat.reduceBEq, Nat.reduceEqDiff, ↓reduceIte, Nat.reduceAdd, Nat.reduceSub])
  (refine awP (op_fa_ptr rfl rfl rfl fl73_2 (by exact sz4) (by decide) rfl) ?_); (try simp only [nA, Nat.reduceBEq, Nat.reduceEqDiff, ↓reduceIte, Nat.reduceAdd, Nat.reduceSub])
  refine awJ (op_store rfl rfl rfl rfl rfl rfl sz4 rfl (bl rfl) rfl) ?_; (simp only [nA, ↓reduceIte])
  refine AWL.nil ?_
  (refine hK _ ?_; clear hK K; (skip))
  (refine AW.seq_k ?_; intro K hK)
  refine AW.region ?_
  refine awP (op_move rfl rfl) ?_; (simp only [nA, ↓reduceIte])
  refine awP (op_ia_ro 0 rfl (.inl rfl) rfl Tryz.underlying22 rfl rfl (by exact sz5) (bl rfl)) ?_; (try simp only [nA, Nat.reduceBEq, Nat.reduceEqDiff, ↓reduceIte, Nat.reduceAdd, Nat.reduceSub])
  (refine awR (op_load_rop1 rfl rfl ag5) ?_); (try simp only [nA, Nat.reduceBEq, Nat.reduceEqDiff, ↓reduceIte, Nat.reduceAdd, Nat.reduceSub])
  (refine awP (op_eql rfl rfl rfl) ?_); (try simp only [nA, Nat.reduceBEq, Nat.reduceEqDiff, ↓reduceIte, Nat.reduceAdd, Nat.reduceSub])
  refine awP (op_assign rfl rfl) ?_; (simp only [nA])
  refine AWL.nil ?_
  (refine hK _ ?_; clear hK K; (skip))
  skip
  refine AW.ret ?_; (try simp only [thenE, inBlk, Nat.reduceEqDiff, ↓reduceIte]); rw [show trE ⟨a :: r, false⟩ = (decide (((a.toNat : Nat) : Int) = 1), ⟨r, decide (((a.toNat : Nat) : Int) > 1)⟩) from trE_at a r]; exact RQ.of (.inl rfl) rfl (.tmp (bl rfl) rfl rfl .nil) (by simp) rfl (one_out rfl)
end Go.Proofs.YtfmnaigedgmhoaaGreatDoor
namespace Go.Proofs.YtfmnaigedgmhoaaGreatDoor
open Go.RowKit
set_option linter.unusedSimpArgs false
set_option linter.unusedVariables false
section
variable {C : Cx} {o : Oper} {ev : Operand → AV} {T : Sl}
theorem op_b2sR {src dst e2 : TypeId} {y : Operand} {l : List UInt8} {s : ByteArray} (ho : o.op = .convert src dst y) (hy : ev y = .ro (l.map fun b => [.v (.int .u8 (b.toNat : Nat))])) (hs : C.P.underlying src = some (.slice e2)) (he : C.P.underlying e2 = some (.int .u8)) (hd : C.P.underlying dst = some .string) (hsl : (⟨l.toArray⟩ : ByteArray) = s) : OpR C o ev T (.v (.string s)) := by
  subst hsl
  intro a w S vals bss hm h
  have h1 := h y (by simp [ho, Op.operands])
  rw [hy] at h1
  obtain ⟨-, A, c, sz, us, hv, h2, h3, h4, h5, h6, h7⟩ := Rep.ro_inv h1
  have hfl : ∀ l : List UInt8, (l.map fun b => [AV.v (.int .u8 (b.toNat : Nat))]).flatten = l.map fun b => AV.v (.int .u8 (b.toNat : Nat)) := fun l => by
    induction l with
    | nil => rfl
    | cons b l ih => simp [ih]
  rw [hfl, List.length_map] at h6
  rw [hfl] at h7
  rw [List.length_map] at hv h2
  refine ⟨.string ⟨l.toArray⟩, fun w' hk => ?_, TmpOK.v_ rfl⟩
  cases A with
  | none =>
    have hl : l = [] := by
      cases l with
      | nil => rfl
      | cons b l =>
        obtain ⟨g, o', e, _⟩ := h5 (by rw [h6]; simp)
        cases e
    subst hl
    have hrun := run_convert_bytes_nil (P := C.P) (w := w') src e2 hs he 0 c dst hd
    have hv' : a.eval y = .slice none 0 c := hv
    simp [execOp, ho, hv', hrun]
    rfl
  | some A =>
    have hrun := run_convert_bytes_back (P := C.P) w' src dst e2 A c l hs he hd (fun j hj => by
      obtain ⟨g, o', e, hg, hc⟩ := h5 (by omega)
      cases e
      have hu := List.getElem?_eq_getElem (l := us) (i := j) (by omega)
      have hx := (h7 j _ (.v (.int .u8 (l[j].toNat : Nat))) hu (by simp [hj])).v_inv.1
      have h8 := hc j _ hu
      rw [hx] at h8
      have := hk.cell h8 trivial
      simpa [add_off] using this)
    simp [execOp, ho, hv, hrun]
end
end Go.Proofs.YtfmnaigedgmhoaaGreatDoor
namespace Go.Proofs.YtfmnaigedgmhoaaGreatDoor
open Go.RowKit
set_option linter.unusedSimpArgs false
set_option linter.unusedVariables false
theorem op_ia_glob {C : Cx} {o : Oper} {ev : Operand → AV} {T : Sl} {t e : TypeId} {q : Operand} {kk : IntKind} {n : Int} (m : Nat) {l : List Int} (ho : o.op = .indexAddr t (.global 0) q) (hi : ev q = .v (.int kk n)) (ht : C.P.underlying t = some (.array 15 e)) (hn : n = (m : Int)) (hm : gRows[m]? = some l) (hs : sizeIs C.P e 1) :
    OpP C o ev T (.rop [.ro (l.map fun n => [.v (.int .i64 n)])]) := by
  intro a w S vals bss hme h
  have h2 := h q (by simp [ho, Op.operands])
  rw [hi] at h2
  have hee := elem_eqA ht
  have hml : m < 15 := (List.getElem?_eq_some_iff.1 hm).1
  subst hn
  have hlt : (m : Int) < (15 : Int) := by omega
  refine ⟨.pointer (some ⟨0, m, none⟩), fun w => ?_, hme.glob m l hm⟩
  have e0 : a.eval (.global 0) = .pointer (some ⟨0, 0, none⟩) := rfl
  simp [execOp, ho, e0, h2.v, run_indexAt_array w t _ _ _ (by rw [hee.1, hee.2]; exact ht), hlt, hee.1, hee.2, run_sizeOf hs, add_off]
section
variable {C : Cx} {T : Sl} {S S2 : Nat → Prop} {vals : List Value} {bss : List (List Nat)} {w w' : World}
variable {o : Oper} {ev : Operand → AV}
theorem op_val1 {f : FuncId} {p : Operand} {args : Array Operand} {ts : Array TypeId} {r k : Nat} {x0 x1 : AV} {xs ys : List AV} (ho : o.op = .call { callee := .value p, args := args, argTypes := ts }) (hp : ev p = .v (.func (.func f) #[] #[])) (hf : Enters C.P f) (hsp : Fn C.P f [x0] xs ys [x1]) (hs : T.slots[r]? = some (k, x0)) (hv : RL (View1 T r k) (args.toList.map ev) xs)
    (hx1 : ∃ e es es', x0 = .own e es ∧ x1 = .own e es' ∧ es.length = es'.length) (hn : ys.all (cloA 1) = true) {x : AV} {T' : Sl} (hx : packR (unp (ys.map (renA r k)) ⟨T.slots.set r (k, x1), T.ep⟩).1 = x) (hT : (unp (ys.map (renA r k)) ⟨T.slots.set r (k, x1), T.ep⟩).2 = T') : OpJ C o ev T x T' := by
  intro a w S vals bss hm h K hK Q
  have hfv : a.eval p = .func (.func f) #[] #[] := by
    have := h p (by simp [ho, Op.operands, Call.operands])
    rw [hp] at this
    exact (show Rep C.P S w [] _ _ from this).v_inv.1
  have hrl : r < T.slots.length := (List.getElem?_eq_some_iff.1 hs).1
  have hargs : ∀ y ∈ args, TmpOK C.P S w T vals (a.eval y) (ev y) := fun y hy => h y (by simp [ho, Op.operands, Call.operands]; exact .inr hy)
  obtain ⟨v, bs, hvr, hbr, hrep⟩ := hm.slot hs
  have hcame : Came C.P [x0] xs w S [v] [bs] (args.toList.map a.eval) := by
    refine ⟨hm.glob, hm.lt, rfl, rfl, fun q x u b h1 h2 h3 => ?_, ⟨fun q b h1 => ?_, fun q q' b b' hne h1 h2 => ?_⟩, fun b ⟨q, b1, h1, h2⟩ => ?_, by have := hv.1; simpa using this, fun i u x h1 h2 => ?_⟩
    · cases q with
      | zero => simp at h1 h2 h3; subst h1; subst h2; subst h3; exact hrep
      | succ q => simp at h1
    · cases q with
      | zero => simp at h1; subst h1; exact hm.nodup r _ hbr
      | succ q => simp at h1
    · cases q with
      | zero => cases q' with
        | zero => exact absurd rfl hne
        | succ q' => simp at h2
      | succ q => simp at h1
    · cases q with
      | zero => simp at h1; subst h1; exact hm.apart r _ hbr b h2
      | succ q => simp at h1
    rw [List.getElem?_map] at h1
    cases hq : args.toList[i]? with
    | none => rw [hq] at h1; cases h1
    | some y =>
      rw [hq] at h1
      simp only [Option.map_some, Option.some.injEq] at h1
      subst h1
      exact view1_ok hm hs hvr (hv.2 i (ev y) x (by rw [List.getElem?_map, hq]; rfl) h2) (hargs y (Array.mem_toList_iff.1 (List.mem_of_getElem? hq)))
  have hc := hsp w S [v] [bs] _ hcame
  have hrun : (execOp a.eval o).run C.P w = .ok (.enter f (args.toList.map a.eval).toArray) w := by
    have e1 : (args.map a.eval) = (args.toList.map a.eval).toArray := by apply Array.toList_inj.1; simp
    simp only [execOp, ho, resolve, hfv, Deferred.ofValue, Sem.run_bind, Sem.run_pure, Result.andThen_ok, invoke]
    rw [← e1]
    simpa using hf _ w
  unfold Oper.wp
  rw [hrun, Oper.upon_enter]
  refine hc.mono ?_
  rintro e w' ⟨us, ys', outs, bsr, bss', rfl, went, rfl, rfl⟩
  simp only
  obtain ⟨bs', rfl⟩ : ∃ b, bss' = [b] := by
    match bss', went.nb with
    | [b], _ => exact ⟨b, rfl⟩
  have hin1 : ∀ (b : List Nat) (q : Nat), InL [b] q ↔ q ∈ b := fun b q => by
    constructor
    · rintro ⟨i, b1, h1, h2⟩
      cases i with
      | zero => simp at h1; subst h1; exact h2
      | succ i => simp at h1
    intro h; exact ⟨0, b, rfl, h⟩
  have hk : Kept (fun q => q ∉ bs) w w' := went.kept.mono fun q _ h h' => h ((hin1 _ _).1 h')
  have hinR : ∀ q, InL bsr q → InL (bsr ++ [bs']) q := fun q ⟨i, b, h1, h2⟩ => ⟨i, b, by rw [List.getElem?_append_left (List.getElem?_eq_some_iff.1 h1).1]; exact h1, h2⟩
  have hinS : ∀ q, q ∈ bs' → InL (bsr ++ [bs']) q := fun q h => ⟨bsr.length, bs', by simp, h⟩
  have hown' := went.own
  have hownR : Own2 bsr := ⟨fun i b h => hown'.nodup i b (by rw [List.getElem?_append_left (List.getElem?_eq_some_iff.1 h).1]; exact h), fun i j b b' hne h1 h2 => hown'.disj i j b b' hne (by rw [List.getElem?_append_left (List.getElem?_eq_some_iff.1 h1).1]; exact h1) (by rw [List.getElem?_append_left (List.getElem?_eq_some_iff.1 h2).1]; exact h2)⟩
  have hmine : ∀ q, InL (bsr ++ [bs']) q → w.heap.size ≤ q ∨ q ∈ bs := fun q h => (went.mine q h).imp id (hin1 _ _).1
  obtain ⟨e0, es, es', rfl, rfl, hle⟩ := hx1
  obtain ⟨hm2, hf2⟩ := hm.set2 (S2 := After S w w' [bs] (bsr ++ [bs'])) (x' := .own e0 es') (bs' := bs') hs hvr hbr hk (fun q h => .inl h) (fun q h => h.imp id fun ⟨h1, h2, h3⟩ => ⟨h1.imp id (hin1 _ _).1, h2, fun h => h3 (hinS q h)⟩)
    (went.rep 0 _ v bs' rfl rfl rfl) (hown'.nodup bsr.length bs' (by simp)) (fun q h => (hmine q (hinS q h)).symm) (fun e es2 h => by injection h with h1 h2; subst h1; subst h2; exact ⟨es, rfl, hle⟩) (fun b ks h => by cases h)
  have hs2 : (T.slots.set r (k, AV.own e0 es'))[r]? = some (k, .own e0 es') := by simp [hrl]
  have hcl : ∀ (i : Nat) (y : AV), ys'[i]? = some y → cloA 1 y = true := fun i y h => List.all_eq_true.1 hn y (List.mem_of_getElem? h)
  obtain ⟨vals', bss'', g1, g2, g3⟩ := unp_ok2 (ys'.map (renA r k)) us bsr _ vals _ hm2 (by simp [went.nu]) (by simp [went.nr]) (fun i u y b q1 q2 q3 => by
    rw [List.getElem?_map] at q2
    cases hq : ys'[i]? with
    | none => rw [hq] at q2; cases q2
    | some y0 =>
      rw [hq] at q2
      simp only [Option.map_some, Option.some.injEq] at q2
      subst q2
      rcases went.res i u y0 b q1 hq q3 with h | ⟨h1, h2⟩
      · exact .inl (h.ren r k)
      · exact .inr ⟨h1, renA_ok (T' := ⟨T.slots.set r (k, .own e0 es'), T.ep⟩) hs2 hvr (hm.ver r k _ hs) h2 (hcl i y0 hq)⟩) hownR (fun q hq => by
      refine ⟨fun ⟨i, b, h1, h2⟩ => ?_, fun h => ?_, ?_⟩
      · rw [getElem?_set_ _ _ _ _ (by rw [hm.nb]; exact hrl)] at h1
        obtain ⟨j, bj, h3, h4⟩ := hq
        split at h1
        · injection h1 with h1; subst h1
          refine hown'.disj j bsr.length bj bs' ?_ (by rw [List.getElem?_append_left (List.getElem?_eq_some_iff.1 h3).1]; exact h3) (by simp) q h4 h2
          have := (List.getElem?_eq_some_iff.1 h3).1; omega
        rename_i hne
        rcases hmine q (hinR q ⟨j, bj, h3, h4⟩) with h | h
        · have := hm.blt h1 q h2; omega
        exact hm.disj r i bs b hne hbr h1 q h h2
      · rcases h with h | ⟨_, _, h⟩
        · rcases hmine q (hinR q hq) with h' | h'
          · have := hm.lt q h; omega
          exact hm.apart r bs hbr q h' h
        exact h (hinR q hq)
      rcases hmine q (hinR q hq) with h | h
      · have := hm.kept.size; exact .inr (by omega)
      exact hm.mine r bs hbr q h)
  subst hT
  refine hK _ _ _ _ _ g1 (fun u x h => g2 u x (hf2 u x h)) ?_
  subst hx
  match us, hz : (unp (ys'.map (renA r k)) ⟨T.slots.set r (k, .own e0 es'), T.ep⟩).1, g3 with
  | [], zs, rl =>
    have : zs = [] := List.eq_nil_of_length_eq_zero rl.1.symm
    subst this
    exact ⟨#[], rfl, RL.nil⟩
  | [u], zs, rl =>
    obtain ⟨z, rfl⟩ : ∃ z, zs = [z] := by
      match zs, rl.1 with
      | [z], _ => exact ⟨z, rfl⟩
    have := rl.2 0 u z rfl rfl
    cases z with
    | tup cs => exact absurd rfl (Rep.plain (show Rep _ _ _ _ _ (.tup cs) from this) cs).2
    | _ => exact this
  | u :: u2 :: us, zs, rl =>
    obtain ⟨z1, z2, zs', rfl⟩ : ∃ z1 z2 zs', zs = z1 :: z2 :: zs' := by
      match zs, rl.1 with
      | z1 :: z2 :: zs', _ => exact ⟨z1, z2, zs', rfl⟩
    exact ⟨_, rfl, by simpa using rl⟩
end
end Go.Proofs.YtfmnaigedgmhoaaGreatDoor
namespace Go.Proofs.YtfmnaigedgmhoaaGreatDoor
open Go.RowKit
set_option linter.unusedSimpArgs false
set_option linter.unusedVariables false
set_option maxRecDepth 100000
theorem numE_nn (s : RS) : 0 ≤ (numE s).1 := by
  unfold numE
  split
  · exact (n4_lt ..).1
  exact Int.le_refl 0
theorem numE_len (s : RS) : (numE s).2.b.length ≤ s.b.length := by
  obtain ⟨b, bad⟩ := s
  unfold numE
  split
  · rename_i h1 h2
    dsimp only at h1 h2
    subst h2
    simp; omega
  exact Nat.le_refl _
theorem trE_len (s : RS) : (trE s).2.b.length ≤ s.b.length := by
  obtain ⟨b, bad⟩ := s
  unfold trE
  split
  · rename_i h1 h2
    dsimp only at h1 h2
    subst h2
    simp
  exact Nat.le_refl _
theorem tkE_eq (n : Int) (s : RS) : tkE n s = (strB (takE n s).1.1, (takE n s).2) := by
  unfold tkE takE
  split <;> rfl
theorem takE_len (n : Int) (s : RS) : (takE n s).2.b.length ≤ s.b.length := by
  unfold takE
  split
  · exact Nat.le_refl _
  simp
theorem wdE_eq (s : RS) : wdE s = (strB (takE (numE s).1 (numE s).2).1.1, (takE (numE s).1 (numE s).2).2) := tkE_eq _ _
theorem wdE_len (s : RS) : (wdE s).2.b.length ≤ s.b.length := by
  rw [wdE_eq]; exact Nat.le_trans (takE_len _ _) (numE_len s)
set_option maxHeartbeats 8000000 in
theorem C63 {x : Ev} {rs os : AV} {s : RS} (hl : s.b.length ≤ 1000000) : Fn Tryz.prog 63 [.own 73 [rdC x rs os s]] [.ptr 0 0 0 0] [.v (.string (wdE s).1)] [.own 73 [rdC x rs os (wdE s).2]] := by
  refine Spec.body Tryz.func63 rfl Tryz.ntmps63 (by simp) rfl ?_; intro S0 own0 v0 w0 gl
  (refine AW.seq_k ?_; intro K hK)
  refine AW.region ?_
  refine awP (op_assign rfl rfl) ?_; (try simp only [nA, Nat.reduceBEq, Nat.reduceEqDiff, ↓reduceIte, Nat.reduceAdd, Nat.reduceSub])
  refine AWL.nil ?_
  (refine hK _ ?_; clear hK K; (try simp only [nA, Nat.reduceBEq, Nat.reduceEqDiff, ↓reduceIte, Nat.reduceAdd, Nat.reduceSub]))
  (refine AW.seq_k ?_; intro K hK)
  refine AW.region ?_
  refine awP (op_move rfl rfl) ?_; (simp only [nA, ↓reduceIte])
  refine awP (op_move rfl rfl) ?_; (simp only [nA, ↓reduceIte])
  refine awJ (op_call1 rfl en62 (C62 (x := x) (rs := rs) (os := os) (s := s) hl) (by exact rfl) (RL.cons .ptr (RL.nil)) (by exact ⟨_, _, _, rfl, rfl, rfl⟩) (by exact rfl) (by exact rfl) (by exact rfl)) ?_; (try simp only [nA, Nat.reduceBEq, Nat.reduceEqDiff, ↓reduceIte, Nat.reduceAdd, Nat.reduceSub])
  refine awJ (op_call1 rfl en89 (C89 (x := x) (rs := rs) (os := os) (s := (numE s).2) (n := (numE s).1) (numE_nn s) (Nat.le_trans (numE_len s) hl)) (by exact rfl) (RL.cons .ptr (RL.cons (.base (by exact View.same rfl)) (RL.nil))) (by exact ⟨_, _, _, rfl, rfl, rfl⟩) (by exact rfl) (by exact rfl) (by exact rfl)) ?_; (try simp only [nA, Nat.reduceBEq, Nat.reduceEqDiff, ↓reduceIte, Nat.reduceAdd, Nat.reduceSub])
  refine awP (op_move rfl rfl) ?_; (simp only [nA])
  refine awP (op_extract rfl rfl rfl) ?_; (try simp only [nA, Nat.reduceBEq, Nat.reduceEqDiff, ↓reduceIte, Nat.reduceAdd, Nat.reduceSub])
  refine awP (op_extract rfl rfl rfl) ?_; (try simp only [nA, Nat.reduceBEq, Nat.reduceEqDiff, ↓reduceIte, Nat.reduceAdd, Nat.reduceSub])
  refine awP (op_assign rfl rfl) ?_; (simp only [nA, ↓reduceIte])
  refine awP (op_assign rfl rfl) ?_; (simp only [nA, ↓reduceIte])
  refine AWL.nil ?_
  (refine hK _ ?_; clear hK K; (skip))
  (refine AW.seq_k ?_; intro K hK)
  refine AW.region ?_
  refine awP (op_move rfl rfl) ?_; (simp only [nA, ↓reduceIte])
  refine awR (op_b2sR (l := (takE (numE s).1 (numE s).2).1.1) rfl rfl Tryz.underlying22 Tryz.underlying5 Tryz.underlying9 rfl) ?_; (try simp only [nA, Nat.reduceBEq, Nat.reduceEqDiff, ↓reduceIte, Nat.reduceAdd, Nat.reduceSub])
  refine awP (op_assign rfl rfl) ?_; (simp only [nA])
  refine AWL.nil ?_
  (refine hK _ ?_; clear hK K; (skip))
  skip
  refine AW.ret ?_; (try simp only [thenE, inBlk, Nat.reduceEqDiff, ↓reduceIte]); rw [wdE_eq]; exact RQ.of (.inl rfl) rfl (.tmp (bl rfl) rfl rfl .nil) (by simp) rfl (one_out rfl)
end Go.Proofs.YtfmnaigedgmhoaaGreatDoor
namespace Go.Proofs.YtfmnaigedgmhoaaGreatDoor
open Go.RowKit
set_option linter.unusedSimpArgs false
set_option linter.unusedVariables false
set_option maxRecDepth 100000
theorem len1 {s : RS} (hl : s.b.length ≤ 1000000) : (numE s).2.b.length ≤ 1000000 := Nat.le_trans (numE_len s) hl
theorem len2 {s : RS} (hl : s.b.length ≤ 1000000) : (wdE s).2.b.length ≤ 1000000 := Nat.le_trans (wdE_len s) hl
theorem len3 {s : RS} (hl : s.b.length ≤ 1000000) : (trE s).2.b.length ≤ 1000000 := Nat.le_trans (trE_len s) hl
set_option maxHeartbeats 8000000 in
theorem C64 {x : Ev} {rs os : AV} {s : RS} (hl : s.b.length ≤ 1000000) : Fn Tryz.prog 64 [.own 73 [rdC x rs os s]] [.ptr 0 0 0 0] [.agg (plM rE s).1.av] [.own 73 [rdC x rs os (plM rE s).2]] := by
  refine Spec.body Tryz.func64 rfl Tryz.ntmps64 (by simp) rfl ?_; intro S0 own0 v0 w0 gl
  (refine AW.seq_k ?_; intro K hK)
  refine AW.region ?_
  refine awJ (op_alloc rfl ze30 rfl) ?_; (simp only [nA, Nat.reduceBEq, Nat.reduceEqDiff, ↓reduceIte])
  refine AWL.nil ?_
  (refine hK _ ?_; clear hK K; (try simp only [nA, Nat.reduceBEq, Nat.reduceEqDiff, ↓reduceIte, Nat.reduceAdd, Nat.reduceSub]))
  (refine AW.seq_k ?_; intro K hK)
  refine AW.region ?_
  refine awP (op_move rfl rfl) ?_; (simp only [nA, ↓reduceIte])
  refine awJ (op_call1 rfl en62 (C62 (x := x) (rs := rs) (os := os) (s := s) hl) (by exact rfl) (RL.cons .ptr (RL.nil)) (by exact ⟨_, _, _, rfl, rfl, rfl⟩) (by exact rfl) (by exact rfl) (by exact rfl)) ?_; (try simp only [nA, Nat.reduceBEq, Nat.reduceEqDiff, ↓reduceIte, Nat.reduceAdd, Nat.reduceSub])
  refine awP (op_move rfl rfl) ?_; (simp only [nA, ↓reduceIte])
  refine awJ (op_call1 rfl en62 (C62 (x := x) (rs := rs) (os := os) (s := (numE s).2) (len1 hl)) (by exact rfl) (RL.cons .ptr (RL.nil)) (by exact ⟨_, _, _, rfl, rfl, rfl⟩) (by exact rfl) (by exact rfl) (by exact rfl)) ?_; (try simp only [nA, Nat.reduceBEq, Nat.reduceEqDiff, ↓reduceIte, Nat.reduceAdd, Nat.reduceSub])
  refine awP (op_move rfl rfl) ?_; (simp only [nA, ↓reduceIte])
  refine awJ (op_call1 rfl en62 (C62 (x := x) (rs := rs) (os := os) (s := (numE (numE s).2).2) (len1 (len1 hl))) (by exact rfl) (RL.cons .ptr (RL.nil)) (by exact ⟨_, _, _, rfl, rfl, rfl⟩) (by exact rfl) (by exact rfl) (by exact rfl)) ?_; (try simp only [nA, Nat.reduceBEq, Nat.reduceEqDiff, ↓reduceIte, Nat.reduceAdd, Nat.reduceSub])
  refine awP (op_build2 (xs := [_, _, _]) rfl pl30 ze30 [(0, [_]), (1, [_]), (2, [_])] rfl rfl rfl) ?_; (simp only [nA, ↓reduceIte])
  refine awJ (op_store rfl rfl rfl rfl rfl rfl sz30 rfl (bl rfl) rfl) ?_; (simp only [nA, Nat.reduceBEq, Nat.reduceEqDiff, ↓reduceIte])
  refine AWL.nil ?_
  (refine hK _ ?_; clear hK K; (skip))
  skip
  refine AW.ret ?_; (try simp only [thenE, inBlk, Nat.reduceEqDiff, ↓reduceIte]); exact RQ.of (.inl rfl) rfl (.cell (bl rfl) rfl rfl rfl ag30 sz30 (bl rfl) rfl rfl .nil) (by simp) rfl (one_out rfl)
theorem plM_len {s : RS} (hl : s.b.length ≤ 1000000) : (plM rE s).2.b.length ≤ 1000000 := len1 (len1 (len1 hl))
set_option maxHeartbeats 8000000 in
theorem C66v {x : Ev} {rs os : AV} {s0 s1 s2 s3 s4 : RS} {a c : ByteArray} {b d : Int} (g0 : Fn Tryz.prog 63 [.own 73 [rdC x rs os s0]] [.ptr 0 0 0 0] [.v (.string a)] [.own 73 [rdC x rs os s1]]) (g1 : Fn Tryz.prog 62 [.own 73 [rdC x rs os s1]] [.ptr 0 0 0 0] [.v (.int .i64 b)] [.own 73 [rdC x rs os s2]])
    (g2 : Fn Tryz.prog 63 [.own 73 [rdC x rs os s2]] [.ptr 0 0 0 0] [.v (.string c)] [.own 73 [rdC x rs os s3]]) (g3 : Fn Tryz.prog 62 [.own 73 [rdC x rs os s3]] [.ptr 0 0 0 0] [.v (.int .i64 d)] [.own 73 [rdC x rs os s4]]) :
    Fn Tryz.prog 66 [.own 73 [rdC x rs os s0]] [.ptr 0 0 0 0] [.agg (⟨a, b, c, d⟩ : Flight).av] [.own 73 [rdC x rs os s4]] := by
  refine Spec.body Tryz.func66 rfl Tryz.ntmps66 (by simp) rfl ?_; intro S0 own0 v0 w0 gl
  (refine AW.seq_k ?_; intro K hK)
  refine AW.region ?_
  refine awJ (op_alloc rfl ze33 rfl) ?_; (simp only [nA, Nat.reduceBEq, Nat.reduceEqDiff, ↓reduceIte])
  refine AWL.nil ?_
  (refine hK _ ?_; clear hK K; (try simp only [nA, Nat.reduceBEq, Nat.reduceEqDiff, ↓reduceIte, Nat.reduceAdd, Nat.reduceSub]))
  (refine AW.seq_k ?_; intro K hK)
  refine AW.region ?_
  refine awP (op_move rfl rfl) ?_; (simp only [nA, ↓reduceIte])
  refine awJ (op_call1 rfl en63 g0 (by exact rfl) (RL.cons .ptr (RL.nil)) (by exact ⟨_, _, _, rfl, rfl, rfl⟩) (by exact rfl) (by exact rfl) (by exact rfl)) ?_; (try simp only [nA, Nat.reduceBEq, Nat.reduceEqDiff, ↓reduceIte, Nat.reduceAdd, Nat.reduceSub])
  refine awP (op_move rfl rfl) ?_; (simp only [nA, ↓reduceIte])
  refine awJ (op_call1 rfl en62 g1 (by exact rfl) (RL.cons .ptr (RL.nil)) (by exact ⟨_, _, _, rfl, rfl, rfl⟩) (by exact rfl) (by exact rfl) (by exact rfl)) ?_; (try simp only [nA, Nat.reduceBEq, Nat.reduceEqDiff, ↓reduceIte, Nat.reduceAdd, Nat.reduceSub])
  refine awP (op_move rfl rfl) ?_; (simp only [nA, ↓reduceIte])
  refine awJ (op_call1 rfl en63 g2 (by exact rfl) (RL.cons .ptr (RL.nil)) (by exact ⟨_, _, _, rfl, rfl, rfl⟩) (by exact rfl) (by exact rfl) (by exact rfl)) ?_; (try simp only [nA, Nat.reduceBEq, Nat.reduceEqDiff, ↓reduceIte, Nat.reduceAdd, Nat.reduceSub])
  refine awP (op_move rfl rfl) ?_; (simp only [nA, ↓reduceIte])
  refine awJ (op_call1 rfl en62 g3 (by exact rfl) (RL.cons .ptr (RL.nil)) (by exact ⟨_, _, _, rfl, rfl, rfl⟩) (by exact rfl) (by exact rfl) (by exact rfl)) ?_; (try simp only [nA, Nat.reduceBEq, Nat.reduceEqDiff, ↓reduceIte, Nat.reduceAdd, Nat.reduceSub])
  refine awP (op_build2 (xs := [_, _, _, _]) rfl pl33 ze33 [(0, [_]), (1, [_]), (2, [_]), (3, [_])] rfl rfl rfl) ?_; (simp only [nA, ↓reduceIte])
  refine awJ (op_store rfl rfl rfl rfl rfl rfl sz33 rfl (bl rfl) rfl) ?_; (simp only [nA, Nat.reduceBEq, Nat.reduceEqDiff, ↓reduceIte])
  refine AWL.nil ?_
  (refine hK _ ?_; clear hK K; (skip))
  skip
  refine AW.ret ?_; (try simp only [thenE, inBlk, Nat.reduceEqDiff, ↓reduceIte]); exact RQ.of (.inl rfl) rfl (.cell (bl rfl) rfl rfl rfl ag33 sz33 (bl rfl) rfl rfl .nil) (by simp) rfl (one_out rfl)
set_option maxHeartbeats 8000000 in
theorem C66 {x : Ev} {rs os : AV} {s : RS} (hl : s.b.length ≤ 1000000) : Fn Tryz.prog 66 [.own 73 [rdC x rs os s]] [.ptr 0 0 0 0] [.agg (flM rE s).1.av] [.own 73 [rdC x rs os (flM rE s).2]] :=
  C66v (C63 hl) (C62 (len2 hl)) (C63 (len1 (len2 hl))) (C62 (len2 (len1 (len2 hl))))
set_option maxHeartbeats 8000000 in
theorem C67v {x : Ev} {rs os : AV} {s0 s1 s2 s3 s4 s5 s6 s7 s8 : RS} {a b c d e w k : Int} {p : Plate} (g0 : Fn Tryz.prog 62 [.own 73 [rdC x rs os s0]] [.ptr 0 0 0 0] [.v (.int .i64 a)] [.own 73 [rdC x rs os s1]]) (g1 : Fn Tryz.prog 62 [.own 73 [rdC x rs os s1]] [.ptr 0 0 0 0] [.v (.int .i64 b)] [.own 73 [rdC x rs os s2]])
    (g2 : Fn Tryz.prog 62 [.own 73 [rdC x rs os s2]] [.ptr 0 0 0 0] [.v (.int .i64 c)] [.own 73 [rdC x rs os s3]]) (g3 : Fn Tryz.prog 62 [.own 73 [rdC x rs os s3]] [.ptr 0 0 0 0] [.v (.int .i64 d)] [.own 73 [rdC x rs os s4]]) (g4 : Fn Tryz.prog 62 [.own 73 [rdC x rs os s4]] [.ptr 0 0 0 0] [.v (.int .i64 e)] [.own 73 [rdC x rs os s5]])
    (g5 : Fn Tryz.prog 64 [.own 73 [rdC x rs os s5]] [.ptr 0 0 0 0] [.agg p.av] [.own 73 [rdC x rs os s6]]) (g6 : Fn Tryz.prog 62 [.own 73 [rdC x rs os s6]] [.ptr 0 0 0 0] [.v (.int .i64 w)] [.own 73 [rdC x rs os s7]]) (g7 : Fn Tryz.prog 62 [.own 73 [rdC x rs os s7]] [.ptr 0 0 0 0] [.v (.int .i64 k)] [.own 73 [rdC x rs os s8]]) :
    Fn Tryz.prog 67 [.own 73 [rdC x rs os s0]] [.ptr 0 0 0 0] [.agg (⟨a, b, c, d, e, ⟨p, w, k⟩⟩ : Op).av] [.own 73 [rdC x rs os s8]] := by
  refine Spec.body Tryz.func67 rfl Tryz.ntmps67 (by simp) rfl ?_; intro S0 own0 v0 w0 gl
  (refine AW.seq_k ?_; intro K hK)
  refine AW.region ?_
  refine awJ (op_alloc rfl ze39 rfl) ?_; (simp only [nA, Nat.reduceBEq, Nat.reduceEqDiff, ↓reduceIte])
  refine AWL.nil ?_
  (refine hK _ ?_; clear hK K; (try simp only [nA, Nat.reduceBEq, Nat.reduceEqDiff, ↓reduceIte, Nat.reduceAdd, Nat.reduceSub]))
  (refine AW.seq_k ?_; intro K hK)
  refine AW.region ?_
  refine awP (op_move rfl rfl) ?_; (simp only [nA, ↓reduceIte])
  refine awJ (op_call1 rfl en62 g0 (by exact rfl) (RL.cons .ptr (RL.nil)) (by exact ⟨_, _, _, rfl, rfl, rfl⟩) (by exact rfl) (by exact rfl) (by exact rfl)) ?_; (try simp only [nA, Nat.reduceBEq, Nat.reduceEqDiff, ↓reduceIte, Nat.reduceAdd, Nat.reduceSub])
  refine awP (op_move rfl rfl) ?_; (simp only [nA, ↓reduceIte])
  refine awJ (op_call1 rfl en62 g1 (by exact rfl) (RL.cons .ptr (RL.nil)) (by exact ⟨_, _, _, rfl, rfl, rfl⟩) (by exact rfl) (by exact rfl) (by exact rfl)) ?_; (try simp only [nA, Nat.reduceBEq, Nat.reduceEqDiff, ↓reduceIte, Nat.reduceAdd, Nat.reduceSub])
  refine awP (op_move rfl rfl) ?_; (simp only [nA, ↓reduceIte])
  refine awJ (op_call1 rfl en62 g2 (by exact rfl) (RL.cons .ptr (RL.nil)) (by exact ⟨_, _, _, rfl, rfl, rfl⟩) (by exact rfl) (by exact rfl) (by exact rfl)) ?_; (try simp only [nA, Nat.reduceBEq, Nat.reduceEqDiff, ↓reduceIte, Nat.reduceAdd, Nat.reduceSub])
  refine awP (op_move rfl rfl) ?_; (simp only [nA, ↓reduceIte])
  refine awJ (op_call1 rfl en62 g3 (by exact rfl) (RL.cons .ptr (RL.nil)) (by exact ⟨_, _, _, rfl, rfl, rfl⟩) (by exact rfl) (by exact rfl) (by exact rfl)) ?_; (try simp only [nA, Nat.reduceBEq, Nat.reduceEqDiff, ↓reduceIte, Nat.reduceAdd, Nat.reduceSub])
  refine awP (op_move rfl rfl) ?_; (simp only [nA, ↓reduceIte])
  refine awJ (op_call1 rfl en62 g4 (by exact rfl) (RL.cons .ptr (RL.nil)) (by exact ⟨_, _, _, rfl, rfl, rfl⟩) (by exact rfl) (by exact rfl) (by exact rfl)) ?_; (try simp only [nA, Nat.reduceBEq, Nat.reduceEqDiff, ↓reduceIte, Nat.reduceAdd, Nat.reduceSub])
  refine awP (op_build2 (xs := [_, _, _, _, _, .v (.int .i64 0), .v (.int .i64 0), .v (.int .i64 0), .v (.int .i64 0), .v (.int .i64 0)]) rfl pl39 ze39 [(0, [_]), (1, [_]), (2, [_]), (3, [_]), (4, [_])] rfl rfl rfl) ?_; (simp only [nA, ↓reduceIte])
  refine awJ (op_alloc rfl ze39 rfl) ?_; (simp only [nA, Nat.reduceBEq, Nat.reduceEqDiff, ↓reduceIte])
  refine awJ (op_store rfl rfl rfl rfl rfl rfl sz39 rfl (bl rfl) rfl) ?_; (simp only [nA, Nat.reduceBEq, Nat.reduceEqDiff, ↓reduceIte])
  refine AWL.nil ?_
  (refine hK _ ?_; clear hK K; (skip))
  (refine AW.seq_k ?_; intro K hK)
  refine AW.region ?_
  refine awP (op_move rfl rfl) ?_; (simp only [nA, ↓reduceIte])
  refine awJ (op_call1 rfl en64 g5 (by exact rfl) (RL.cons .ptr (RL.nil)) (by exact ⟨_, _, _, rfl, rfl, rfl⟩) (by exact rfl) (by exact rfl) (by exact rfl)) ?_; (try simp only [nA, Nat.reduceBEq, Nat.reduceEqDiff, ↓reduceIte, Nat.reduceAdd, Nat.reduceSub])
  refine awP (op_move rfl rfl) ?_; (simp only [nA, ↓reduceIte])
  refine awJ (op_call1 rfl en62 g6 (by exact rfl) (RL.cons .ptr (RL.nil)) (by exact ⟨_, _, _, rfl, rfl, rfl⟩) (by exact rfl) (by exact rfl) (by exact rfl)) ?_; (try simp only [nA, Nat.reduceBEq, Nat.reduceEqDiff, ↓reduceIte, Nat.reduceAdd, Nat.reduceSub])
  refine awP (op_move rfl rfl) ?_; (simp only [nA, ↓reduceIte])
  refine awJ (op_call1 rfl en62 g7 (by exact rfl) (RL.cons .ptr (RL.nil)) (by exact ⟨_, _, _, rfl, rfl, rfl⟩) (by exact rfl) (by exact rfl) (by exact rfl)) ?_; (try simp only [nA, Nat.reduceBEq, Nat.reduceEqDiff, ↓reduceIte, Nat.reduceAdd, Nat.reduceSub])
  refine awP (op_build2 (xs := [_, _, _, _, _]) rfl pl37 ze37 [(0, [_, _, _]), (1, [_]), (2, [_])] rfl rfl rfl) ?_; (simp only [nA, ↓reduceIte])
  (refine awP (op_fa_ptr rfl rfl rfl fl39_5 (by exact sz37) (by decide) rfl) ?_); (try simp only [nA, Nat.reduceBEq, Nat.reduceEqDiff, ↓reduceIte, Nat.reduceAdd, Nat.reduceSub])
  refine awJ (op_store rfl rfl rfl rfl rfl rfl sz37 rfl (bl rfl) rfl) ?_; (try simp only [nA, Nat.reduceBEq, Nat.reduceEqDiff, ↓reduceIte, Nat.reduceAdd, Nat.reduceSub])
  refine AWL.nil ?_
  (refine hK _ ?_; clear hK K; (skip))
  (refine AW.seq_k ?_; intro K hK)
  refine AW.region ?_
  (refine awR (op_load_ptr rfl rfl rfl rfl ag39 sz39 (bl rfl) rfl) ?_); (try simp only [nA, Nat.reduceBEq, Nat.reduceEqDiff, ↓reduceIte, Nat.reduceAdd, Nat.reduceSub])
  refine awJ (op_store rfl rfl rfl rfl rfl rfl sz39 rfl (bl rfl) rfl) ?_; (simp only [nA, Nat.reduceBEq, Nat.reduceEqDiff, ↓reduceIte])
  refine AWL.nil ?_
  (refine hK _ ?_; clear hK K; (skip))
  skip
  refine AW.ret ?_; (try simp only [thenE, inBlk, Nat.reduceEqDiff, ↓reduceIte]); exact RQ.of (.inl rfl) rfl (.cell (bl rfl) rfl rfl rfl ag39 sz39 (bl rfl) rfl rfl .nil) (by simp) rfl (one_out rfl)
set_option maxHeartbeats 8000000 in
theorem C67 {x : Ev} {rs os : AV} {s : RS} (hl : s.b.length ≤ 1000000) : Fn Tryz.prog 67 [.own 73 [rdC x rs os s]] [.ptr 0 0 0 0] [.agg (opM rE s).1.av] [.own 73 [rdC x rs os (opM rE s).2]] :=
  C67v (C62 hl) (C62 (len1 hl)) (C62 (len1 (len1 hl))) (C62 (len1 (len1 (len1 hl)))) (C62 (len1 (len1 (len1 (len1 hl))))) (C64 (len1 (len1 (len1 (len1 (len1 hl)))))) (C62 (plM_len (len1 (len1 (len1 (len1 (len1 hl))))))) (C62 (len1 (plM_len (len1 (len1 (len1 (len1 (len1 hl))))))))
end Go.Proofs.YtfmnaigedgmhoaaGreatDoor
