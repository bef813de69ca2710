import Derived.Test.YtngfknoddphhaaaAb22
namespace Go.Proofs.Ytngfknoddphhaaa
open Go.RowKit
set_option linter.unusedSimpArgs false
set_option linter.unusedVariables false

section
variable {C : Cx} {o : Oper} {ev : Operand → AV} {T : Sl} {t yt : TypeId} {p q : Operand} {k k' : IntKind} {x y z : Int}
theorem op_shr (ho : o.op = .binOp .shr t p q yt) (hp : ev p = .v (.int k x)) (hq : ev q = .v (.int k' y)) (h0 : 0 ≤ y) (hz : x.fdiv (2 ^ (min y.toNat k.bits)) = z) : OpP C o ev T (.v (.int k z)) :=
  op_bin ho hp hq (fun w => by unfold eqGuard; simp) (fun w => by simp [binOp, Op.shift, hz, show ¬ y < 0 by omega]) rfl
theorem op_and (ho : o.op = .binOp .and t p q yt) (hp : ev p = .v (.int k x)) (hq : ev q = .v (.int k y)) (hz : k.wrap ((BitVec.ofInt k.bits x &&& BitVec.ofInt k.bits y).toNat) = z) : OpP C o ev T (.v (.int k z)) :=
  op_bin ho hp hq (eqGuard_int _ _ _ _ _ _ _) (fun w => by simp only [binOp, Op.intBits, hz, ne_eq, not_true_eq_false, if_false]; rfl) rfl
end
end Go.Proofs.Ytngfknoddphhaaa
