import Derived.Test.YtngfknoddphhaaaAb27
namespace Go.Proofs.Ytngfknoddphhaaa
open Go.RowKit
set_option linter.unusedSimpArgs false
set_option linter.unusedVariables false

def notOwn : AV → Bool
  | .own _ _ => false
  | _ => true
theorem unp_id : ∀ (ys : List AV) (T : Sl), ys.all notOwn = true → unp ys T = (ys, T)
  | [], T, _ => rfl
  | y :: ys, T, h => by
    rw [List.all_cons, Bool.and_eq_true] at h
    have e : unp (y :: ys) T = (y :: (unp ys T).1, (unp ys T).2) := by
      cases y <;> first | rfl | cases h.1
    rw [e, unp_id ys T h.2]
/-- A call that leaves the slots as they are. -/
theorem op_callS {C : Cx} {o : Oper} {ev : Operand → AV} {T : Sl} {f : FuncId} {args : Array Operand} {ts : Array TypeId} {xs ys : List AV} (ho : o.op = .call { callee := .value (.func f), args := args, argTypes := ts }) (hf : Enters C.P f) (hsp : Fn C.P f [] xs ys []) (hv : RL (View T false) (args.toList.map ev) xs)
    (hn : ys.all nrefA = true) (hno : ys.all notOwn = true) {x : AV} (hx : packR ys = x) : OpJ C o ev T x T :=
  op_call (b := false) ho hf hsp hv hn (fun h => by cases h) (by rw [unp_id ys T hno]; exact hx) (by rw [unp_id ys T hno])
end Go.Proofs.Ytngfknoddphhaaa
