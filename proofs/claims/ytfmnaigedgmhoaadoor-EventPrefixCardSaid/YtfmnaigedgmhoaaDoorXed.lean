import Derived.Test.YtfmnaigedgmhoaaDoorXec
import Derived.Lib.AppendStr
namespace Go.Proofs.YtfmnaigedgmhoaaDoor
open Go.RowKit
set_option linter.unusedSimpArgs false
set_option linter.unusedVariables false
set_option maxRecDepth 100000
theorem C73v {x : Ev} {rs os : AV} {s0 s1 : RS} {n : Int} (g0 : Fn Tryd.prog 99 [.own 94 [rdC x rs os s0]] [.ptr 0 0 0 0] [.v (.int .i64 n)] [.own 94 [rdC x rs os s1]]) : Fn Tryd.prog 73 [.own 94 [rdC x rs os s0]] [.ptr 0 0 0 0] [] [.own 94 [rdC { x with time := n } rs os s1]] := by
  refine Spec.body Tryd.func73 rfl Tryd.ntmps73 (by simp) rfl ?_; intro S0 own0 v0 w0 gl
  refine AW.region ?_
  refine awP (op_move rfl rfl) ?_; (try simp only [nA, Nat.reduceBEq, Nat.reduceEqDiff, ↓reduceIte, Nat.reduceAdd, Nat.reduceSub])
  refine awP (op_move rfl rfl) ?_; (try simp only [nA, Nat.reduceBEq, Nat.reduceEqDiff, ↓reduceIte, Nat.reduceAdd, Nat.reduceSub])
  refine awJ (op_call1 rfl en99 g0 (by exact rfl) (RL.cons .ptr (RL.nil)) (by exact ⟨_, _, _, rfl, rfl, rfl⟩) (by exact rfl) (by exact rfl) (by exact rfl)) ?_; (try simp only [nA, Nat.reduceBEq, Nat.reduceEqDiff, ↓reduceIte, Nat.reduceAdd, Nat.reduceSub])
  (first | refine awP (op_nil_slot rfl rfl rfl) ?_ | refine awP (op_nil_ptr rfl rfl) ?_); (try simp only [nA, Nat.reduceBEq, Nat.reduceEqDiff, ↓reduceIte, Nat.reduceAdd, Nat.reduceSub])
  (first | refine awP (op_fa_ptr rfl rfl rfl fl94_1 (by exact sz35) (by decide) rfl) ?_ | refine awP (op_fa_rop rfl rfl fl94_1 (by exact sz35) (by decide) (Nat.le_of_ble_eq_true rfl) rfl) ?_); (try simp only [nA, Nat.reduceBEq, Nat.reduceEqDiff, ↓reduceIte, Nat.reduceAdd, Nat.reduceSub])
  (first | refine awP (op_fa_ptr rfl rfl rfl fl35_1 (by exact sz3) (by decide) rfl) ?_ | refine awP (op_fa_rop rfl rfl fl35_1 (by exact sz3) (by decide) (Nat.le_of_ble_eq_true rfl) rfl) ?_); (try simp only [nA, Nat.reduceBEq, Nat.reduceEqDiff, ↓reduceIte, Nat.reduceAdd, Nat.reduceSub])
  refine awJ (op_store rfl rfl rfl rfl rfl rfl sz3 rfl (Nat.le_of_ble_eq_true rfl) rfl) ?_; (try simp only [nA, Nat.reduceBEq, Nat.reduceEqDiff, ↓reduceIte, Nat.reduceAdd, Nat.reduceSub])
  refine AWL.nil ?_
  -- END
  exact RQ.of (.inr rfl) rfl .nil (by simp) rfl (one_out rfl)
theorem C74v {x : Ev} {rs os : AV} {s0 s1 : RS} {n : ByteArray} (g0 : Fn Tryd.prog 100 [.own 94 [rdC x rs os s0]] [.ptr 0 0 0 0] [.v (.string n)] [.own 94 [rdC x rs os s1]]) : Fn Tryd.prog 74 [.own 94 [rdC x rs os s0]] [.ptr 0 0 0 0] [] [.own 94 [rdC { x with text := n } rs os s1]] := by
  refine Spec.body Tryd.func74 rfl Tryd.ntmps74 (by simp) rfl ?_; intro S0 own0 v0 w0 gl
  refine AW.region ?_
  refine awP (op_move rfl rfl) ?_; (try simp only [nA, Nat.reduceBEq, Nat.reduceEqDiff, ↓reduceIte, Nat.reduceAdd, Nat.reduceSub])
  refine awP (op_move rfl rfl) ?_; (try simp only [nA, Nat.reduceBEq, Nat.reduceEqDiff, ↓reduceIte, Nat.reduceAdd, Nat.reduceSub])
  refine awJ (op_call1 rfl en100 g0 (by exact rfl) (RL.cons .ptr (RL.nil)) (by exact ⟨_, _, _, rfl, rfl, rfl⟩) (by exact rfl) (by exact rfl) (by exact rfl)) ?_; (try simp only [nA, Nat.reduceBEq, Nat.reduceEqDiff, ↓reduceIte, Nat.reduceAdd, Nat.reduceSub])
  (first | refine awP (op_nil_slot rfl rfl rfl) ?_ | refine awP (op_nil_ptr rfl rfl) ?_); (try simp only [nA, Nat.reduceBEq, Nat.reduceEqDiff, ↓reduceIte, Nat.reduceAdd, Nat.reduceSub])
  (first | refine awP (op_fa_ptr rfl rfl rfl fl94_1 (by exact sz35) (by decide) rfl) ?_ | refine awP (op_fa_rop rfl rfl fl94_1 (by exact sz35) (by decide) (Nat.le_of_ble_eq_true rfl) rfl) ?_); (try simp only [nA, Nat.reduceBEq, Nat.reduceEqDiff, ↓reduceIte, Nat.reduceAdd, Nat.reduceSub])
  (first | refine awP (op_fa_ptr rfl rfl rfl fl35_2 (by exact sz9) (by decide) rfl) ?_ | refine awP (op_fa_rop rfl rfl fl35_2 (by exact sz9) (by decide) (Nat.le_of_ble_eq_true rfl) rfl) ?_); (try simp only [nA, Nat.reduceBEq, Nat.reduceEqDiff, ↓reduceIte, Nat.reduceAdd, Nat.reduceSub])
  refine awJ (op_store rfl rfl rfl rfl rfl rfl sz9 rfl (Nat.le_of_ble_eq_true rfl) rfl) ?_; (try simp only [nA, Nat.reduceBEq, Nat.reduceEqDiff, ↓reduceIte, Nat.reduceAdd, Nat.reduceSub])
  refine AWL.nil ?_
  -- END
  exact RQ.of (.inr rfl) rfl .nil (by simp) rfl (one_out rfl)
theorem C75v {x : Ev} {rs os : AV} {s0 s1 : RS} {n : Plate} (g0 : Fn Tryd.prog 101 [.own 94 [rdC x rs os s0]] [.ptr 0 0 0 0] [.agg n.av] [.own 94 [rdC x rs os s1]]) : Fn Tryd.prog 75 [.own 94 [rdC x rs os s0]] [.ptr 0 0 0 0] [] [.own 94 [rdC { x with plate := n } rs os s1]] := by
  refine Spec.body Tryd.func75 rfl Tryd.ntmps75 (by simp) rfl ?_; intro S0 own0 v0 w0 gl
  refine AW.region ?_
  refine awP (op_move rfl rfl) ?_; (try simp only [nA, Nat.reduceBEq, Nat.reduceEqDiff, ↓reduceIte, Nat.reduceAdd, Nat.reduceSub])
  refine awP (op_move rfl rfl) ?_; (try simp only [nA, Nat.reduceBEq, Nat.reduceEqDiff, ↓reduceIte, Nat.reduceAdd, Nat.reduceSub])
  refine awJ (op_call1 rfl en101 g0 (by exact rfl) (RL.cons .ptr (RL.nil)) (by exact ⟨_, _, _, rfl, rfl, rfl⟩) (by exact rfl) (by exact rfl) (by exact rfl)) ?_; (try simp only [nA, Nat.reduceBEq, Nat.reduceEqDiff, ↓reduceIte, Nat.reduceAdd, Nat.reduceSub])
  (first | refine awP (op_nil_slot rfl rfl rfl) ?_ | refine awP (op_nil_ptr rfl rfl) ?_); (try simp only [nA, Nat.reduceBEq, Nat.reduceEqDiff, ↓reduceIte, Nat.reduceAdd, Nat.reduceSub])
  (first | refine awP (op_fa_ptr rfl rfl rfl fl94_1 (by exact sz35) (by decide) rfl) ?_ | refine awP (op_fa_rop rfl rfl fl94_1 (by exact sz35) (by decide) (Nat.le_of_ble_eq_true rfl) rfl) ?_); (try simp only [nA, Nat.reduceBEq, Nat.reduceEqDiff, ↓reduceIte, Nat.reduceAdd, Nat.reduceSub])
  (first | refine awP (op_fa_ptr rfl rfl rfl fl35_3 (by exact sz23) (by decide) rfl) ?_ | refine awP (op_fa_rop rfl rfl fl35_3 (by exact sz23) (by decide) (Nat.le_of_ble_eq_true rfl) rfl) ?_); (try simp only [nA, Nat.reduceBEq, Nat.reduceEqDiff, ↓reduceIte, Nat.reduceAdd, Nat.reduceSub])
  refine awJ (op_store rfl rfl rfl rfl rfl rfl sz23 rfl (Nat.le_of_ble_eq_true rfl) rfl) ?_; (try simp only [nA, Nat.reduceBEq, Nat.reduceEqDiff, ↓reduceIte, Nat.reduceAdd, Nat.reduceSub])
  refine AWL.nil ?_
  -- END
  exact RQ.of (.inr rfl) rfl .nil (by simp) rfl (one_out rfl)
theorem C76v {x : Ev} {rs os : AV} {s0 s1 : RS} {n : Int} (g0 : Fn Tryd.prog 99 [.own 94 [rdC x rs os s0]] [.ptr 0 0 0 0] [.v (.int .i64 n)] [.own 94 [rdC x rs os s1]]) : Fn Tryd.prog 76 [.own 94 [rdC x rs os s0]] [.ptr 0 0 0 0] [] [.own 94 [rdC { x with node := n } rs os s1]] := by
  refine Spec.body Tryd.func76 rfl Tryd.ntmps76 (by simp) rfl ?_; intro S0 own0 v0 w0 gl
  refine AW.region ?_
  refine awP (op_move rfl rfl) ?_; (try simp only [nA, Nat.reduceBEq, Nat.reduceEqDiff, ↓reduceIte, Nat.reduceAdd, Nat.reduceSub])
  refine awP (op_move rfl rfl) ?_; (try simp only [nA, Nat.reduceBEq, Nat.reduceEqDiff, ↓reduceIte, Nat.reduceAdd, Nat.reduceSub])
  refine awJ (op_call1 rfl en99 g0 (by exact rfl) (RL.cons .ptr (RL.nil)) (by exact ⟨_, _, _, rfl, rfl, rfl⟩) (by exact rfl) (by exact rfl) (by exact rfl)) ?_; (try simp only [nA, Nat.reduceBEq, Nat.reduceEqDiff, ↓reduceIte, Nat.reduceAdd, Nat.reduceSub])
  (first | refine awP (op_nil_slot rfl rfl rfl) ?_ | refine awP (op_nil_ptr rfl rfl) ?_); (try simp only [nA, Nat.reduceBEq, Nat.reduceEqDiff, ↓reduceIte, Nat.reduceAdd, Nat.reduceSub])
  (first | refine awP (op_fa_ptr rfl rfl rfl fl94_1 (by exact sz35) (by decide) rfl) ?_ | refine awP (op_fa_rop rfl rfl fl94_1 (by exact sz35) (by decide) (Nat.le_of_ble_eq_true rfl) rfl) ?_); (try simp only [nA, Nat.reduceBEq, Nat.reduceEqDiff, ↓reduceIte, Nat.reduceAdd, Nat.reduceSub])
  (first | refine awP (op_fa_ptr rfl rfl rfl fl35_4 (by exact sz3) (by decide) rfl) ?_ | refine awP (op_fa_rop rfl rfl fl35_4 (by exact sz3) (by decide) (Nat.le_of_ble_eq_true rfl) rfl) ?_); (try simp only [nA, Nat.reduceBEq, Nat.reduceEqDiff, ↓reduceIte, Nat.reduceAdd, Nat.reduceSub])
  refine awJ (op_store rfl rfl rfl rfl rfl rfl sz3 rfl (Nat.le_of_ble_eq_true rfl) rfl) ?_; (try simp only [nA, Nat.reduceBEq, Nat.reduceEqDiff, ↓reduceIte, Nat.reduceAdd, Nat.reduceSub])
  refine AWL.nil ?_
  -- END
  exact RQ.of (.inr rfl) rfl .nil (by simp) rfl (one_out rfl)
theorem C77v {x : Ev} {rs os : AV} {s0 s1 : RS} {n : Int} (g0 : Fn Tryd.prog 99 [.own 94 [rdC x rs os s0]] [.ptr 0 0 0 0] [.v (.int .i64 n)] [.own 94 [rdC x rs os s1]]) : Fn Tryd.prog 77 [.own 94 [rdC x rs os s0]] [.ptr 0 0 0 0] [] [.own 94 [rdC { x with image := n } rs os s1]] := by
  refine Spec.body Tryd.func77 rfl Tryd.ntmps77 (by simp) rfl ?_; intro S0 own0 v0 w0 gl
  refine AW.region ?_
  refine awP (op_move rfl rfl) ?_; (try simp only [nA, Nat.reduceBEq, Nat.reduceEqDiff, ↓reduceIte, Nat.reduceAdd, Nat.reduceSub])
  refine awP (op_move rfl rfl) ?_; (try simp only [nA, Nat.reduceBEq, Nat.reduceEqDiff, ↓reduceIte, Nat.reduceAdd, Nat.reduceSub])
  refine awJ (op_call1 rfl en99 g0 (by exact rfl) (RL.cons .ptr (RL.nil)) (by exact ⟨_, _, _, rfl, rfl, rfl⟩) (by exact rfl) (by exact rfl) (by exact rfl)) ?_; (try simp only [nA, Nat.reduceBEq, Nat.reduceEqDiff, ↓reduceIte, Nat.reduceAdd, Nat.reduceSub])
  (first | refine awP (op_nil_slot rfl rfl rfl) ?_ | refine awP (op_nil_ptr rfl rfl) ?_); (try simp only [nA, Nat.reduceBEq, Nat.reduceEqDiff, ↓reduceIte, Nat.reduceAdd, Nat.reduceSub])
  (first | refine awP (op_fa_ptr rfl rfl rfl fl94_1 (by exact sz35) (by decide) rfl) ?_ | refine awP (op_fa_rop rfl rfl fl94_1 (by exact sz35) (by decide) (Nat.le_of_ble_eq_true rfl) rfl) ?_); (try simp only [nA, Nat.reduceBEq, Nat.reduceEqDiff, ↓reduceIte, Nat.reduceAdd, Nat.reduceSub])
  (first | refine awP (op_fa_ptr rfl rfl rfl fl35_5 (by exact sz3) (by decide) rfl) ?_ | refine awP (op_fa_rop rfl rfl fl35_5 (by exact sz3) (by decide) (Nat.le_of_ble_eq_true rfl) rfl) ?_); (try simp only [nA, Nat.reduceBEq, Nat.reduceEqDiff, ↓reduceIte, Nat.reduceAdd, Nat.reduceSub])
  refine awJ (op_store rfl rfl rfl rfl rfl rfl sz3 rfl (Nat.le_of_ble_eq_true rfl) rfl) ?_; (try simp only [nA, Nat.reduceBEq, Nat.reduceEqDiff, ↓reduceIte, Nat.reduceAdd, Nat.reduceSub])
  refine AWL.nil ?_
  -- END
  exact RQ.of (.inr rfl) rfl .nil (by simp) rfl (one_out rfl)
theorem C78v {x : Ev} {rs os : AV} {s0 s1 : RS} {n : Bool} (g0 : Fn Tryd.prog 102 [.own 94 [rdC x rs os s0]] [.ptr 0 0 0 0] [.v (.bool n)] [.own 94 [rdC x rs os s1]]) : Fn Tryd.prog 78 [.own 94 [rdC x rs os s0]] [.ptr 0 0 0 0] [] [.own 94 [rdC { x with clear := n } rs os s1]] := by
  refine Spec.body Tryd.func78 rfl Tryd.ntmps78 (by simp) rfl ?_; intro S0 own0 v0 w0 gl
  refine AW.region ?_
  refine awP (op_move rfl rfl) ?_; (try simp only [nA, Nat.reduceBEq, Nat.reduceEqDiff, ↓reduceIte, Nat.reduceAdd, Nat.reduceSub])
  refine awP (op_move rfl rfl) ?_; (try simp only [nA, Nat.reduceBEq, Nat.reduceEqDiff, ↓reduceIte, Nat.reduceAdd, Nat.reduceSub])
  refine awJ (op_call1 rfl en102 g0 (by exact rfl) (RL.cons .ptr (RL.nil)) (by exact ⟨_, _, _, rfl, rfl, rfl⟩) (by exact rfl) (by exact rfl) (by exact rfl)) ?_; (try simp only [nA, Nat.reduceBEq, Nat.reduceEqDiff, ↓reduceIte, Nat.reduceAdd, Nat.reduceSub])
  (first | refine awP (op_nil_slot rfl rfl rfl) ?_ | refine awP (op_nil_ptr rfl rfl) ?_); (try simp only [nA, Nat.reduceBEq, Nat.reduceEqDiff, ↓reduceIte, Nat.reduceAdd, Nat.reduceSub])
  (first | refine awP (op_fa_ptr rfl rfl rfl fl94_1 (by exact sz35) (by decide) rfl) ?_ | refine awP (op_fa_rop rfl rfl fl94_1 (by exact sz35) (by decide) (Nat.le_of_ble_eq_true rfl) rfl) ?_); (try simp only [nA, Nat.reduceBEq, Nat.reduceEqDiff, ↓reduceIte, Nat.reduceAdd, Nat.reduceSub])
  (first | refine awP (op_fa_ptr rfl rfl rfl fl35_6 (by exact sz4) (by decide) rfl) ?_ | refine awP (op_fa_rop rfl rfl fl35_6 (by exact sz4) (by decide) (Nat.le_of_ble_eq_true rfl) rfl) ?_); (try simp only [nA, Nat.reduceBEq, Nat.reduceEqDiff, ↓reduceIte, Nat.reduceAdd, Nat.reduceSub])
  refine awJ (op_store rfl rfl rfl rfl rfl rfl sz4 rfl (Nat.le_of_ble_eq_true rfl) rfl) ?_; (try simp only [nA, Nat.reduceBEq, Nat.reduceEqDiff, ↓reduceIte, Nat.reduceAdd, Nat.reduceSub])
  refine AWL.nil ?_
  -- END
  exact RQ.of (.inr rfl) rfl .nil (by simp) rfl (one_out rfl)
theorem C81v {x : Ev} {rs os : AV} {s0 s1 : RS} {n : Int} (g0 : Fn Tryd.prog 99 [.own 94 [rdC x rs os s0]] [.ptr 0 0 0 0] [.v (.int .i64 n)] [.own 94 [rdC x rs os s1]]) : Fn Tryd.prog 81 [.own 94 [rdC x rs os s0]] [.ptr 0 0 0 0] [] [.own 94 [rdC { x with device := n } rs os s1]] := by
  refine Spec.body Tryd.func81 rfl Tryd.ntmps81 (by simp) rfl ?_; intro S0 own0 v0 w0 gl
  refine AW.region ?_
  refine awP (op_move rfl rfl) ?_; (try simp only [nA, Nat.reduceBEq, Nat.reduceEqDiff, ↓reduceIte, Nat.reduceAdd, Nat.reduceSub])
  refine awP (op_move rfl rfl) ?_; (try simp only [nA, Nat.reduceBEq, Nat.reduceEqDiff, ↓reduceIte, Nat.reduceAdd, Nat.reduceSub])
  refine awJ (op_call1 rfl en99 g0 (by exact rfl) (RL.cons .ptr (RL.nil)) (by exact ⟨_, _, _, rfl, rfl, rfl⟩) (by exact rfl) (by exact rfl) (by exact rfl)) ?_; (try simp only [nA, Nat.reduceBEq, Nat.reduceEqDiff, ↓reduceIte, Nat.reduceAdd, Nat.reduceSub])
  (first | refine awP (op_nil_slot rfl rfl rfl) ?_ | refine awP (op_nil_ptr rfl rfl) ?_); (try simp only [nA, Nat.reduceBEq, Nat.reduceEqDiff, ↓reduceIte, Nat.reduceAdd, Nat.reduceSub])
  (first | refine awP (op_fa_ptr rfl rfl rfl fl94_1 (by exact sz35) (by decide) rfl) ?_ | refine awP (op_fa_rop rfl rfl fl94_1 (by exact sz35) (by decide) (Nat.le_of_ble_eq_true rfl) rfl) ?_); (try simp only [nA, Nat.reduceBEq, Nat.reduceEqDiff, ↓reduceIte, Nat.reduceAdd, Nat.reduceSub])
  (first | refine awP (op_fa_ptr rfl rfl rfl fl35_9 (by exact sz3) (by decide) rfl) ?_ | refine awP (op_fa_rop rfl rfl fl35_9 (by exact sz3) (by decide) (Nat.le_of_ble_eq_true rfl) rfl) ?_); (try simp only [nA, Nat.reduceBEq, Nat.reduceEqDiff, ↓reduceIte, Nat.reduceAdd, Nat.reduceSub])
  refine awJ (op_store rfl rfl rfl rfl rfl rfl sz3 rfl (Nat.le_of_ble_eq_true rfl) rfl) ?_; (try simp only [nA, Nat.reduceBEq, Nat.reduceEqDiff, ↓reduceIte, Nat.reduceAdd, Nat.reduceSub])
  refine AWL.nil ?_
  -- END
  exact RQ.of (.inr rfl) rfl .nil (by simp) rfl (one_out rfl)
theorem C82v {x : Ev} {rs os : AV} {s0 s1 : RS} {n : Op} (g0 : Fn Tryd.prog 104 [.own 94 [rdC x rs os s0]] [.ptr 0 0 0 0] [.agg n.av] [.own 94 [rdC x rs os s1]]) : Fn Tryd.prog 82 [.own 94 [rdC x rs os s0]] [.ptr 0 0 0 0] [] [.own 94 [rdC { x with op := n } rs os s1]] := by
  refine Spec.body Tryd.func82 rfl Tryd.ntmps82 (by simp) rfl ?_; intro S0 own0 v0 w0 gl
  refine AW.region ?_
  refine awP (op_move rfl rfl) ?_; (try simp only [nA, Nat.reduceBEq, Nat.reduceEqDiff, ↓reduceIte, Nat.reduceAdd, Nat.reduceSub])
  refine awP (op_move rfl rfl) ?_; (try simp only [nA, Nat.reduceBEq, Nat.reduceEqDiff, ↓reduceIte, Nat.reduceAdd, Nat.reduceSub])
  refine awJ (op_call1 rfl en104 g0 (by exact rfl) (RL.cons .ptr (RL.nil)) (by exact ⟨_, _, _, rfl, rfl, rfl⟩) (by exact rfl) (by exact rfl) (by exact rfl)) ?_; (try simp only [nA, Nat.reduceBEq, Nat.reduceEqDiff, ↓reduceIte, Nat.reduceAdd, Nat.reduceSub])
  (first | refine awP (op_nil_slot rfl rfl rfl) ?_ | refine awP (op_nil_ptr rfl rfl) ?_); (try simp only [nA, Nat.reduceBEq, Nat.reduceEqDiff, ↓reduceIte, Nat.reduceAdd, Nat.reduceSub])
  (first | refine awP (op_fa_ptr rfl rfl rfl fl94_1 (by exact sz35) (by decide) rfl) ?_ | refine awP (op_fa_rop rfl rfl fl94_1 (by exact sz35) (by decide) (Nat.le_of_ble_eq_true rfl) rfl) ?_); (try simp only [nA, Nat.reduceBEq, Nat.reduceEqDiff, ↓reduceIte, Nat.reduceAdd, Nat.reduceSub])
  (first | refine awP (op_fa_ptr rfl rfl rfl fl35_10 (by exact sz32) (by decide) rfl) ?_ | refine awP (op_fa_rop rfl rfl fl35_10 (by exact sz32) (by decide) (Nat.le_of_ble_eq_true rfl) rfl) ?_); (try simp only [nA, Nat.reduceBEq, Nat.reduceEqDiff, ↓reduceIte, Nat.reduceAdd, Nat.reduceSub])
  refine awJ (op_store rfl rfl rfl rfl rfl rfl sz32 rfl (Nat.le_of_ble_eq_true rfl) rfl) ?_; (try simp only [nA, Nat.reduceBEq, Nat.reduceEqDiff, ↓reduceIte, Nat.reduceAdd, Nat.reduceSub])
  refine AWL.nil ?_
  -- END
  exact RQ.of (.inr rfl) rfl .nil (by simp) rfl (one_out rfl)
theorem C84v {x : Ev} {rs os : AV} {s0 s1 : RS} {n : Flight} (g0 : Fn Tryd.prog 103 [.own 94 [rdC x rs os s0]] [.ptr 0 0 0 0] [.agg n.av] [.own 94 [rdC x rs os s1]]) : Fn Tryd.prog 84 [.own 94 [rdC x rs os s0]] [.ptr 0 0 0 0] [] [.own 94 [rdC { x with fl := n } rs os s1]] := by
  refine Spec.body Tryd.func84 rfl Tryd.ntmps84 (by simp) rfl ?_; intro S0 own0 v0 w0 gl
  refine AW.region ?_
  refine awP (op_move rfl rfl) ?_; (try simp only [nA, Nat.reduceBEq, Nat.reduceEqDiff, ↓reduceIte, Nat.reduceAdd, Nat.reduceSub])
  refine awP (op_move rfl rfl) ?_; (try simp only [nA, Nat.reduceBEq, Nat.reduceEqDiff, ↓reduceIte, Nat.reduceAdd, Nat.reduceSub])
  refine awJ (op_call1 rfl en103 g0 (by exact rfl) (RL.cons .ptr (RL.nil)) (by exact ⟨_, _, _, rfl, rfl, rfl⟩) (by exact rfl) (by exact rfl) (by exact rfl)) ?_; (try simp only [nA, Nat.reduceBEq, Nat.reduceEqDiff, ↓reduceIte, Nat.reduceAdd, Nat.reduceSub])
  (first | refine awP (op_nil_slot rfl rfl rfl) ?_ | refine awP (op_nil_ptr rfl rfl) ?_); (try simp only [nA, Nat.reduceBEq, Nat.reduceEqDiff, ↓reduceIte, Nat.reduceAdd, Nat.reduceSub])
  (first | refine awP (op_fa_ptr rfl rfl rfl fl94_1 (by exact sz35) (by decide) rfl) ?_ | refine awP (op_fa_rop rfl rfl fl94_1 (by exact sz35) (by decide) (Nat.le_of_ble_eq_true rfl) rfl) ?_); (try simp only [nA, Nat.reduceBEq, Nat.reduceEqDiff, ↓reduceIte, Nat.reduceAdd, Nat.reduceSub])
  (first | refine awP (op_fa_ptr rfl rfl rfl fl35_12 (by exact sz26) (by decide) rfl) ?_ | refine awP (op_fa_rop rfl rfl fl35_12 (by exact sz26) (by decide) (Nat.le_of_ble_eq_true rfl) rfl) ?_); (try simp only [nA, Nat.reduceBEq, Nat.reduceEqDiff, ↓reduceIte, Nat.reduceAdd, Nat.reduceSub])
  refine awJ (op_store rfl rfl rfl rfl rfl rfl sz26 rfl (Nat.le_of_ble_eq_true rfl) rfl) ?_; (try simp only [nA, Nat.reduceBEq, Nat.reduceEqDiff, ↓reduceIte, Nat.reduceAdd, Nat.reduceSub])
  refine AWL.nil ?_
  -- END
  exact RQ.of (.inr rfl) rfl .nil (by simp) rfl (one_out rfl)
theorem C80v {x : Ev} {rs os : AV} {s0 s1 s2 s3 : RS} {a b : Int} {f : Flight} (g0 : Fn Tryd.prog 99 [.own 94 [rdC x rs os s0]] [.ptr 0 0 0 0] [.v (.int .i64 a)] [.own 94 [rdC x rs os s1]]) (g1 : Fn Tryd.prog 99 [.own 94 [rdC x rs os s1]] [.ptr 0 0 0 0] [.v (.int .i64 b)] [.own 94 [rdC x rs os s2]]) (g2 : Fn Tryd.prog 103 [.own 94 [rdC x rs os s2]] [.ptr 0 0 0 0] [.agg f.av] [.own 94 [rdC x rs os s3]]) : Fn Tryd.prog 80 [.own 94 [rdC x rs os s0]] [.ptr 0 0 0 0] [] [.own 94 [rdC { x with rev := ⟨a, b, f⟩ } rs os s3]] := by
  refine Spec.body Tryd.func80 rfl Tryd.ntmps80 (by simp) rfl ?_; intro S0 own0 v0 w0 gl
  refine AW.region ?_
  refine awP (op_move rfl rfl) ?_; (try simp only [nA, Nat.reduceBEq, Nat.reduceEqDiff, ↓reduceIte, Nat.reduceAdd, Nat.reduceSub])
  refine awP (op_move rfl rfl) ?_; (try simp only [nA, Nat.reduceBEq, Nat.reduceEqDiff, ↓reduceIte, Nat.reduceAdd, Nat.reduceSub])
  refine awJ (op_call1 rfl en99 g0 (by exact rfl) (RL.cons .ptr (RL.nil)) (by exact ⟨_, _, _, rfl, rfl, rfl⟩) (by exact rfl) (by exact rfl) (by exact rfl)) ?_; (try simp only [nA, Nat.reduceBEq, Nat.reduceEqDiff, ↓reduceIte, Nat.reduceAdd, Nat.reduceSub])
  refine awP (op_move rfl rfl) ?_; (try simp only [nA, Nat.reduceBEq, Nat.reduceEqDiff, ↓reduceIte, Nat.reduceAdd, Nat.reduceSub])
  refine awJ (op_call1 rfl en99 g1 (by exact rfl) (RL.cons .ptr (RL.nil)) (by exact ⟨_, _, _, rfl, rfl, rfl⟩) (by exact rfl) (by exact rfl) (by exact rfl)) ?_; (try simp only [nA, Nat.reduceBEq, Nat.reduceEqDiff, ↓reduceIte, Nat.reduceAdd, Nat.reduceSub])
  refine awP (op_move rfl rfl) ?_; (try simp only [nA, Nat.reduceBEq, Nat.reduceEqDiff, ↓reduceIte, Nat.reduceAdd, Nat.reduceSub])
  refine awJ (op_call1 rfl en103 g2 (by exact rfl) (RL.cons .ptr (RL.nil)) (by exact ⟨_, _, _, rfl, rfl, rfl⟩) (by exact rfl) (by exact rfl) (by exact rfl)) ?_; (try simp only [nA, Nat.reduceBEq, Nat.reduceEqDiff, ↓reduceIte, Nat.reduceAdd, Nat.reduceSub])
  refine awP (op_build2 (xs := [_, _, _, _, _, _]) rfl pl28 ze28 [(0, [_]), (1, [_]), (2, [_, _, _, _])] rfl rfl rfl) ?_; (try simp only [nA, Nat.reduceBEq, Nat.reduceEqDiff, ↓reduceIte, Nat.reduceAdd, Nat.reduceSub])
  (first | refine awP (op_nil_slot rfl rfl rfl) ?_ | refine awP (op_nil_ptr rfl rfl) ?_); (try simp only [nA, Nat.reduceBEq, Nat.reduceEqDiff, ↓reduceIte, Nat.reduceAdd, Nat.reduceSub])
  (first | refine awP (op_fa_ptr rfl rfl rfl fl94_1 (by exact sz35) (by decide) rfl) ?_ | refine awP (op_fa_rop rfl rfl fl94_1 (by exact sz35) (by decide) (Nat.le_of_ble_eq_true rfl) rfl) ?_); (try simp only [nA, Nat.reduceBEq, Nat.reduceEqDiff, ↓reduceIte, Nat.reduceAdd, Nat.reduceSub])
  (first | refine awP (op_fa_ptr rfl rfl rfl fl35_8 (by exact sz28) (by decide) rfl) ?_ | refine awP (op_fa_rop rfl rfl fl35_8 (by exact sz28) (by decide) (Nat.le_of_ble_eq_true rfl) rfl) ?_); (try simp only [nA, Nat.reduceBEq, Nat.reduceEqDiff, ↓reduceIte, Nat.reduceAdd, Nat.reduceSub])
  refine awJ (op_store rfl rfl rfl rfl rfl rfl sz28 rfl (Nat.le_of_ble_eq_true rfl) rfl) ?_; (try simp only [nA, Nat.reduceBEq, Nat.reduceEqDiff, ↓reduceIte, Nat.reduceAdd, Nat.reduceSub])
  refine AWL.nil ?_
  -- END
  exact RQ.of (.inr rfl) rfl .nil (by simp) rfl (one_out rfl)
end Go.Proofs.YtfmnaigedgmhoaaDoor
namespace Go.Proofs.YtfmnaigedgmhoaaDoor
open Go.RowKit
set_option linter.unusedSimpArgs false
set_option linter.unusedVariables false
set_option maxRecDepth 100000
theorem rp_flat (ls : List Report) : ∀ r ∈ ls.map Report.av, ∀ c ∈ r, flatA c = true := fun r hr c hc => by
  obtain ⟨l, _, rfl⟩ := List.mem_map.1 hr
  simp only [Report.av, List.mem_cons, List.not_mem_nil, or_false] at hc
  rcases hc with rfl | rfl | rfl <;> rfl
theorem rep_bad {α : Type} {m : M α} {k : Nat} {acc : List α} {s : RS} (h : s.bad = true) : repM m k acc s = (acc, s) := by
  cases k with
  | zero => rfl
  | succ k => exact if_pos h
theorem rep_step {α : Type} {m : M α} {k : Nat} {acc : List α} {s : RS} (h : s.bad = false) : repM m (k + 1) acc s = repM m k (acc ++ [(m s).1]) (m s).2 := by
  show (if s.bad = true then (acc, s) else _) = _
  rw [if_neg (by rw [h]; decide)]
theorem num_used {s : RS} (h : (numE s).2.bad = false) : s.bad = false ∧ (numE s).2.b.length + 4 = s.b.length := by
  obtain ⟨b, bad⟩ := s
  match bad, b with
  | false, a :: b :: c :: d :: r => exact ⟨rfl, rfl⟩
  | true, b => exact absurd (show true = false from h) (by decide)
  | false, [] => exact absurd (show true = false from h) (by decide)
  | false, [_] => exact absurd (show true = false from h) (by decide)
  | false, [_, _] => exact absurd (show true = false from h) (by decide)
  | false, [_, _, _] => exact absurd (show true = false from h) (by decide)
theorem tr_used {s : RS} (h : (trE s).2.bad = false) : s.bad = false := by
  obtain ⟨b, bad⟩ := s
  match bad, b with
  | false, b => rfl
  | true, b => exact absurd (show true = false from h) (by decide)
theorem wd_used {s : RS} (h : (wdE s).2.bad = false) : s.bad = false := by
  cases hb : s.bad with
  | false => rfl
  | true => exact absurd (h.symm.trans ((sim_num.bind sim_tk s).1 hb)) (by decide)
theorem rp_used {s : RS} (h : (rpM rE s).2.bad = false) : (rpM rE s).2.b.length + 4 ≤ s.b.length := by
  have h1 := wd_used (s := (trE (numE s).2).2) h
  have h2 := tr_used h1
  have h3 := (num_used h2).2
  have h4 := wdE_len (trE (numE s).2).2
  have h5 := trE_len (numE s).2
  show (wdE (trE (numE s).2).2).2.b.length + 4 ≤ _
  omega
theorem rp_le (s : RS) : (rpM rE s).2.b.length ≤ s.b.length := Nat.le_trans (wdE_len _) (Nat.le_trans (trE_len _) (numE_len s))
end Go.Proofs.YtfmnaigedgmhoaaDoor
namespace Go.Proofs.YtfmnaigedgmhoaaDoor
open Go.RowKit
set_option linter.unusedSimpArgs false
set_option linter.unusedVariables false
set_option maxRecDepth 100000
theorem numE_top (s : RS) : (numE s).1.toNat ≤ 4294967296 := by
  unfold numE
  split
  · exact Int.toNat_le.2 (Int.le_of_lt (n4_lt _ _ _ _).2)
  · exact Nat.zero_le _
theorem C79 {x : Ev} {os : AV} {s : RS} (hl : s.b.length ≤ 1000000) : Fn Tryd.prog 79 [.own 94 [rdC x (.own 66 []) os s]] [.ptr 0 0 0 0] [] [.own 94 [rdC x (.own 66 ((lsM rE (rpM rE) [] s).1.map Report.av)) os (lsM rE (rpM rE) [] s).2]] := by
  refine Spec.body Tryd.func79 rfl Tryd.ntmps79 (by simp) rfl ?_; intro S0 own0 v0 w0 gl
  (refine AW.seq_k ?_; intro K hK)
  refine AW.region ?_
  refine awP (op_move rfl rfl) ?_; (try simp only [nA, Nat.reduceBEq, Nat.reduceEqDiff, ↓reduceIte, Nat.reduceAdd, Nat.reduceSub])
  refine awJ (op_call1 rfl en99 (C99 (x := x) (rs := .own 66 []) (os := os) (s := s) hl) (by exact rfl) (RL.cons .ptr (RL.nil)) (by exact ⟨_, _, _, rfl, rfl, rfl⟩) (by exact rfl) (by exact rfl) (by exact rfl)) ?_; (try simp only [nA, Nat.reduceBEq, Nat.reduceEqDiff, ↓reduceIte, Nat.reduceAdd, Nat.reduceSub])
  refine awP (op_assign rfl rfl) ?_; (try simp only [nA, Nat.reduceBEq, Nat.reduceEqDiff, ↓reduceIte, Nat.reduceAdd, Nat.reduceSub])
  refine AWL.nil ?_
  (refine hK _ ?_; clear hK K; (try simp only [nA, Nat.reduceBEq, Nat.reduceEqDiff, ↓reduceIte, Nat.reduceAdd, Nat.reduceSub]))
  refine AW.block ?_
  have hnn := numE_nn s; refine AW.loopI (fun (q : Nat × List Report × RS × Nat) => [(0, .ptr 0 0 0 0), (2, .v (.int .i64 (q.1 : Nat)))]) (fun q => ⟨[(0, .own 94 [rdC x (.own 66 (q.2.1.map Report.av)) os q.2.2.1])], q.2.2.2⟩) (fun q => repM (rpM rE) q.1 q.2.1 q.2.2.1 = repM (rpM rE) (numE s).1.toNat [] (numE s).2 ∧ q.2.1.length + q.2.2.1.b.length ≤ 1000001 ∧ (q.2.2.1.bad = false → q.2.1.length + q.2.2.1.b.length ≤ 1000000) ∧ q.1 ≤ 4294967296) (fun q => q.1) ((numE s).1.toNat, [], (numE s).2, _) ⟨rfl, by have := numE_len s; simp; omega, fun _ => by have := numE_len s; simp; omega, numE_top s⟩ ⟨rfl, by dsimp only; rw [Int.toNat_of_nonneg hnn]; rfl, trivial⟩ rfl ?_; rintro ⟨k, acc, t, ep⟩ ρ ⟨hR, hB1, hB2, hk⟩; dsimp only at hR hB1 hB2 hk ⊢; simp only [updL]; (try simp only [nA, Nat.reduceBEq, Nat.reduceEqDiff, ↓reduceIte, Nat.reduceAdd, Nat.reduceSub])
  (refine AW.seq_k ?_; intro K hK)
  (refine AW.seq_k ?_; intro K hK)
  refine AW.region (AWL.quiet ?_)
  refine aqP (op_move rfl rfl) ?_; (try simp only [nA, Nat.reduceBEq, Nat.reduceEqDiff, ↓reduceIte, Nat.reduceAdd, Nat.reduceSub])
  refine aqP (op_gtr rfl rfl rfl) ?_; (try simp only [nA, Nat.reduceBEq, Nat.reduceEqDiff, ↓reduceIte, Nat.reduceAdd, Nat.reduceSub])
  refine aqP (op_move rfl rfl) ?_; (try simp only [nA, Nat.reduceBEq, Nat.reduceEqDiff, ↓reduceIte, Nat.reduceAdd, Nat.reduceSub])
  refine' aqAnd' [_, _, _, _, _] [8,9,10,11,12] rfl rfl rfl rfl rfl rfl rfl rfl rfl rfl rfl rfl (fun hb => ?_) ?_; rotate_left
  ·
   (try simp only [hcS] at hb)
   refine aqP (op_move rfl rfl) ?_; (try simp only [nA, Nat.reduceBEq, Nat.reduceEqDiff, ↓reduceIte, Nat.reduceAdd, Nat.reduceSub])
   (first | refine aqP (op_nil_slot rfl rfl rfl) ?_ | refine aqP (op_nil_ptr rfl rfl) ?_); (try simp only [nA, Nat.reduceBEq, Nat.reduceEqDiff, ↓reduceIte, Nat.reduceAdd, Nat.reduceSub])
   (first | refine aqP (op_fa_ptr rfl rfl rfl fl94_2 (by exact sz4) (by decide) rfl) ?_ | refine aqP (op_fa_rop rfl rfl fl94_2 (by exact sz4) (by decide) (Nat.le_of_ble_eq_true rfl) rfl) ?_); (try simp only [nA, Nat.reduceBEq, Nat.reduceEqDiff, ↓reduceIte, Nat.reduceAdd, Nat.reduceSub])
   (first | refine aqR (op_load_ptr1 rfl rfl rfl rfl ag4 rfl rfl) ?_ | refine aqR (op_load_rop1 rfl rfl ag4) ?_); (try simp only [nA, Nat.reduceBEq, Nat.reduceEqDiff, ↓reduceIte, Nat.reduceAdd, Nat.reduceSub])
   refine aqP (op_not rfl rfl rfl) ?_; (try simp only [nA, Nat.reduceBEq, Nat.reduceEqDiff, ↓reduceIte, Nat.reduceAdd, Nat.reduceSub])
   (refine aqSeg rfl rfl rfl ?_; repeat (first | exact fun _ _ => rfl | refine upd_out rfl ?_ | refine era_out rfl ?_))
  (try simp only [nA, Nat.reduceBEq, Nat.reduceEqDiff, ↓reduceIte, Nat.reduceAdd, Nat.reduceSub])
  refine AQ.nil ?_
  (refine hK _ ?_; clear hK K; (try simp only [nA, Nat.reduceBEq, Nat.reduceEqDiff, ↓reduceIte, Nat.reduceAdd, Nat.reduceSub]))
  refine AW.cond rfl rfl rfl (fun hc => ?_) (fun hc => ?_)
  ·
   (skip); have hc1 := hc; obtain ⟨hk0, hb0⟩ : 0 < k ∧ t.bad = false := (by cases hbb : t.bad <;> rw [hbb] at hc1 <;> simp at hc1 <;> exact ⟨by omega, rfl⟩); obtain ⟨k, rfl⟩ : ∃ k', k = k' + 1 := ⟨k - 1, by omega⟩; rw [rep_step hb0] at hR; have hB := hB2 hb0; have hlt : t.b.length ≤ 1000000 := (by omega)
   refine AW.skip ?_
   (refine hK _ ?_; clear hK K; (try simp only [nA, Nat.reduceBEq, Nat.reduceEqDiff, ↓reduceIte, Nat.reduceAdd, Nat.reduceSub]))
   (refine AW.seq_k ?_; intro K hK)
   refine AW.block ?_
   refine AW.ghE (GhE.unnest (r := 0) (row := rdC x (.own 66 (acc.map Report.av)) os t) 0 10 rfl rfl rfl) ?_; intro u hu; (try simp only [nA, Nat.reduceBEq, Nat.reduceEqDiff, ↓reduceIte, Nat.reduceAdd, Nat.reduceSub])
   have g0 := C99 (x := x) (rs := .v u) (os := os) (s := t) hlt
   have g1 := C102 (x := x) (rs := .v u) (os := os) (s := (numE t).2) (len1 hlt)
   have g2 := C100 (x := x) (rs := .v u) (os := os) (s := (trE (numE t).2).2) (len3 (len1 hlt))
   have hle := rp_le t
   have hus := rp_used (s := t)
   have hr : rpM rE t = (⟨(numE t).1, (trE (numE t).2).1, (wdE (trE (numE t).2).2).1⟩, (wdE (trE (numE t).2).2).2) := rfl
   generalize numE t = p1 at g0 g1 g2 hr
   generalize trE p1.2 = p2 at g1 g2 hr
   generalize wdE p2.2 = p3 at g2 hr
   rw [hr] at hR hle hus
   refine AW.aeo (fun T' => ∃ t', T'.slots[0]? = some (0, .own 94 [rdC x (.v u) os t'])) mix rfl ?_
   refine aePo 0 rfl (fun T' ok => op_move rfl rfl) ⟨_, rfl⟩ (by kernel_rfl) (by kernel_rfl) ?_; (try simp only [nA, Nat.reduceBEq, Nat.reduceEqDiff, ↓reduceIte, Nat.reduceAdd, Nat.reduceSub])
   refine aePo 1 rfl (fun T' ok => op_move rfl rfl) ⟨_, rfl⟩ (by kernel_rfl) (by kernel_rfl) ?_; (try simp only [nA, Nat.reduceBEq, Nat.reduceEqDiff, ↓reduceIte, Nat.reduceAdd, Nat.reduceSub])
   refine aePo 2 rfl (fun T' ok => ok.elim fun t' ok => op_nil_slot rfl rfl ok) ⟨_, rfl⟩ (by kernel_rfl) (by kernel_rfl) ?_; (try simp only [nA, Nat.reduceBEq, Nat.reduceEqDiff, ↓reduceIte, Nat.reduceAdd, Nat.reduceSub])
   refine aePo 3 rfl (fun T' ok => ok.elim fun t' ok => op_fa_ptr rfl rfl ok fl94_1 (by exact sz35) (by decide) rfl) ⟨_, rfl⟩ (by kernel_rfl) (by kernel_rfl) ?_; (try simp only [nA, Nat.reduceBEq, Nat.reduceEqDiff, ↓reduceIte, Nat.reduceAdd, Nat.reduceSub])
   refine aePo 4 rfl (fun T' ok => ok.elim fun t' ok => op_fa_ptr rfl rfl ok fl35_7 (by exact sz24) (by decide) rfl) ⟨_, rfl⟩ (by kernel_rfl) (by kernel_rfl) ?_; (try simp only [nA, Nat.reduceBEq, Nat.reduceEqDiff, ↓reduceIte, Nat.reduceAdd, Nat.reduceSub])
   refine aeRo 5 rfl (fun T' ok => ok.elim fun t' ok => op_load_ptr1 (row := rdC x (.v u) os t') rfl rfl ok rfl ag24 rfl rfl) ⟨_, rfl⟩ (by kernel_rfl) (by kernel_rfl) ?_; (try simp only [nA, Nat.reduceBEq, Nat.reduceEqDiff, ↓reduceIte, Nat.reduceAdd, Nat.reduceSub])
   refine aePo 6 rfl (fun T' ok => op_move rfl rfl) ⟨_, rfl⟩ (by kernel_rfl) (by kernel_rfl) ?_; (try simp only [nA, Nat.reduceBEq, Nat.reduceEqDiff, ↓reduceIte, Nat.reduceAdd, Nat.reduceSub])
   refine aePo 8 rfl (fun T' ok => op_move rfl rfl) ⟨_, rfl⟩ (by kernel_rfl) (by kernel_rfl) ?_; (try simp only [nA, Nat.reduceBEq, Nat.reduceEqDiff, ↓reduceIte, Nat.reduceAdd, Nat.reduceSub])
   refine aePo 10 rfl (fun T' ok => op_move rfl rfl) ⟨_, rfl⟩ (by kernel_rfl) (by kernel_rfl) ?_; (try simp only [nA, Nat.reduceBEq, Nat.reduceEqDiff, ↓reduceIte, Nat.reduceAdd, Nat.reduceSub])
   refine aeJo 7 rfl (op_call1 rfl en99 g0 (by exact rfl) (RL.cons .ptr (RL.nil)) (by exact ⟨_, _, _, rfl, rfl, rfl⟩) (by exact rfl) (by exact rfl) (by exact rfl)) (by kernel_rfl) ⟨_, rfl⟩ ?_; (try simp only [nA, Nat.reduceBEq, Nat.reduceEqDiff, ↓reduceIte, Nat.reduceAdd, Nat.reduceSub])
   refine aeJo 9 rfl (op_call1 rfl en102 g1 (by exact rfl) (RL.cons .ptr (RL.nil)) (by exact ⟨_, _, _, rfl, rfl, rfl⟩) (by exact rfl) (by exact rfl) (by exact rfl)) (by kernel_rfl) ⟨_, rfl⟩ ?_; (try simp only [nA, Nat.reduceBEq, Nat.reduceEqDiff, ↓reduceIte, Nat.reduceAdd, Nat.reduceSub])
   refine aeJo 11 rfl (op_call1 rfl en100 g2 (by exact rfl) (RL.cons .ptr (RL.nil)) (by exact ⟨_, _, _, rfl, rfl, rfl⟩) (by exact rfl) (by exact rfl) (by exact rfl)) (by kernel_rfl) ⟨_, rfl⟩ ?_; (try simp only [nA, Nat.reduceBEq, Nat.reduceEqDiff, ↓reduceIte, Nat.reduceAdd, Nat.reduceSub])
   refine aePo 12 rfl (fun T' ok => op_build2 (xs := [_, _, _]) rfl pl66 ze66 [(0, [_]), (1, [_]), (2, [_])] rfl rfl rfl) ⟨_, rfl⟩ (by kernel_rfl) (by kernel_rfl) ?_; (try simp only [nA, Nat.reduceBEq, Nat.reduceEqDiff, ↓reduceIte, Nat.reduceAdd, Nat.reduceSub])
   refine aeJo 13 rfl (OpJ.frz (op_buildSlice rfl [(0, (⟨p1.1, p2.1, p3.1⟩ : Report).av)] [(⟨p1.1, p2.1, p3.1⟩ : Report).av] Tryd.underlying24 ze66 rfl (by simp) rfl (by simp) rfl (Nat.le_of_ble_eq_true rfl) (by simp [maxLen])) (rp_flat [⟨p1.1, p2.1, p3.1⟩]) rfl) (by kernel_rfl) ⟨_, rfl⟩ ?_; (try simp only [nA, Nat.reduceBEq, Nat.reduceEqDiff, ↓reduceIte, Nat.reduceAdd, Nat.reduceSub])
   refine aeJo 14 rfl (OpJ.nm (t := 21) (r := 1) rfl rfl (op_app (rows := [(⟨p1.1, p2.1, p3.1⟩ : Report).av]) rfl rfl rfl rfl (by simp) .ro Tryd.underlying24 ze66 (by decide) (by simp) (by simp; omega) (by decide) (es' := (acc ++ [(⟨p1.1, p2.1, p3.1⟩ : Report)]).map Report.av) (by simp) (n := (acc ++ [(⟨p1.1, p2.1, p3.1⟩ : Report)]).length) (by simp))) (by kernel_rfl) ⟨_, rfl⟩ ?_; (try simp only [nA, Nat.reduceBEq, Nat.reduceEqDiff, ↓reduceIte, Nat.reduceAdd, Nat.reduceSub])
   refine aePo 15 rfl (fun T' ok => ok.elim fun t' ok => op_nil_slot rfl rfl ok) ⟨_, rfl⟩ (by kernel_rfl) (by kernel_rfl) ?_; (try simp only [nA, Nat.reduceBEq, Nat.reduceEqDiff, ↓reduceIte, Nat.reduceAdd, Nat.reduceSub])
   refine aePo 16 rfl (fun T' ok => ok.elim fun t' ok => op_fa_ptr rfl rfl ok fl94_1 (by exact sz35) (by decide) rfl) ⟨_, rfl⟩ (by kernel_rfl) (by kernel_rfl) ?_; (try simp only [nA, Nat.reduceBEq, Nat.reduceEqDiff, ↓reduceIte, Nat.reduceAdd, Nat.reduceSub])
   refine aePo 17 rfl (fun T' ok => ok.elim fun t' ok => op_fa_ptr rfl rfl ok fl35_7 (by exact sz24) (by decide) rfl) ⟨_, rfl⟩ (by kernel_rfl) (by kernel_rfl) ?_; (try simp only [nA, Nat.reduceBEq, Nat.reduceEqDiff, ↓reduceIte, Nat.reduceAdd, Nat.reduceSub])
   refine aeLo 18 rfl (op_store_nest (r := 0) (q := 1) rfl rfl rfl rfl (row := rdC x (.v u) os p3.2) rfl sz24 rfl (by decide) (by simp) (by simp) (es2 := [rdC x (.own 66 ((acc ++ [(⟨p1.1, p2.1, p3.1⟩ : Report)]).map Report.av)) os p3.2]) rfl) (by kernel_rfl) (by kernel_rfl) ?_; (try simp only [nA, Nat.reduceBEq, Nat.reduceEqDiff, ↓reduceIte, Nat.reduceAdd, Nat.reduceSub])
   refine aeDoneo (by kernel_rfl) ?_
   (try simp only [thenE, inBlk, Nat.reduceEqDiff, ↓reduceIte])
   (refine hK _ ?_; clear hK K; (try simp only [nA, Nat.reduceBEq, Nat.reduceEqDiff, ↓reduceIte, Nat.reduceAdd, Nat.reduceSub]))
   refine AW.region ?_
   refine awP (op_move rfl rfl) ?_; (try simp only [nA, Nat.reduceBEq, Nat.reduceEqDiff, ↓reduceIte, Nat.reduceAdd, Nat.reduceSub])
   (first | refine awP (op_subi rfl rfl rfl (by omega)) ?_ | refine awP (op_sub rfl rfl rfl rfl) ?_); (try simp only [nA, Nat.reduceBEq, Nat.reduceEqDiff, ↓reduceIte, Nat.reduceAdd, Nat.reduceSub])
   refine awP (op_assign rfl rfl) ?_; (try simp only [nA, Nat.reduceBEq, Nat.reduceEqDiff, ↓reduceIte, Nat.reduceAdd, Nat.reduceSub])
   refine AWL.gh (Gh.drop 1) ?_; (try simp only [nA, Nat.reduceBEq, Nat.reduceEqDiff, ↓reduceIte, Nat.reduceAdd, Nat.reduceSub])
   refine AWL.nil ?_
   refine ⟨(k, acc ++ [(⟨p1.1, p2.1, p3.1⟩ : Report)], p3.2, _), ⟨hR, by dsimp only at hle ⊢; rw [List.length_append]; simp only [List.length_cons, List.length_nil]; omega, fun h => by have := hus h; dsimp only at this ⊢; rw [List.length_append]; simp only [List.length_cons, List.length_nil]; omega, by dsimp only; omega⟩, by dsimp only; omega, ⟨rfl, by dsimp only; exact congrArg (fun z => AV.v (.int .i64 z)) (by omega), trivial⟩, (by first | rfl | trivial), (by first | rfl | trivial)⟩
  ·
   (skip); have hc1 := hc; have hE : repM (rpM rE) k acc t = (acc, t) := (by cases hbb : t.bad with | true => exact rep_bad hbb | false => (have h0 : k = 0 := (by rw [hbb] at hc1; simp at hc1; omega); subst h0; rfl)); rw [hE] at hR
   refine AW.exit ?_; (try simp only [thenE, inBlk, Nat.reduceEqDiff, ↓reduceIte])
   clear hK K
   show RQ _ _ _ _ _ _; rw [show lsM rE (rpM rE) [] s = (acc, t) from hR.symm]; exact RQ.of (.inr rfl) rfl .nil (by simp) rfl (one_out rfl)
end Go.Proofs.YtfmnaigedgmhoaaDoor
namespace Go.Proofs.YtfmnaigedgmhoaaDoor
open Go.RowKit
set_option linter.unusedSimpArgs false
set_option linter.unusedVariables false
set_option maxRecDepth 100000
theorem op_flat (ls : List Op) : ∀ r ∈ ls.map Op.av, ∀ c ∈ r, flatA c = true := fun r hr c hc => by
  obtain ⟨l, _, rfl⟩ := List.mem_map.1 hr
  simp only [Op.av, List.mem_cons, List.not_mem_nil, or_false] at hc
  rcases hc with rfl | rfl | rfl | rfl | rfl | rfl | rfl | rfl | rfl | rfl <;> rfl
theorem pl_le (s : RS) : (plM rE s).2.b.length ≤ s.b.length := Nat.le_trans (numE_len _) (Nat.le_trans (numE_len _) (numE_len s))
theorem op_le0 (s : RS) : (numE (plM rE (numE (numE (numE (numE (numE s).2).2).2).2).2).2).2.b.length ≤ s.b.length :=
  Nat.le_trans (numE_len _) (Nat.le_trans (pl_le _) (Nat.le_trans (numE_len _) (Nat.le_trans (numE_len _) (Nat.le_trans (numE_len _) (Nat.le_trans (numE_len _) (numE_len s))))))
theorem op_le (s : RS) : (opM rE s).2.b.length ≤ s.b.length := Nat.le_trans (numE_len _) (op_le0 s)
theorem op_used {s : RS} (h : (opM rE s).2.bad = false) : (opM rE s).2.b.length + 4 ≤ s.b.length := by
  have h1 := (num_used (s := (numE (plM rE (numE (numE (numE (numE (numE s).2).2).2).2).2).2).2) h).2
  have h2 := op_le0 s
  show (numE (numE (plM rE (numE (numE (numE (numE (numE s).2).2).2).2).2).2).2).2.b.length + 4 ≤ _
  omega
theorem C83 {x : Ev} {rs : AV} {s : RS} (hl : s.b.length ≤ 1000000) : Fn Tryd.prog 83 [.own 94 [rdC x rs (.own 32 []) s]] [.ptr 0 0 0 0] [] [.own 94 [rdC x rs (.own 32 ((lsM rE (opM rE) [] s).1.map Op.av)) (lsM rE (opM rE) [] s).2]] := by
  refine Spec.body Tryd.func83 rfl Tryd.ntmps83 (by simp) rfl ?_; intro S0 own0 v0 w0 gl
  (refine AW.seq_k ?_; intro K hK)
  refine AW.region ?_
  refine awP (op_move rfl rfl) ?_; (try simp only [nA, Nat.reduceBEq, Nat.reduceEqDiff, ↓reduceIte, Nat.reduceAdd, Nat.reduceSub])
  refine awJ (op_call1 rfl en99 (C99 (x := x) (rs := rs) (os := .own 32 []) (s := s) hl) (by exact rfl) (RL.cons .ptr (RL.nil)) (by exact ⟨_, _, _, rfl, rfl, rfl⟩) (by exact rfl) (by exact rfl) (by exact rfl)) ?_; (try simp only [nA, Nat.reduceBEq, Nat.reduceEqDiff, ↓reduceIte, Nat.reduceAdd, Nat.reduceSub])
  refine awP (op_assign rfl rfl) ?_; (try simp only [nA, Nat.reduceBEq, Nat.reduceEqDiff, ↓reduceIte, Nat.reduceAdd, Nat.reduceSub])
  refine AWL.nil ?_
  (refine hK _ ?_; clear hK K; (try simp only [nA, Nat.reduceBEq, Nat.reduceEqDiff, ↓reduceIte, Nat.reduceAdd, Nat.reduceSub]))
  refine AW.block ?_
  have hnn := numE_nn s; refine AW.loopI (fun (q : Nat × List Op × RS × Nat) => [(0, .ptr 0 0 0 0), (2, .v (.int .i64 (q.1 : Nat)))]) (fun q => ⟨[(0, .own 94 [rdC x rs (.own 32 (q.2.1.map Op.av)) q.2.2.1])], q.2.2.2⟩) (fun q => repM (opM rE) q.1 q.2.1 q.2.2.1 = repM (opM rE) (numE s).1.toNat [] (numE s).2 ∧ q.2.1.length + q.2.2.1.b.length ≤ 1000001 ∧ (q.2.2.1.bad = false → q.2.1.length + q.2.2.1.b.length ≤ 1000000) ∧ q.1 ≤ 4294967296) (fun q => q.1) ((numE s).1.toNat, [], (numE s).2, _) ⟨rfl, by have := numE_len s; simp; omega, fun _ => by have := numE_len s; simp; omega, numE_top s⟩ ⟨rfl, by dsimp only; rw [Int.toNat_of_nonneg hnn]; rfl, trivial⟩ rfl ?_; rintro ⟨k, acc, t, ep⟩ ρ ⟨hR, hB1, hB2, hk⟩; dsimp only at hR hB1 hB2 hk ⊢; simp only [updL]; (try simp only [nA, Nat.reduceBEq, Nat.reduceEqDiff, ↓reduceIte, Nat.reduceAdd, Nat.reduceSub])
  (refine AW.seq_k ?_; intro K hK)
  (refine AW.seq_k ?_; intro K hK)
  refine AW.region (AWL.quiet ?_)
  refine aqP (op_move rfl rfl) ?_; (try simp only [nA, Nat.reduceBEq, Nat.reduceEqDiff, ↓reduceIte, Nat.reduceAdd, Nat.reduceSub])
  refine aqP (op_gtr rfl rfl rfl) ?_; (try simp only [nA, Nat.reduceBEq, Nat.reduceEqDiff, ↓reduceIte, Nat.reduceAdd, Nat.reduceSub])
  refine aqP (op_move rfl rfl) ?_; (try simp only [nA, Nat.reduceBEq, Nat.reduceEqDiff, ↓reduceIte, Nat.reduceAdd, Nat.reduceSub])
  refine' aqAnd' [_, _, _, _, _] [8,9,10,11,12] rfl rfl rfl rfl rfl rfl rfl rfl rfl rfl rfl rfl (fun hb => ?_) ?_; rotate_left
  ·
   (try simp only [hcS] at hb)
   refine aqP (op_move rfl rfl) ?_; (try simp only [nA, Nat.reduceBEq, Nat.reduceEqDiff, ↓reduceIte, Nat.reduceAdd, Nat.reduceSub])
   (first | refine aqP (op_nil_slot rfl rfl rfl) ?_ | refine aqP (op_nil_ptr rfl rfl) ?_); (try simp only [nA, Nat.reduceBEq, Nat.reduceEqDiff, ↓reduceIte, Nat.reduceAdd, Nat.reduceSub])
   (first | refine aqP (op_fa_ptr rfl rfl rfl fl94_2 (by exact sz4) (by decide) rfl) ?_ | refine aqP (op_fa_rop rfl rfl fl94_2 (by exact sz4) (by decide) (Nat.le_of_ble_eq_true rfl) rfl) ?_); (try simp only [nA, Nat.reduceBEq, Nat.reduceEqDiff, ↓reduceIte, Nat.reduceAdd, Nat.reduceSub])
   (first | refine aqR (op_load_ptr1 rfl rfl rfl rfl ag4 rfl rfl) ?_ | refine aqR (op_load_rop1 rfl rfl ag4) ?_); (try simp only [nA, Nat.reduceBEq, Nat.reduceEqDiff, ↓reduceIte, Nat.reduceAdd, Nat.reduceSub])
   refine aqP (op_not rfl rfl rfl) ?_; (try simp only [nA, Nat.reduceBEq, Nat.reduceEqDiff, ↓reduceIte, Nat.reduceAdd, Nat.reduceSub])
   (refine aqSeg rfl rfl rfl ?_; repeat (first | exact fun _ _ => rfl | refine upd_out rfl ?_ | refine era_out rfl ?_))
  (try simp only [nA, Nat.reduceBEq, Nat.reduceEqDiff, ↓reduceIte, Nat.reduceAdd, Nat.reduceSub])
  refine AQ.nil ?_
  (refine hK _ ?_; clear hK K; (try simp only [nA, Nat.reduceBEq, Nat.reduceEqDiff, ↓reduceIte, Nat.reduceAdd, Nat.reduceSub]))
  refine AW.cond rfl rfl rfl (fun hc => ?_) (fun hc => ?_)
  ·
   (skip); have hc1 := hc; obtain ⟨hk0, hb0⟩ : 0 < k ∧ t.bad = false := (by cases hbb : t.bad <;> rw [hbb] at hc1 <;> simp at hc1 <;> exact ⟨by omega, rfl⟩); obtain ⟨k, rfl⟩ : ∃ k', k = k' + 1 := ⟨k - 1, by omega⟩; rw [rep_step hb0] at hR; have hB := hB2 hb0; have hlt : t.b.length ≤ 1000000 := (by omega)
   refine AW.skip ?_
   (refine hK _ ?_; clear hK K; (try simp only [nA, Nat.reduceBEq, Nat.reduceEqDiff, ↓reduceIte, Nat.reduceAdd, Nat.reduceSub]))
   (refine AW.seq_k ?_; intro K hK)
   refine AW.block ?_
   refine AW.ghE (GhE.unnest (r := 0) (row := rdC x rs (.own 32 (acc.map Op.av)) t) 0 28 rfl rfl rfl) ?_; intro u hu; (try simp only [nA, Nat.reduceBEq, Nat.reduceEqDiff, ↓reduceIte, Nat.reduceAdd, Nat.reduceSub])
   have g0 := C104 (x := x) (rs := rs) (os := .v u) (s := t) hlt
   have hle := op_le t
   have hus := op_used (s := t)
   generalize opM rE t = p1 at g0 hR hle hus
   obtain ⟨o1, t1⟩ := p1
   dsimp only at g0 hR hle hus
   refine AW.aeo (fun T' => ∃ t', T'.slots[0]? = some (0, .own 94 [rdC x rs (.v u) t'])) mix rfl ?_
   refine aePo 0 rfl (fun T' ok => op_move rfl rfl) ⟨_, rfl⟩ (by kernel_rfl) (by kernel_rfl) ?_; (try simp only [nA, Nat.reduceBEq, Nat.reduceEqDiff, ↓reduceIte, Nat.reduceAdd, Nat.reduceSub])
   refine aePo 1 rfl (fun T' ok => op_move rfl rfl) ⟨_, rfl⟩ (by kernel_rfl) (by kernel_rfl) ?_; (try simp only [nA, Nat.reduceBEq, Nat.reduceEqDiff, ↓reduceIte, Nat.reduceAdd, Nat.reduceSub])
   refine aePo 2 rfl (fun T' ok => ok.elim fun t' ok => op_nil_slot rfl rfl ok) ⟨_, rfl⟩ (by kernel_rfl) (by kernel_rfl) ?_; (try simp only [nA, Nat.reduceBEq, Nat.reduceEqDiff, ↓reduceIte, Nat.reduceAdd, Nat.reduceSub])
   refine aePo 3 rfl (fun T' ok => ok.elim fun t' ok => op_fa_ptr rfl rfl ok fl94_1 (by exact sz35) (by decide) rfl) ⟨_, rfl⟩ (by kernel_rfl) (by kernel_rfl) ?_; (try simp only [nA, Nat.reduceBEq, Nat.reduceEqDiff, ↓reduceIte, Nat.reduceAdd, Nat.reduceSub])
   refine aePo 4 rfl (fun T' ok => ok.elim fun t' ok => op_fa_ptr rfl rfl ok fl35_11 (by exact sz33) (by decide) rfl) ⟨_, rfl⟩ (by kernel_rfl) (by kernel_rfl) ?_; (try simp only [nA, Nat.reduceBEq, Nat.reduceEqDiff, ↓reduceIte, Nat.reduceAdd, Nat.reduceSub])
   refine aeRo 5 rfl (fun T' ok => ok.elim fun t' ok => op_load_ptr1 (row := rdC x rs (.v u) t') rfl rfl ok rfl ag33 rfl rfl) ⟨_, rfl⟩ (by kernel_rfl) (by kernel_rfl) ?_; (try simp only [nA, Nat.reduceBEq, Nat.reduceEqDiff, ↓reduceIte, Nat.reduceAdd, Nat.reduceSub])
   refine aePo 6 rfl (fun T' ok => op_move rfl rfl) ⟨_, rfl⟩ (by kernel_rfl) (by kernel_rfl) ?_; (try simp only [nA, Nat.reduceBEq, Nat.reduceEqDiff, ↓reduceIte, Nat.reduceAdd, Nat.reduceSub])
   refine aeJo 7 rfl (op_call1 rfl en104 g0 (by exact rfl) (RL.cons .ptr (RL.nil)) (by exact ⟨_, _, _, rfl, rfl, rfl⟩) (by exact rfl) (by exact rfl) (by exact rfl)) (by kernel_rfl) ⟨_, rfl⟩ ?_; (try simp only [nA, Nat.reduceBEq, Nat.reduceEqDiff, ↓reduceIte, Nat.reduceAdd, Nat.reduceSub])
   refine aeJo 8 rfl (OpJ.frz (op_buildSlice rfl [(0, Op.av o1)] [Op.av o1] Tryd.underlying33 ze32 rfl (by simp) rfl (by simp) rfl (Nat.le_of_ble_eq_true rfl) (by simp [maxLen])) (op_flat [o1]) rfl) (by kernel_rfl) ⟨_, rfl⟩ ?_; (try simp only [nA, Nat.reduceBEq, Nat.reduceEqDiff, ↓reduceIte, Nat.reduceAdd, Nat.reduceSub])
   refine aeJo 9 rfl (OpJ.nm (t := 21) (r := 1) rfl rfl (op_app (rows := [Op.av o1]) rfl rfl rfl rfl (by simp) .ro Tryd.underlying33 ze32 (by decide) (by simp) (by simp; omega) (by decide) (es' := (acc ++ [o1]).map Op.av) (by simp) (n := (acc ++ [o1]).length) (by simp))) (by kernel_rfl) ⟨_, rfl⟩ ?_; (try simp only [nA, Nat.reduceBEq, Nat.reduceEqDiff, ↓reduceIte, Nat.reduceAdd, Nat.reduceSub])
   refine aePo 10 rfl (fun T' ok => ok.elim fun t' ok => op_nil_slot rfl rfl ok) ⟨_, rfl⟩ (by kernel_rfl) (by kernel_rfl) ?_; (try simp only [nA, Nat.reduceBEq, Nat.reduceEqDiff, ↓reduceIte, Nat.reduceAdd, Nat.reduceSub])
   refine aePo 11 rfl (fun T' ok => ok.elim fun t' ok => op_fa_ptr rfl rfl ok fl94_1 (by exact sz35) (by decide) rfl) ⟨_, rfl⟩ (by kernel_rfl) (by kernel_rfl) ?_; (try simp only [nA, Nat.reduceBEq, Nat.reduceEqDiff, ↓reduceIte, Nat.reduceAdd, Nat.reduceSub])
   refine aePo 12 rfl (fun T' ok => ok.elim fun t' ok => op_fa_ptr rfl rfl ok fl35_11 (by exact sz33) (by decide) rfl) ⟨_, rfl⟩ (by kernel_rfl) (by kernel_rfl) ?_; (try simp only [nA, Nat.reduceBEq, Nat.reduceEqDiff, ↓reduceIte, Nat.reduceAdd, Nat.reduceSub])
   refine aeLo 13 rfl (op_store_nest (r := 0) (q := 1) rfl rfl rfl rfl (row := rdC x rs (.v u) t1) rfl sz33 rfl (by decide) (by simp) (by simp) (es2 := [rdC x rs (.own 32 ((acc ++ [o1]).map Op.av)) t1]) rfl) (by kernel_rfl) (by kernel_rfl) ?_; (try simp only [nA, Nat.reduceBEq, Nat.reduceEqDiff, ↓reduceIte, Nat.reduceAdd, Nat.reduceSub])
   refine aeDoneo (by kernel_rfl) ?_
   (try simp only [thenE, inBlk, Nat.reduceEqDiff, ↓reduceIte])
   (refine hK _ ?_; clear hK K; (try simp only [nA, Nat.reduceBEq, Nat.reduceEqDiff, ↓reduceIte, Nat.reduceAdd, Nat.reduceSub]))
   refine AW.region ?_
   refine awP (op_move rfl rfl) ?_; (try simp only [nA, Nat.reduceBEq, Nat.reduceEqDiff, ↓reduceIte, Nat.reduceAdd, Nat.reduceSub])
   (first | refine awP (op_subi rfl rfl rfl (by omega)) ?_ | refine awP (op_sub rfl rfl rfl rfl) ?_); (try simp only [nA, Nat.reduceBEq, Nat.reduceEqDiff, ↓reduceIte, Nat.reduceAdd, Nat.reduceSub])
   refine awP (op_assign rfl rfl) ?_; (try simp only [nA, Nat.reduceBEq, Nat.reduceEqDiff, ↓reduceIte, Nat.reduceAdd, Nat.reduceSub])
   refine AWL.gh (Gh.drop 1) ?_; (try simp only [nA, Nat.reduceBEq, Nat.reduceEqDiff, ↓reduceIte, Nat.reduceAdd, Nat.reduceSub])
   refine AWL.nil ?_
   refine ⟨(k, acc ++ [o1], t1, _), ⟨hR, by dsimp only at hle ⊢; rw [List.length_append]; simp only [List.length_cons, List.length_nil]; omega, fun h => by have := hus h; dsimp only at this ⊢; rw [List.length_append]; simp only [List.length_cons, List.length_nil]; omega, by dsimp only; omega⟩, by dsimp only; omega, ⟨rfl, by dsimp only; exact congrArg (fun z => AV.v (.int .i64 z)) (by omega), trivial⟩, (by first | rfl | trivial), (by first | rfl | trivial)⟩
  ·
   (skip); have hc1 := hc; have hE : repM (opM rE) k acc t = (acc, t) := (by cases hbb : t.bad with | true => exact rep_bad hbb | false => (have h0 : k = 0 := (by rw [hbb] at hc1; simp at hc1; omega); subst h0; rfl)); rw [hE] at hR
   refine AW.exit ?_; (try simp only [thenE, inBlk, Nat.reduceEqDiff, ↓reduceIte])
   clear hK K
   show RQ _ _ _ _ _ _; rw [show lsM rE (opM rE) [] s = (acc, t) from hR.symm]; exact RQ.of (.inr rfl) rfl .nil (by simp) rfl (one_out rfl)
end Go.Proofs.YtfmnaigedgmhoaaDoor
namespace Go.Proofs.YtfmnaigedgmhoaaDoor
open Go.RowKit
set_option linter.unusedSimpArgs false
set_option linter.unusedVariables false
set_option maxRecDepth 100000
def sufR (s : ByteArray) : Bool := (s.toList == (⟨#[]⟩ : ByteArray).toList) || (decide ((s.size : Int) = 1) && upB (chr s 0))
def carR (s : ByteArray) : Bool := ((upB (chr s 0) || dgB (chr s 0)) && (upB (chr s 1) || dgB (chr s 1))) && (upB (chr s 0) || upB (chr s 1))
def car0 (s : ByteArray) : Bool := if (s.size : Int) ≠ 2 then false else carR s
theorem bytes_eq (s : ByteArray) : s.toList = s.data.toList := by
  exact ByteArray.toList_eq s
def plR (p : Plate) : Bool := ((((decide (p.lead ≥ 0) && decide (p.lead ≤ 9)) && decide (p.airline ≥ 1)) && decide (p.airline ≤ 999)) && decide (p.serial ≥ 0)) && decide (p.serial ≤ 999999)
def piR (p : Piece) : Bool := (((plB p.plate && decide (p.weight ≥ 1)) && decide (p.weight ≤ 999)) && decide (p.category ≥ 0)) && decide (p.category ≤ 4)
def opR (o : Op) : Bool := (((((((((decide (o.time ≥ 0) && decide (o.time ≤ 1048576)) && decide (o.device ≥ 1)) && decide (o.device ≤ 6)) && decide (o.seq ≥ 1)) && decide (o.seq ≤ 1048576)) && (decide (o.kind = 1) || decide (o.kind = 2))) && decide (o.cont ≥ 1)) && decide (o.cont ≤ 999))) && piB o.piece
end Go.Proofs.YtfmnaigedgmhoaaDoor
namespace Go.Proofs.YtfmnaigedgmhoaaDoor
open Go.RowKit
set_option linter.unusedSimpArgs false
set_option linter.unusedVariables false
set_option maxRecDepth 100000
theorem ite_ok {p : Prop} [Decidable p] {b : Bool} {w : World} : (if p then Result.ok (Value.bool b) w else Result.ok (Value.bool false) w) = Result.ok (Value.bool (decide p && b)) w := by
  by_cases h : p <;> simp [h]
theorem ite_no {p : Prop} [Decidable p] {b : Bool} {w : World} : (if p then Result.ok (Value.bool b) w else Result.ok (Value.bool true) w) = Result.ok (Value.bool (!decide p || b)) w := by
  by_cases h : p <;> simp [h]
theorem str_eq (a b : ByteArray) : a.toList = b.toList ↔ a = b := by
  rw [bytes_eq, bytes_eq]
  exact ⟨fun h => bytes_ext h, fun h => by rw [h]⟩
def plEq (p q : Plate) : Bool := (p.lead == q.lead) && ((p.airline == q.airline) && ((p.serial == q.serial)))
abbrev Plate.vs (p : Plate) : List Value := [.int .i64 p.lead, .int .i64 p.airline, .int .i64 p.serial]
theorem run_eql23 (p q : Plate) (w : World) : (binOp .eql 23 (.agg p.vs.toArray) (.agg q.vs.toArray)).run Tryd.prog w = .ok (.bool (plEq p q)) w := by
  obtain ⟨a, b, c⟩ := p
  obtain ⟨a', b', c'⟩ := q
  unfold binOp
  simp only [Op.equal]
  rw [Sem.run_bind, show Op.maxDepth = 9998 + 1 + 1 from rfl, run_equalIn_struct w _ 23 _ _ fo23 st23]
  unfold Program.fieldsOf; rw [Tryd.underlying23]
  simp only [Op.eqFields]
  go_simp
  simp only [ite_ok]
  unfold plEq
  simp [Bool.and_assoc, Bool.beq_eq_decide_eq]
theorem run_tyeql23 (p q : Operand) (x y : Array Value) (w : World) : (eqGuard .eql 23 p q (.agg x) (.agg y)).run Tryd.prog w = .ok () w := by
  unfold eqGuard
  simp [ty23, run_program]
theorem plEq_iff (p q : Plate) : plEq p q = true ↔ p = q := by
  obtain ⟨a, b, c⟩ := p
  obtain ⟨a', b', c'⟩ := q
  unfold plEq
  simp only [Bool.and_eq_true, beq_iff_eq, str_eq, Plate.mk.injEq, and_assoc]
theorem st26 : Tryd.prog.stoodInHeld 26 = false := by kernel_rfl
theorem fo26 : Tryd.prog.underlying 26 = some (.struct (Tryd.prog.fieldsOf 26)) := by
  unfold Program.fieldsOf; rw [Tryd.underlying26]
theorem ty26 : Tryd.prog.eqGuardType Tryd.prog.depth 26 = false := by kernel_rfl
def flEq (p q : Flight) : Bool := (p.carrier.toList == q.carrier.toList) && ((p.number == q.number) && ((p.suffix.toList == q.suffix.toList) && ((p.day == q.day))))
abbrev Flight.vs (p : Flight) : List Value := [.string p.carrier, .int .i64 p.number, .string p.suffix, .int .i64 p.day]
theorem run_eql26 (p q : Flight) (w : World) : (binOp .eql 26 (.agg p.vs.toArray) (.agg q.vs.toArray)).run Tryd.prog w = .ok (.bool (flEq p q)) w := by
  obtain ⟨a, b, c, d⟩ := p
  obtain ⟨a', b', c', d'⟩ := q
  unfold binOp
  simp only [Op.equal]
  rw [Sem.run_bind, show Op.maxDepth = 9998 + 1 + 1 from rfl, run_equalIn_struct w _ 26 _ _ fo26 st26]
  unfold Program.fieldsOf; rw [Tryd.underlying26]
  simp only [Op.eqFields]
  go_simp
  simp only [ite_ok]
  unfold flEq
  simp [Bool.and_assoc, Bool.beq_eq_decide_eq]
theorem run_tyeql26 (p q : Operand) (x y : Array Value) (w : World) : (eqGuard .eql 26 p q (.agg x) (.agg y)).run Tryd.prog w = .ok () w := by
  unfold eqGuard
  simp [ty26, run_program]
theorem flEq_iff (p q : Flight) : flEq p q = true ↔ p = q := by
  obtain ⟨a, b, c, d⟩ := p
  obtain ⟨a', b', c', d'⟩ := q
  unfold flEq
  simp only [Bool.and_eq_true, beq_iff_eq, str_eq, Flight.mk.injEq, and_assoc]
theorem st28 : Tryd.prog.stoodInHeld 28 = false := by kernel_rfl
theorem fo28 : Tryd.prog.underlying 28 = some (.struct (Tryd.prog.fieldsOf 28)) := by
  unfold Program.fieldsOf; rw [Tryd.underlying28]
theorem ty28 : Tryd.prog.eqGuardType Tryd.prog.depth 28 = false := by kernel_rfl
def rvEq (p q : Rev) : Bool := (p.kind == q.kind) && ((p.amount == q.amount) && ((p.fl.carrier.toList == q.fl.carrier.toList) && ((p.fl.number == q.fl.number) && ((p.fl.suffix.toList == q.fl.suffix.toList) && ((p.fl.day == q.fl.day))))))
abbrev Rev.vs (p : Rev) : List Value := [.int .i64 p.kind, .int .i64 p.amount, .string p.fl.carrier, .int .i64 p.fl.number, .string p.fl.suffix, .int .i64 p.fl.day]
theorem run_eql28 (p q : Rev) (w : World) : (binOp .eql 28 (.agg p.vs.toArray) (.agg q.vs.toArray)).run Tryd.prog w = .ok (.bool (rvEq p q)) w := by
  obtain ⟨a, b, ⟨c, d, e, f⟩⟩ := p
  obtain ⟨a', b', ⟨c', d', e', f'⟩⟩ := q
  unfold binOp
  simp only [Op.equal]
  rw [Sem.run_bind, show Op.maxDepth = 9997 + 1 + 1 + 1 from rfl, run_equalIn_struct w _ 28 _ _ fo28 st28]
  unfold Program.fieldsOf; rw [Tryd.underlying28]
  simp only [Op.eqFields]
  go_simp
  simp only [ite_ok]
  unfold rvEq
  simp [Bool.and_assoc, Bool.beq_eq_decide_eq]
theorem run_tyeql28 (p q : Operand) (x y : Array Value) (w : World) : (eqGuard .eql 28 p q (.agg x) (.agg y)).run Tryd.prog w = .ok () w := by
  unfold eqGuard
  simp [ty28, run_program]
theorem rvEq_iff (p q : Rev) : rvEq p q = true ↔ p = q := by
  obtain ⟨a, b, ⟨c, d, e, f⟩⟩ := p
  obtain ⟨a', b', ⟨c', d', e', f'⟩⟩ := q
  unfold rvEq
  simp only [Bool.and_eq_true, beq_iff_eq, str_eq, Rev.mk.injEq, Flight.mk.injEq, and_assoc]
theorem st32 : Tryd.prog.stoodInHeld 32 = false := by kernel_rfl
theorem fo32 : Tryd.prog.underlying 32 = some (.struct (Tryd.prog.fieldsOf 32)) := by
  unfold Program.fieldsOf; rw [Tryd.underlying32]
theorem ty32 : Tryd.prog.eqGuardType Tryd.prog.depth 32 = false := by kernel_rfl
def opEq (p q : Op) : Bool := (p.time == q.time) && ((p.device == q.device) && ((p.seq == q.seq) && ((p.kind == q.kind) && ((p.cont == q.cont) && ((p.piece.plate.lead == q.piece.plate.lead) && ((p.piece.plate.airline == q.piece.plate.airline) && ((p.piece.plate.serial == q.piece.plate.serial) && ((p.piece.weight == q.piece.weight) && ((p.piece.category == q.piece.category))))))))))
abbrev Op.vs (p : Op) : List Value := [.int .i64 p.time, .int .i64 p.device, .int .i64 p.seq, .int .i64 p.kind, .int .i64 p.cont, .int .i64 p.piece.plate.lead, .int .i64 p.piece.plate.airline, .int .i64 p.piece.plate.serial, .int .i64 p.piece.weight, .int .i64 p.piece.category]
theorem run_eql32 (p q : Op) (w : World) : (binOp .eql 32 (.agg p.vs.toArray) (.agg q.vs.toArray)).run Tryd.prog w = .ok (.bool (opEq p q)) w := by
  obtain ⟨a, b, c, d, e, ⟨⟨f, g, h⟩, i, j⟩⟩ := p
  obtain ⟨a', b', c', d', e', ⟨⟨f', g', h'⟩, i', j'⟩⟩ := q
  unfold binOp
  simp only [Op.equal]
  rw [Sem.run_bind, show Op.maxDepth = 9996 + 1 + 1 + 1 + 1 from rfl, run_equalIn_struct w _ 32 _ _ fo32 st32]
  unfold Program.fieldsOf; rw [Tryd.underlying32]
  simp only [Op.eqFields]
  go_simp
  simp only [ite_ok]
  unfold opEq
  simp [Bool.and_assoc, Bool.beq_eq_decide_eq]
theorem run_tyeql32 (p q : Operand) (x y : Array Value) (w : World) : (eqGuard .eql 32 p q (.agg x) (.agg y)).run Tryd.prog w = .ok () w := by
  unfold eqGuard
  simp [ty32, run_program]
theorem run_neq32 (p q : Op) (w : World) : (binOp .neq 32 (.agg p.vs.toArray) (.agg q.vs.toArray)).run Tryd.prog w = .ok (.bool (!opEq p q)) w := by
  obtain ⟨a, b, c, d, e, ⟨⟨f, g, h⟩, i, j⟩⟩ := p
  obtain ⟨a', b', c', d', e', ⟨⟨f', g', h'⟩, i', j'⟩⟩ := q
  unfold binOp
  simp only [Op.equal]
  rw [Sem.run_bind, show Op.maxDepth = 9996 + 1 + 1 + 1 + 1 from rfl, run_equalIn_struct w _ 32 _ _ fo32 st32]
  unfold Program.fieldsOf; rw [Tryd.underlying32]
  simp only [Op.eqFields]
  go_simp
  simp only [ite_no]
  unfold opEq
  simp [Bool.and_assoc, Bool.beq_eq_decide_eq]
theorem run_tyneq32 (p q : Operand) (x y : Array Value) (w : World) : (eqGuard .neq 32 p q (.agg x) (.agg y)).run Tryd.prog w = .ok () w := by
  unfold eqGuard
  simp [ty32, run_program]
theorem opEq_iff (p q : Op) : opEq p q = true ↔ p = q := by
  obtain ⟨a, b, c, d, e, ⟨⟨f, g, h⟩, i, j⟩⟩ := p
  obtain ⟨a', b', c', d', e', ⟨⟨f', g', h'⟩, i', j'⟩⟩ := q
  unfold opEq
  simp only [Bool.and_eq_true, beq_iff_eq, str_eq, Op.mk.injEq, Piece.mk.injEq, Plate.mk.injEq, and_assoc]
theorem st66 : Tryd.prog.stoodInHeld 66 = false := by kernel_rfl
theorem fo66 : Tryd.prog.underlying 66 = some (.struct (Tryd.prog.fieldsOf 66)) := by
  unfold Program.fieldsOf; rw [Tryd.underlying66]
theorem ty66 : Tryd.prog.eqGuardType Tryd.prog.depth 66 = false := by kernel_rfl
def rpEq (p q : Report) : Bool := (p.device == q.device) && ((p.seen == q.seen) && ((p.read.toList == q.read.toList)))
abbrev Report.vs (p : Report) : List Value := [.int .i64 p.device, .bool p.seen, .string p.read]
theorem run_neq66 (p q : Report) (w : World) : (binOp .neq 66 (.agg p.vs.toArray) (.agg q.vs.toArray)).run Tryd.prog w = .ok (.bool (!rpEq p q)) w := by
  obtain ⟨a, b, c⟩ := p
  obtain ⟨a', b', c'⟩ := q
  unfold binOp
  simp only [Op.equal]
  rw [Sem.run_bind, show Op.maxDepth = 9998 + 1 + 1 from rfl, run_equalIn_struct w _ 66 _ _ fo66 st66]
  unfold Program.fieldsOf; rw [Tryd.underlying66]
  simp only [Op.eqFields]
  go_simp
  simp only [ite_no]
  unfold rpEq
  simp [Bool.and_assoc, Bool.beq_eq_decide_eq]
theorem run_tyneq66 (p q : Operand) (x y : Array Value) (w : World) : (eqGuard .neq 66 p q (.agg x) (.agg y)).run Tryd.prog w = .ok () w := by
  unfold eqGuard
  simp [ty66, run_program]
theorem rpEq_iff (p q : Report) : rpEq p q = true ↔ p = q := by
  obtain ⟨a, b, c⟩ := p
  obtain ⟨a', b', c'⟩ := q
  unfold rpEq
  simp only [Bool.and_eq_true, beq_iff_eq, str_eq, Report.mk.injEq, and_assoc]
section
variable {S0 : Nat → Prop} {own0 : List Nat} {v0 : List Value} {w0 : World} {gl : Glb Tryd.prog (fun k => S0 k ∧ k ∉ own0) w0} {o : Oper} {ev : Operand → AV} {T : Sl} {yt : TypeId} {y z : Operand}
theorem op_eqP23 {p q : Plate} (ho : o.op = .binOp .eql 23 y z yt) (hy : ev y = .agg p.av) (hz : ev z = .agg q.av) : OpP ⟨Tryd.prog, S0, own0, v0, w0, gl⟩ o ev T (.v (.bool (plEq p q))) :=
  op_bin_agg (xs := p.vs) (ys := q.vs) ho hy hz (fun w => run_tyeql23 _ _ _ _ w) (fun w => run_eql23 p q w) rfl
theorem op_eq26 {p q : Flight} (ho : o.op = .binOp .eql 26 y z yt) (hy : ev y = .agg p.av) (hz : ev z = .agg q.av) : OpP ⟨Tryd.prog, S0, own0, v0, w0, gl⟩ o ev T (.v (.bool (flEq p q))) :=
  op_bin_agg (xs := p.vs) (ys := q.vs) ho hy hz (fun w => run_tyeql26 _ _ _ _ w) (fun w => run_eql26 p q w) rfl
theorem op_eq28 {p q : Rev} (ho : o.op = .binOp .eql 28 y z yt) (hy : ev y = .agg p.av) (hz : ev z = .agg q.av) : OpP ⟨Tryd.prog, S0, own0, v0, w0, gl⟩ o ev T (.v (.bool (rvEq p q))) :=
  op_bin_agg (xs := p.vs) (ys := q.vs) ho hy hz (fun w => run_tyeql28 _ _ _ _ w) (fun w => run_eql28 p q w) rfl
theorem op_eq32 {p q : Op} (ho : o.op = .binOp .eql 32 y z yt) (hy : ev y = .agg p.av) (hz : ev z = .agg q.av) : OpP ⟨Tryd.prog, S0, own0, v0, w0, gl⟩ o ev T (.v (.bool (opEq p q))) :=
  op_bin_agg (xs := p.vs) (ys := q.vs) ho hy hz (fun w => run_tyeql32 _ _ _ _ w) (fun w => run_eql32 p q w) rfl
theorem op_neq32 {p q : Op} (ho : o.op = .binOp .neq 32 y z yt) (hy : ev y = .agg p.av) (hz : ev z = .agg q.av) : OpP ⟨Tryd.prog, S0, own0, v0, w0, gl⟩ o ev T (.v (.bool (!opEq p q))) :=
  op_bin_agg (xs := p.vs) (ys := q.vs) ho hy hz (fun w => run_tyneq32 _ _ _ _ w) (fun w => run_neq32 p q w) rfl
theorem op_neq66 {p q : Report} (ho : o.op = .binOp .neq 66 y z yt) (hy : ev y = .agg p.av) (hz : ev z = .agg q.av) : OpP ⟨Tryd.prog, S0, own0, v0, w0, gl⟩ o ev T (.v (.bool (!rpEq p q))) :=
  op_bin_agg (xs := p.vs) (ys := q.vs) ho hy hz (fun w => run_tyneq66 _ _ _ _ w) (fun w => run_neq66 p q w) rfl
end
end Go.Proofs.YtfmnaigedgmhoaaDoor
namespace Go.Proofs.YtfmnaigedgmhoaaDoor
open Go.RowKit
set_option linter.unusedSimpArgs false
set_option linter.unusedVariables false
set_option maxRecDepth 100000
instance : Inhabited Op := ⟨⟨0, 0, 0, 0, 0, default⟩⟩
instance : Inhabited Report := ⟨⟨0, false, emptyS⟩⟩
theorem all_range_no {n i : Nat} {f : Nat → Bool} (h : i < n) (hf : f i = false) : (List.range n).all f = false := by
  rw [List.all_eq_false]
  exact ⟨i, List.mem_range.2 h, by rw [hf]; simp⟩
theorem all_range_yes {n i : Nat} {f : Nat → Bool} (h : ¬ i < n) (hf : ∀ k, k < i → f k = true) : (List.range n).all f = true := by
  rw [List.all_eq_true]
  intro k hk
  exact hf k (by have := List.mem_range.1 hk; omega)
theorem all_b_step {f : Nat → Bool} {i : Nat} (h : ∀ k, k < i → f k = true) (h2 : f i = true) : ∀ k, k < i + 1 → f k = true := fun k hk => by
  by_cases e : k = i
  · rw [e, h2]
  · exact h k (by omega)
theorem all_f_step {f : Nat → Bool} {i : Nat} (h : ∀ k, k < i → f k = false) (h2 : f i = false) : ∀ k, k < i + 1 → f k = false := fun k hk => by
  by_cases e : k = i
  · rw [e, h2]
  · exact h k (by omega)
def idxI {α : Type} (p : α → Bool) (l : List α) : Int := if l.findIdx p < l.length then (l.findIdx p : Int) else -1
theorem getD_of {α : Type} [Inhabited α] {l : List α} {i : Nat} (h : i < l.length) : l.getD i default = l[i] := by
  rw [List.getD_eq_getElem?_getD, List.getElem?_eq_getElem h]; rfl
theorem idx_yes {α : Type} [Inhabited α] {p : α → Bool} {l : List α} {i : Nat} (hi : i < l.length) (hn : ∀ k, k < i → p (l.getD k default) = false) (hp : p (l.getD i default) = true) : idxI p l = i := by
  have e : l.findIdx p = i := (List.findIdx_eq hi).2 ⟨by rw [← getD_of hi]; exact hp, fun j hj => by
    have := hn j hj
    rw [getD_of (by omega)] at this
    exact this⟩
  unfold idxI
  rw [e, if_pos hi]
theorem idx_no {α : Type} [Inhabited α] {p : α → Bool} {l : List α} {i : Nat} (hi : ¬ i < l.length) (hn : ∀ k, k < i → p (l.getD k default) = false) : idxI p l = -1 := by
  unfold idxI
  rw [if_neg]
  intro h
  have := List.findIdx_getElem (w := h)
  have h2 := hn (l.findIdx p) (by omega)
  rw [getD_of h] at h2
  rw [h2] at this
  cases this
def listEq {α : Type} [Inhabited α] (eq : α → α → Bool) (a b : List α) : Bool := decide ((a.length : Int) = b.length) && (List.range a.length).all fun i => eq (a.getD i default) (b.getD i default)
theorem le_ne {α : Type} [Inhabited α] {eq : α → α → Bool} {a b : List α} (h : (!decide ((a.length : Int) = b.length)) = true) : listEq eq a b = false := by
  unfold listEq
  rw [show decide ((a.length : Int) = b.length) = false by simpa using h, Bool.false_and]
theorem le_no {α : Type} [Inhabited α] {eq : α → α → Bool} {a b : List α} {i : Nat} (hi : i < a.length) (h : (!eq (a.getD i default) (b.getD i default)) = true) : listEq eq a b = false := by
  unfold listEq
  rw [all_range_no hi (by simpa using h), Bool.and_false]
theorem le_yes {α : Type} [Inhabited α] {eq : α → α → Bool} {a b : List α} {i : Nat} (he : (!decide ((a.length : Int) = b.length)) = false) (hi : ¬ i < a.length) (h : ∀ k, k < i → eq (a.getD k default) (b.getD k default) = true) : listEq eq a b = true := by
  unfold listEq
  rw [all_range_yes hi h, Bool.and_true]
  simpa using he
theorem listEq_iff {α : Type} [Inhabited α] {eq : α → α → Bool} (he : ∀ x y, eq x y = true ↔ x = y) (a b : List α) : listEq eq a b = true ↔ a = b := by
  unfold listEq
  rw [Bool.and_eq_true, decide_eq_true_eq, List.all_eq_true]
  constructor
  · rintro ⟨h1, h2⟩
    refine List.ext_getElem (by omega) fun i hi hj => ?_
    have := (he _ _).1 (h2 i (List.mem_range.2 hi))
    rw [getD_of hi, getD_of hj] at this
    exact this
  · rintro rfl
    exact ⟨rfl, fun i _ => (he _ _).2 rfl⟩
theorem C41 {a b : List Report} (h1 : a.length ≤ 1000000) : Fn Tryd.prog 41 [] [.ro (a.map Report.av), .ro (b.map Report.av)] [.v (.bool (listEq rpEq a b))] [] := by
  refine Spec.body Tryd.func41 rfl Tryd.ntmps41 (by simp) rfl ?_; intro S0 own0 v0 w0 gl
  (refine AW.seq_k ?_; intro K hK)
  refine AW.region ?_
  refine awP (op_assign rfl rfl) ?_
  refine AWL.nil ?_
  (refine hK _ ?_; clear hK K; (try simp only [nA, Nat.reduceBEq, Nat.reduceEqDiff, ↓reduceIte, Nat.reduceAdd, Nat.reduceSub]))
  (refine AW.seq_k ?_; intro K hK)
  (refine AW.seq_k ?_; intro K hK)
  refine AW.region ?_
  refine awP (op_move rfl rfl) ?_
  refine awP (op_len_ro (n := a.length) rfl rfl Tryd.underlying24 (.inr (.inl ⟨_, rfl, by simp⟩))) ?_
  refine awP (op_move rfl rfl) ?_
  refine awP (op_len_ro (n := b.length) rfl rfl Tryd.underlying24 (.inr (.inl ⟨_, rfl, by simp⟩))) ?_
  (first | refine awP (op_neq rfl rfl rfl) ?_ | refine awP (op_sneq rfl rfl rfl) ?_)
  refine AWL.nil ?_
  (refine hK _ ?_; clear hK K; (try simp only [nA, Nat.reduceBEq, Nat.reduceEqDiff, ↓reduceIte, Nat.reduceAdd, Nat.reduceSub]))
  refine AW.cond rfl rfl rfl (fun hc => ?_) (fun hc => ?_)
  ·
   (skip); have hc1 := hc; skip
   (refine AW.seq_k ?_; intro K hK)
   refine AW.region ?_
   refine awP (op_assign rfl rfl) ?_
   refine AWL.nil ?_
   (refine hK _ ?_; clear hK K; (try simp only [nA, Nat.reduceBEq, Nat.reduceEqDiff, ↓reduceIte, Nat.reduceAdd, Nat.reduceSub]))
   skip
   refine AW.ret ?_; (try simp only [thenE, inBlk, Nat.reduceEqDiff, ↓reduceIte]); rw [le_ne hc1]; exact RQ.of0 rfl (.tmp (Nat.le_of_ble_eq_true rfl) rfl rfl .nil)
  ·
   (skip); have hc1 := hc; have hle : a.length = b.length := (by have e : (a.length : Int) = b.length := (by simpa using hc1); omega)
   refine AW.skip ?_
   (refine hK _ ?_; clear hK K; (try simp only [nA, Nat.reduceBEq, Nat.reduceEqDiff, ↓reduceIte, Nat.reduceAdd, Nat.reduceSub]))
   (refine AW.seq_k ?_; intro K hK)
   (refine AW.seq_k ?_; intro K hK)
   refine AW.region ?_
   refine awP (op_move rfl rfl) ?_
   refine awP (op_len_ro (n := a.length) rfl rfl Tryd.underlying24 (.inr (.inl ⟨_, rfl, by simp⟩))) ?_
   refine awP (op_move rfl rfl) ?_
   refine AWL.nil ?_
   (refine hK _ ?_; clear hK K; (try simp only [nA, Nat.reduceBEq, Nat.reduceEqDiff, ↓reduceIte, Nat.reduceAdd, Nat.reduceSub]))
   refine AW.block ?_
   refine AW.loopI (fun i => [(0, .ro (a.map Report.av)), (1, .ro (b.map Report.av)), (12, .v (.int .i64 a.length)), (13, .v (.int .i64 (i : Nat)))]) (fun i => ⟨[], 1⟩) (fun i => i ≤ a.length ∧ ∀ k, k < i → rpEq (a.getD k default) (b.getD k default) = true) (fun i => a.length - i) 0 (by simp) ⟨rfl, rfl, rfl, rfl, trivial⟩ rfl ?_; intro i ρ hi; simp only [updL]; (try simp only [nA, Nat.reduceBEq, Nat.reduceEqDiff, ↓reduceIte, Nat.reduceAdd, Nat.reduceSub])
   (refine AW.seq_k ?_; intro K hK)
   refine AW.region ?_
   refine awP (op_lss rfl rfl rfl) ?_
   refine AWL.nil ?_
   (refine hK _ ?_; clear hK K; (try simp only [nA, Nat.reduceBEq, Nat.reduceEqDiff, ↓reduceIte, Nat.reduceAdd, Nat.reduceSub]))
   (refine AW.seq_k ?_; intro K hK)
   refine AW.cond rfl rfl rfl (fun hc => ?_) (fun hc => ?_)
   ·
    (skip); have hc2 := hc; have hlt : i < a.length := (by simpa using hc2)
    refine AW.skip ?_
    (refine hK _ ?_; clear hK K; (try simp only [nA, Nat.reduceBEq, Nat.reduceEqDiff, ↓reduceIte, Nat.reduceAdd, Nat.reduceSub]))
    (refine AW.seq_k ?_; intro K hK)
    refine AW.block ?_
    (refine AW.seq_k ?_; intro K hK)
    refine AW.region ?_
    refine awP (op_move rfl rfl) ?_
    refine awP (op_assign rfl rfl) ?_
    refine AWL.nil ?_
    (refine hK _ ?_; clear hK K; (try simp only [nA, Nat.reduceBEq, Nat.reduceEqDiff, ↓reduceIte, Nat.reduceAdd, Nat.reduceSub]))
    (refine AW.seq_k ?_; intro K hK)
    refine AW.quiet mix (by kernel_rfl) ?_
    refine aqP (op_move rfl rfl) ?_
    refine aqP (op_move rfl rfl) ?_
    refine aqP (op_ia_ro i rfl (.inl rfl) rfl Tryd.underlying24 rfl (get_mapD (by omega)) (by exact sz66) (Nat.le_of_ble_eq_true rfl)) ?_
    (first | refine aqR (op_load_ptr rfl rfl rfl rfl ag66 sz66 (Nat.le_of_ble_eq_true rfl) rfl) ?_ | refine aqR (op_load_rop rfl rfl ag66 sz66 (Nat.le_of_ble_eq_true rfl) (by decide) rfl) ?_)
    refine aqP (op_move rfl rfl) ?_
    refine aqP (op_move rfl rfl) ?_
    refine aqP (op_ia_ro i rfl (.inl rfl) rfl Tryd.underlying24 rfl (get_mapD (by omega)) (by exact sz66) (Nat.le_of_ble_eq_true rfl)) ?_
    (first | refine aqR (op_load_ptr rfl rfl rfl rfl ag66 sz66 (Nat.le_of_ble_eq_true rfl) rfl) ?_ | refine aqR (op_load_rop rfl rfl ag66 sz66 (Nat.le_of_ble_eq_true rfl) (by decide) rfl) ?_)
    refine aqP (op_neq66 (p := a.getD i default) (q := b.getD i default) rfl rfl rfl) ?_; (try simp only [nA, Nat.reduceBEq, Nat.reduceEqDiff, ↓reduceIte, Nat.reduceAdd, Nat.reduceSub])
    refine AQ.nil ?_
    (refine hK _ ?_; clear hK K; (try simp only [nA, Nat.reduceBEq, Nat.reduceEqDiff, ↓reduceIte, Nat.reduceAdd, Nat.reduceSub]))
    refine AW.cond rfl rfl rfl (fun hc => ?_) (fun hc => ?_)
    ·
     (skip); have hc3 := hc; skip
     (refine AW.seq_k ?_; intro K hK)
     refine AW.region ?_
     refine awP (op_assign rfl rfl) ?_
     refine AWL.nil ?_
     (refine hK _ ?_; clear hK K; (try simp only [nA, Nat.reduceBEq, Nat.reduceEqDiff, ↓reduceIte, Nat.reduceAdd, Nat.reduceSub]))
     skip
     refine AW.ret ?_; (try simp only [thenE, inBlk, Nat.reduceEqDiff, ↓reduceIte]); rw [le_no hlt hc3]; exact RQ.of0 rfl (.tmp (Nat.le_of_ble_eq_true rfl) rfl rfl .nil)
    ·
     (skip); have hc3 := hc; skip
     refine AW.skip ?_
     (try simp only [thenE, inBlk, Nat.reduceEqDiff, ↓reduceIte])
     (refine hK _ ?_; clear hK K; (try simp only [nA, Nat.reduceBEq, Nat.reduceEqDiff, ↓reduceIte, Nat.reduceAdd, Nat.reduceSub]))
     refine AW.region ?_
     (first | refine awP (op_addi rfl rfl rfl (by omega)) ?_ | refine awP (op_add rfl rfl rfl rfl) ?_)
     refine awP (op_move rfl rfl) ?_
     skip
     refine AWL.nil ?_
     refine ⟨i + 1, ⟨by omega, all_b_step hi.2 (by simpa using hc3)⟩, by omega, ⟨rfl, rfl, rfl, rfl, trivial⟩, (by first | rfl | trivial), (by first | rfl | trivial)⟩
   ·
    (skip); have hc2 := hc; have hnl : ¬ i < a.length := (by simpa using hc2)
    refine AW.exit ?_; (try simp only [thenE, inBlk, Nat.reduceEqDiff, ↓reduceIte])
    clear hK K
    (refine hK _ ?_; clear hK K; (try simp only [nA, Nat.reduceBEq, Nat.reduceEqDiff, ↓reduceIte, Nat.reduceAdd, Nat.reduceSub]))
    (refine AW.seq_k ?_; intro K hK)
    refine AW.region ?_
    refine awP (op_assign rfl rfl) ?_
    refine AWL.nil ?_
    (refine hK _ ?_; clear hK K; (try simp only [nA, Nat.reduceBEq, Nat.reduceEqDiff, ↓reduceIte, Nat.reduceAdd, Nat.reduceSub]))
    skip
    refine AW.ret ?_; (try simp only [thenE, inBlk, Nat.reduceEqDiff, ↓reduceIte]); rw [le_yes hc1 hnl hi.2]; exact RQ.of0 rfl (.tmp (Nat.le_of_ble_eq_true rfl) rfl rfl .nil)
theorem C42 {a b : List Op} (h1 : a.length ≤ 1000000) : Fn Tryd.prog 42 [] [.ro (a.map Op.av), .ro (b.map Op.av)] [.v (.bool (listEq opEq a b))] [] := by
  refine Spec.body Tryd.func42 rfl Tryd.ntmps42 (by simp) rfl ?_; intro S0 own0 v0 w0 gl
  (refine AW.seq_k ?_; intro K hK)
  refine AW.region ?_
  refine awP (op_assign rfl rfl) ?_
  refine AWL.nil ?_
  (refine hK _ ?_; clear hK K; (try simp only [nA, Nat.reduceBEq, Nat.reduceEqDiff, ↓reduceIte, Nat.reduceAdd, Nat.reduceSub]))
  (refine AW.seq_k ?_; intro K hK)
  (refine AW.seq_k ?_; intro K hK)
  refine AW.region ?_
  refine awP (op_move rfl rfl) ?_
  refine awP (op_len_ro (n := a.length) rfl rfl Tryd.underlying33 (.inr (.inl ⟨_, rfl, by simp⟩))) ?_
  refine awP (op_move rfl rfl) ?_
  refine awP (op_len_ro (n := b.length) rfl rfl Tryd.underlying33 (.inr (.inl ⟨_, rfl, by simp⟩))) ?_
  (first | refine awP (op_neq rfl rfl rfl) ?_ | refine awP (op_sneq rfl rfl rfl) ?_)
  refine AWL.nil ?_
  (refine hK _ ?_; clear hK K; (try simp only [nA, Nat.reduceBEq, Nat.reduceEqDiff, ↓reduceIte, Nat.reduceAdd, Nat.reduceSub]))
  refine AW.cond rfl rfl rfl (fun hc => ?_) (fun hc => ?_)
  ·
   (skip); have hc1 := hc; skip
   (refine AW.seq_k ?_; intro K hK)
   refine AW.region ?_
   refine awP (op_assign rfl rfl) ?_
   refine AWL.nil ?_
   (refine hK _ ?_; clear hK K; (try simp only [nA, Nat.reduceBEq, Nat.reduceEqDiff, ↓reduceIte, Nat.reduceAdd, Nat.reduceSub]))
   skip
   refine AW.ret ?_; (try simp only [thenE, inBlk, Nat.reduceEqDiff, ↓reduceIte]); rw [le_ne hc1]; exact RQ.of0 rfl (.tmp (Nat.le_of_ble_eq_true rfl) rfl rfl .nil)
  ·
   (skip); have hc1 := hc; have hle : a.length = b.length := (by have e : (a.length : Int) = b.length := (by simpa using hc1); omega)
   refine AW.skip ?_
   (refine hK _ ?_; clear hK K; (try simp only [nA, Nat.reduceBEq, Nat.reduceEqDiff, ↓reduceIte, Nat.reduceAdd, Nat.reduceSub]))
   (refine AW.seq_k ?_; intro K hK)
   (refine AW.seq_k ?_; intro K hK)
   refine AW.region ?_
   refine awP (op_move rfl rfl) ?_
   refine awP (op_len_ro (n := a.length) rfl rfl Tryd.underlying33 (.inr (.inl ⟨_, rfl, by simp⟩))) ?_
   refine awP (op_move rfl rfl) ?_
   refine AWL.nil ?_
   (refine hK _ ?_; clear hK K; (try simp only [nA, Nat.reduceBEq, Nat.reduceEqDiff, ↓reduceIte, Nat.reduceAdd, Nat.reduceSub]))
   refine AW.block ?_
   refine AW.loopI (fun i => [(0, .ro (a.map Op.av)), (1, .ro (b.map Op.av)), (12, .v (.int .i64 a.length)), (13, .v (.int .i64 (i : Nat)))]) (fun i => ⟨[], 1⟩) (fun i => i ≤ a.length ∧ ∀ k, k < i → opEq (a.getD k default) (b.getD k default) = true) (fun i => a.length - i) 0 (by simp) ⟨rfl, rfl, rfl, rfl, trivial⟩ rfl ?_; intro i ρ hi; simp only [updL]; (try simp only [nA, Nat.reduceBEq, Nat.reduceEqDiff, ↓reduceIte, Nat.reduceAdd, Nat.reduceSub])
   (refine AW.seq_k ?_; intro K hK)
   refine AW.region ?_
   refine awP (op_lss rfl rfl rfl) ?_
   refine AWL.nil ?_
   (refine hK _ ?_; clear hK K; (try simp only [nA, Nat.reduceBEq, Nat.reduceEqDiff, ↓reduceIte, Nat.reduceAdd, Nat.reduceSub]))
   (refine AW.seq_k ?_; intro K hK)
   refine AW.cond rfl rfl rfl (fun hc => ?_) (fun hc => ?_)
   ·
    (skip); have hc2 := hc; have hlt : i < a.length := (by simpa using hc2)
    refine AW.skip ?_
    (refine hK _ ?_; clear hK K; (try simp only [nA, Nat.reduceBEq, Nat.reduceEqDiff, ↓reduceIte, Nat.reduceAdd, Nat.reduceSub]))
    (refine AW.seq_k ?_; intro K hK)
    refine AW.block ?_
    (refine AW.seq_k ?_; intro K hK)
    refine AW.region ?_
    refine awP (op_move rfl rfl) ?_
    refine awP (op_assign rfl rfl) ?_
    refine AWL.nil ?_
    (refine hK _ ?_; clear hK K; (try simp only [nA, Nat.reduceBEq, Nat.reduceEqDiff, ↓reduceIte, Nat.reduceAdd, Nat.reduceSub]))
    (refine AW.seq_k ?_; intro K hK)
    refine AW.quiet mix (by kernel_rfl) ?_
    refine aqP (op_move rfl rfl) ?_
    refine aqP (op_move rfl rfl) ?_
    refine aqP (op_ia_ro i rfl (.inl rfl) rfl Tryd.underlying33 rfl (get_mapD (by omega)) (by exact sz32) (Nat.le_of_ble_eq_true rfl)) ?_
    (first | refine aqR (op_load_ptr rfl rfl rfl rfl ag32 sz32 (Nat.le_of_ble_eq_true rfl) rfl) ?_ | refine aqR (op_load_rop rfl rfl ag32 sz32 (Nat.le_of_ble_eq_true rfl) (by decide) rfl) ?_)
    refine aqP (op_move rfl rfl) ?_
    refine aqP (op_move rfl rfl) ?_
    refine aqP (op_ia_ro i rfl (.inl rfl) rfl Tryd.underlying33 rfl (get_mapD (by omega)) (by exact sz32) (Nat.le_of_ble_eq_true rfl)) ?_
    (first | refine aqR (op_load_ptr rfl rfl rfl rfl ag32 sz32 (Nat.le_of_ble_eq_true rfl) rfl) ?_ | refine aqR (op_load_rop rfl rfl ag32 sz32 (Nat.le_of_ble_eq_true rfl) (by decide) rfl) ?_)
    refine aqP (op_neq32 (p := a.getD i default) (q := b.getD i default) rfl rfl rfl) ?_; (try simp only [nA, Nat.reduceBEq, Nat.reduceEqDiff, ↓reduceIte, Nat.reduceAdd, Nat.reduceSub])
    refine AQ.nil ?_
    (refine hK _ ?_; clear hK K; (try simp only [nA, Nat.reduceBEq, Nat.reduceEqDiff, ↓reduceIte, Nat.reduceAdd, Nat.reduceSub]))
    refine AW.cond rfl rfl rfl (fun hc => ?_) (fun hc => ?_)
    ·
     (skip); have hc3 := hc; skip
     (refine AW.seq_k ?_; intro K hK)
     refine AW.region ?_
     refine awP (op_assign rfl rfl) ?_
     refine AWL.nil ?_
     (refine hK _ ?_; clear hK K; (try simp only [nA, Nat.reduceBEq, Nat.reduceEqDiff, ↓reduceIte, Nat.reduceAdd, Nat.reduceSub]))
     skip
     refine AW.ret ?_; (try simp only [thenE, inBlk, Nat.reduceEqDiff, ↓reduceIte]); rw [le_no hlt hc3]; exact RQ.of0 rfl (.tmp (Nat.le_of_ble_eq_true rfl) rfl rfl .nil)
    ·
     (skip); have hc3 := hc; skip
     refine AW.skip ?_
     (try simp only [thenE, inBlk, Nat.reduceEqDiff, ↓reduceIte])
     (refine hK _ ?_; clear hK K; (try simp only [nA, Nat.reduceBEq, Nat.reduceEqDiff, ↓reduceIte, Nat.reduceAdd, Nat.reduceSub]))
     refine AW.region ?_
     (first | refine awP (op_addi rfl rfl rfl (by omega)) ?_ | refine awP (op_add rfl rfl rfl rfl) ?_)
     refine awP (op_move rfl rfl) ?_
     skip
     refine AWL.nil ?_
     refine ⟨i + 1, ⟨by omega, all_b_step hi.2 (by simpa using hc3)⟩, by omega, ⟨rfl, rfl, rfl, rfl, trivial⟩, (by first | rfl | trivial), (by first | rfl | trivial)⟩
   ·
    (skip); have hc2 := hc; have hnl : ¬ i < a.length := (by simpa using hc2)
    refine AW.exit ?_; (try simp only [thenE, inBlk, Nat.reduceEqDiff, ↓reduceIte])
    clear hK K
    (refine hK _ ?_; clear hK K; (try simp only [nA, Nat.reduceBEq, Nat.reduceEqDiff, ↓reduceIte, Nat.reduceAdd, Nat.reduceSub]))
    (refine AW.seq_k ?_; intro K hK)
    refine AW.region ?_
    refine awP (op_assign rfl rfl) ?_
    refine AWL.nil ?_
    (refine hK _ ?_; clear hK K; (try simp only [nA, Nat.reduceBEq, Nat.reduceEqDiff, ↓reduceIte, Nat.reduceAdd, Nat.reduceSub]))
    skip
    refine AW.ret ?_; (try simp only [thenE, inBlk, Nat.reduceEqDiff, ↓reduceIte]); rw [le_yes hc1 hnl hi.2]; exact RQ.of0 rfl (.tmp (Nat.le_of_ble_eq_true rfl) rfl rfl .nil)
end Go.Proofs.YtfmnaigedgmhoaaDoor
namespace Go.Proofs.YtfmnaigedgmhoaaDoor
open Go.RowKit
set_option linter.unusedSimpArgs false
set_option linter.unusedVariables false
set_option maxRecDepth 100000
def sameE (a b : Ev) : Bool := (((((((((((decide (a.kind = b.kind) && decide (a.time = b.time)) && (a.text.toList == b.text.toList)) && plEq a.plate b.plate) && decide (a.node = b.node)) && decide (a.image = b.image)) && (a.clear == b.clear)) && listEq rpEq a.reports b.reports) && rvEq a.rev b.rev) && decide (a.device = b.device)) && opEq a.op b.op) && listEq opEq a.ops b.ops) && flEq a.fl b.fl
theorem C17r {a b : Ev} (h1 : a.reports.length ≤ 1000000) (h2 : a.ops.length ≤ 1000000) : Fn Tryd.prog 17 [] [.agg a.av, .agg b.av] [.v (.bool (sameE a b))] [] := by
  refine Spec.body Tryd.func17 rfl Tryd.ntmps17 (by simp) rfl ?_; intro S0 own0 v0 w0 gl
  (refine AW.seq_k ?_; intro K hK)
  refine AW.region ?_
  refine awJ (op_box rfl rfl rfl sz35 rfl) ?_; (try simp only [nA, Nat.reduceBEq, Nat.reduceEqDiff, ↓reduceIte, Nat.reduceAdd, Nat.reduceSub])
  refine awJ (op_box rfl rfl rfl sz35 rfl) ?_; (try simp only [nA, Nat.reduceBEq, Nat.reduceEqDiff, ↓reduceIte, Nat.reduceAdd, Nat.reduceSub])
  refine awP (op_assign rfl rfl) ?_
  refine AWL.nil ?_
  (refine hK _ ?_; clear hK K; (try simp only [nA, Nat.reduceBEq, Nat.reduceEqDiff, ↓reduceIte, Nat.reduceAdd, Nat.reduceSub]))
  (refine AW.seq_k ?_; intro K hK)
  refine AW.region (AWL.quiet ?_)
  (first | refine aqP (op_fa_ptr rfl rfl rfl fl35_0 (by exact sz3) (by decide) rfl) ?_ | refine aqP (op_fa_rop rfl rfl fl35_0 (by exact sz3) (by decide) (Nat.le_of_ble_eq_true rfl) rfl) ?_)
  (first | refine aqR (op_load_ptr1 rfl rfl rfl rfl ag3 rfl rfl) ?_ | refine aqR (op_load_rop1 rfl rfl ag3) ?_)
  (first | refine aqP (op_fa_ptr rfl rfl rfl fl35_0 (by exact sz3) (by decide) rfl) ?_ | refine aqP (op_fa_rop rfl rfl fl35_0 (by exact sz3) (by decide) (Nat.le_of_ble_eq_true rfl) rfl) ?_)
  (first | refine aqR (op_load_ptr1 rfl rfl rfl rfl ag3 rfl rfl) ?_ | refine aqR (op_load_rop1 rfl rfl ag3) ?_)
  (first | refine aqP (op_eql rfl rfl rfl) ?_ | refine aqP (op_seql rfl rfl rfl) ?_)
  refine aqP (op_move rfl rfl) ?_
  refine' aqAnd' [_, _, _, _, _] [11,12,13,14,15] rfl rfl rfl rfl rfl rfl rfl rfl rfl rfl rfl rfl (fun hb => ?_) ?_; rotate_left
  ·
   (try simp only [hcS] at hb)
   (first | refine aqP (op_fa_ptr rfl rfl rfl fl35_1 (by exact sz3) (by decide) rfl) ?_ | refine aqP (op_fa_rop rfl rfl fl35_1 (by exact sz3) (by decide) (Nat.le_of_ble_eq_true rfl) rfl) ?_)
   (first | refine aqR (op_load_ptr1 rfl rfl rfl rfl ag3 rfl rfl) ?_ | refine aqR (op_load_rop1 rfl rfl ag3) ?_)
   (first | refine aqP (op_fa_ptr rfl rfl rfl fl35_1 (by exact sz3) (by decide) rfl) ?_ | refine aqP (op_fa_rop rfl rfl fl35_1 (by exact sz3) (by decide) (Nat.le_of_ble_eq_true rfl) rfl) ?_)
   (first | refine aqR (op_load_ptr1 rfl rfl rfl rfl ag3 rfl rfl) ?_ | refine aqR (op_load_rop1 rfl rfl ag3) ?_)
   (first | refine aqP (op_eql rfl rfl rfl) ?_ | refine aqP (op_seql rfl rfl rfl) ?_)
   (refine aqSeg rfl rfl rfl ?_; repeat (first | exact fun _ _ => rfl | refine upd_out rfl ?_ | refine era_out rfl ?_))
  (try simp only [nA, Nat.reduceBEq, Nat.reduceEqDiff, ↓reduceIte, Nat.reduceAdd, Nat.reduceSub])
  refine aqP (op_move rfl rfl) ?_
  refine' aqAnd' [_, _, _, _, _] [18,19,20,21,22] rfl rfl rfl rfl rfl rfl rfl rfl rfl rfl rfl rfl (fun hb => ?_) ?_; rotate_left
  ·
   (try simp only [hcS] at hb)
   (first | refine aqP (op_fa_ptr rfl rfl rfl fl35_2 (by exact sz9) (by decide) rfl) ?_ | refine aqP (op_fa_rop rfl rfl fl35_2 (by exact sz9) (by decide) (Nat.le_of_ble_eq_true rfl) rfl) ?_)
   (first | refine aqR (op_load_ptr1 rfl rfl rfl rfl ag9 rfl rfl) ?_ | refine aqR (op_load_rop1 rfl rfl ag9) ?_)
   (first | refine aqP (op_fa_ptr rfl rfl rfl fl35_2 (by exact sz9) (by decide) rfl) ?_ | refine aqP (op_fa_rop rfl rfl fl35_2 (by exact sz9) (by decide) (Nat.le_of_ble_eq_true rfl) rfl) ?_)
   (first | refine aqR (op_load_ptr1 rfl rfl rfl rfl ag9 rfl rfl) ?_ | refine aqR (op_load_rop1 rfl rfl ag9) ?_)
   (first | refine aqP (op_eql rfl rfl rfl) ?_ | refine aqP (op_seql rfl rfl rfl) ?_)
   (refine aqSeg rfl rfl rfl ?_; repeat (first | exact fun _ _ => rfl | refine upd_out rfl ?_ | refine era_out rfl ?_))
  (try simp only [nA, Nat.reduceBEq, Nat.reduceEqDiff, ↓reduceIte, Nat.reduceAdd, Nat.reduceSub])
  refine aqP (op_move rfl rfl) ?_
  refine' aqAnd' [_, _, _, _, _] [25,26,27,28,29] rfl rfl rfl rfl rfl rfl rfl rfl rfl rfl rfl rfl (fun hb => ?_) ?_; rotate_left
  ·
   (try simp only [hcS] at hb)
   (first | refine aqP (op_fa_ptr rfl rfl rfl fl35_3 (by exact sz23) (by decide) rfl) ?_ | refine aqP (op_fa_rop rfl rfl fl35_3 (by exact sz23) (by decide) (Nat.le_of_ble_eq_true rfl) rfl) ?_)
   (first | refine aqR (op_load_ptr rfl rfl rfl rfl ag23 sz23 (Nat.le_of_ble_eq_true rfl) rfl) ?_ | refine aqR (op_load_rop rfl rfl ag23 sz23 (Nat.le_of_ble_eq_true rfl) (by decide) rfl) ?_)
   (first | refine aqP (op_fa_ptr rfl rfl rfl fl35_3 (by exact sz23) (by decide) rfl) ?_ | refine aqP (op_fa_rop rfl rfl fl35_3 (by exact sz23) (by decide) (Nat.le_of_ble_eq_true rfl) rfl) ?_)
   (first | refine aqR (op_load_ptr rfl rfl rfl rfl ag23 sz23 (Nat.le_of_ble_eq_true rfl) rfl) ?_ | refine aqR (op_load_rop rfl rfl ag23 sz23 (Nat.le_of_ble_eq_true rfl) (by decide) rfl) ?_)
   refine aqP (op_eqP23 (p := a.plate) (q := b.plate) rfl rfl rfl) ?_; (try simp only [nA, Nat.reduceBEq, Nat.reduceEqDiff, ↓reduceIte, Nat.reduceAdd, Nat.reduceSub])
   (refine aqSeg rfl rfl rfl ?_; repeat (first | exact fun _ _ => rfl | refine upd_out rfl ?_ | refine era_out rfl ?_))
  (try simp only [nA, Nat.reduceBEq, Nat.reduceEqDiff, ↓reduceIte, Nat.reduceAdd, Nat.reduceSub])
  refine aqP (op_move rfl rfl) ?_
  refine' aqAnd' [_, _, _, _, _] [32,33,34,35,36] rfl rfl rfl rfl rfl rfl rfl rfl rfl rfl rfl rfl (fun hb => ?_) ?_; rotate_left
  ·
   (try simp only [hcS] at hb)
   (first | refine aqP (op_fa_ptr rfl rfl rfl fl35_4 (by exact sz3) (by decide) rfl) ?_ | refine aqP (op_fa_rop rfl rfl fl35_4 (by exact sz3) (by decide) (Nat.le_of_ble_eq_true rfl) rfl) ?_)
   (first | refine aqR (op_load_ptr1 rfl rfl rfl rfl ag3 rfl rfl) ?_ | refine aqR (op_load_rop1 rfl rfl ag3) ?_)
   (first | refine aqP (op_fa_ptr rfl rfl rfl fl35_4 (by exact sz3) (by decide) rfl) ?_ | refine aqP (op_fa_rop rfl rfl fl35_4 (by exact sz3) (by decide) (Nat.le_of_ble_eq_true rfl) rfl) ?_)
   (first | refine aqR (op_load_ptr1 rfl rfl rfl rfl ag3 rfl rfl) ?_ | refine aqR (op_load_rop1 rfl rfl ag3) ?_)
   (first | refine aqP (op_eql rfl rfl rfl) ?_ | refine aqP (op_seql rfl rfl rfl) ?_)
   (refine aqSeg rfl rfl rfl ?_; repeat (first | exact fun _ _ => rfl | refine upd_out rfl ?_ | refine era_out rfl ?_))
  (try simp only [nA, Nat.reduceBEq, Nat.reduceEqDiff, ↓reduceIte, Nat.reduceAdd, Nat.reduceSub])
  refine aqP (op_move rfl rfl) ?_
  refine' aqAnd' [_, _, _, _, _] [39,40,41,42,43] rfl rfl rfl rfl rfl rfl rfl rfl rfl rfl rfl rfl (fun hb => ?_) ?_; rotate_left
  ·
   (try simp only [hcS] at hb)
   (first | refine aqP (op_fa_ptr rfl rfl rfl fl35_5 (by exact sz3) (by decide) rfl) ?_ | refine aqP (op_fa_rop rfl rfl fl35_5 (by exact sz3) (by decide) (Nat.le_of_ble_eq_true rfl) rfl) ?_)
   (first | refine aqR (op_load_ptr1 rfl rfl rfl rfl ag3 rfl rfl) ?_ | refine aqR (op_load_rop1 rfl rfl ag3) ?_)
   (first | refine aqP (op_fa_ptr rfl rfl rfl fl35_5 (by exact sz3) (by decide) rfl) ?_ | refine aqP (op_fa_rop rfl rfl fl35_5 (by exact sz3) (by decide) (Nat.le_of_ble_eq_true rfl) rfl) ?_)
   (first | refine aqR (op_load_ptr1 rfl rfl rfl rfl ag3 rfl rfl) ?_ | refine aqR (op_load_rop1 rfl rfl ag3) ?_)
   (first | refine aqP (op_eql rfl rfl rfl) ?_ | refine aqP (op_seql rfl rfl rfl) ?_)
   (refine aqSeg rfl rfl rfl ?_; repeat (first | exact fun _ _ => rfl | refine upd_out rfl ?_ | refine era_out rfl ?_))
  (try simp only [nA, Nat.reduceBEq, Nat.reduceEqDiff, ↓reduceIte, Nat.reduceAdd, Nat.reduceSub])
  refine aqP (op_move rfl rfl) ?_
  refine' aqAnd' [_, _, _, _, _] [46,47,48,49,50] rfl rfl rfl rfl rfl rfl rfl rfl rfl rfl rfl rfl (fun hb => ?_) ?_; rotate_left
  ·
   (try simp only [hcS] at hb)
   (first | refine aqP (op_fa_ptr rfl rfl rfl fl35_6 (by exact sz4) (by decide) rfl) ?_ | refine aqP (op_fa_rop rfl rfl fl35_6 (by exact sz4) (by decide) (Nat.le_of_ble_eq_true rfl) rfl) ?_)
   (first | refine aqR (op_load_ptr1 rfl rfl rfl rfl ag4 rfl rfl) ?_ | refine aqR (op_load_rop1 rfl rfl ag4) ?_)
   (first | refine aqP (op_fa_ptr rfl rfl rfl fl35_6 (by exact sz4) (by decide) rfl) ?_ | refine aqP (op_fa_rop rfl rfl fl35_6 (by exact sz4) (by decide) (Nat.le_of_ble_eq_true rfl) rfl) ?_)
   (first | refine aqR (op_load_ptr1 rfl rfl rfl rfl ag4 rfl rfl) ?_ | refine aqR (op_load_rop1 rfl rfl ag4) ?_)
   (first | refine aqP (op_eql rfl rfl rfl) ?_ | refine aqP (op_seql rfl rfl rfl) ?_ | refine aqP (op_beql rfl rfl rfl Tryd.underlying4) ?_)
   (refine aqSeg rfl rfl rfl ?_; repeat (first | exact fun _ _ => rfl | refine upd_out rfl ?_ | refine era_out rfl ?_))
  (try simp only [nA, Nat.reduceBEq, Nat.reduceEqDiff, ↓reduceIte, Nat.reduceAdd, Nat.reduceSub])
  refine aqP (op_move rfl rfl) ?_
  refine' aqAnd' [_, _, _, _, _] [53,54,55,56,57] rfl rfl rfl rfl rfl rfl rfl rfl rfl rfl rfl rfl (fun hb => ?_) ?_; rotate_left
  ·
   (try simp only [hcS] at hb)
   (first | refine aqP (op_fa_ptr rfl rfl rfl fl35_7 (by exact sz24) (by decide) rfl) ?_ | refine aqP (op_fa_rop rfl rfl fl35_7 (by exact sz24) (by decide) (Nat.le_of_ble_eq_true rfl) rfl) ?_)
   (first | refine aqR (op_load_ptr1 rfl rfl rfl rfl ag24 rfl rfl) ?_ | refine aqR (op_load_rop1 rfl rfl ag24) ?_)
   (first | refine aqP (op_fa_ptr rfl rfl rfl fl35_7 (by exact sz24) (by decide) rfl) ?_ | refine aqP (op_fa_rop rfl rfl fl35_7 (by exact sz24) (by decide) (Nat.le_of_ble_eq_true rfl) rfl) ?_)
   (first | refine aqR (op_load_ptr1 rfl rfl rfl rfl ag24 rfl rfl) ?_ | refine aqR (op_load_rop1 rfl rfl ag24) ?_)
   refine aqQ (op_callQ (b := true) rfl en41 (C41 (a := a.reports) (b := b.reports) h1) (RL.cons (by first | exact View.same rfl | exact View.nil | exact View.rof | exact View.src .ro | exact View.src .rof | exact View.src (.sl rfl rfl) | exact View.ptr rfl rfl rfl) (RL.cons (by first | exact View.same rfl | exact View.nil | exact View.rof | exact View.src .ro | exact View.src .rof | exact View.src (.sl rfl rfl) | exact View.ptr rfl rfl rfl) (RL.nil))) rfl) ?_; (try simp only [nA, Nat.reduceBEq, Nat.reduceEqDiff, ↓reduceIte, Nat.reduceAdd, Nat.reduceSub])
   (refine aqSeg rfl rfl rfl ?_; repeat (first | exact fun _ _ => rfl | refine upd_out rfl ?_ | refine era_out rfl ?_))
  (try simp only [nA, Nat.reduceBEq, Nat.reduceEqDiff, ↓reduceIte, Nat.reduceAdd, Nat.reduceSub])
  refine aqP (op_move rfl rfl) ?_
  refine' aqAnd' [_, _, _, _, _] [60,61,62,63,64] rfl rfl rfl rfl rfl rfl rfl rfl rfl rfl rfl rfl (fun hb => ?_) ?_; rotate_left
  ·
   (try simp only [hcS] at hb)
   (first | refine aqP (op_fa_ptr rfl rfl rfl fl35_8 (by exact sz28) (by decide) rfl) ?_ | refine aqP (op_fa_rop rfl rfl fl35_8 (by exact sz28) (by decide) (Nat.le_of_ble_eq_true rfl) rfl) ?_)
   (first | refine aqR (op_load_ptr rfl rfl rfl rfl ag28 sz28 (Nat.le_of_ble_eq_true rfl) rfl) ?_ | refine aqR (op_load_rop rfl rfl ag28 sz28 (Nat.le_of_ble_eq_true rfl) (by decide) rfl) ?_)
   (first | refine aqP (op_fa_ptr rfl rfl rfl fl35_8 (by exact sz28) (by decide) rfl) ?_ | refine aqP (op_fa_rop rfl rfl fl35_8 (by exact sz28) (by decide) (Nat.le_of_ble_eq_true rfl) rfl) ?_)
   (first | refine aqR (op_load_ptr rfl rfl rfl rfl ag28 sz28 (Nat.le_of_ble_eq_true rfl) rfl) ?_ | refine aqR (op_load_rop rfl rfl ag28 sz28 (Nat.le_of_ble_eq_true rfl) (by decide) rfl) ?_)
   refine aqP (op_eq28 (p := a.rev) (q := b.rev) rfl rfl rfl) ?_; (try simp only [nA, Nat.reduceBEq, Nat.reduceEqDiff, ↓reduceIte, Nat.reduceAdd, Nat.reduceSub])
   (refine aqSeg rfl rfl rfl ?_; repeat (first | exact fun _ _ => rfl | refine upd_out rfl ?_ | refine era_out rfl ?_))
  (try simp only [nA, Nat.reduceBEq, Nat.reduceEqDiff, ↓reduceIte, Nat.reduceAdd, Nat.reduceSub])
  refine aqP (op_move rfl rfl) ?_
  refine' aqAnd' [_, _, _, _, _] [67,68,69,70,71] rfl rfl rfl rfl rfl rfl rfl rfl rfl rfl rfl rfl (fun hb => ?_) ?_; rotate_left
  ·
   (try simp only [hcS] at hb)
   (first | refine aqP (op_fa_ptr rfl rfl rfl fl35_9 (by exact sz3) (by decide) rfl) ?_ | refine aqP (op_fa_rop rfl rfl fl35_9 (by exact sz3) (by decide) (Nat.le_of_ble_eq_true rfl) rfl) ?_)
   (first | refine aqR (op_load_ptr1 rfl rfl rfl rfl ag3 rfl rfl) ?_ | refine aqR (op_load_rop1 rfl rfl ag3) ?_)
   (first | refine aqP (op_fa_ptr rfl rfl rfl fl35_9 (by exact sz3) (by decide) rfl) ?_ | refine aqP (op_fa_rop rfl rfl fl35_9 (by exact sz3) (by decide) (Nat.le_of_ble_eq_true rfl) rfl) ?_)
   (first | refine aqR (op_load_ptr1 rfl rfl rfl rfl ag3 rfl rfl) ?_ | refine aqR (op_load_rop1 rfl rfl ag3) ?_)
   (first | refine aqP (op_eql rfl rfl rfl) ?_ | refine aqP (op_seql rfl rfl rfl) ?_)
   (refine aqSeg rfl rfl rfl ?_; repeat (first | exact fun _ _ => rfl | refine upd_out rfl ?_ | refine era_out rfl ?_))
  (try simp only [nA, Nat.reduceBEq, Nat.reduceEqDiff, ↓reduceIte, Nat.reduceAdd, Nat.reduceSub])
  refine aqP (op_move rfl rfl) ?_
  refine' aqAnd' [_, _, _, _, _] [74,75,76,77,78] rfl rfl rfl rfl rfl rfl rfl rfl rfl rfl rfl rfl (fun hb => ?_) ?_; rotate_left
  ·
   (try simp only [hcS] at hb)
   (first | refine aqP (op_fa_ptr rfl rfl rfl fl35_10 (by exact sz32) (by decide) rfl) ?_ | refine aqP (op_fa_rop rfl rfl fl35_10 (by exact sz32) (by decide) (Nat.le_of_ble_eq_true rfl) rfl) ?_)
   (first | refine aqR (op_load_ptr rfl rfl rfl rfl ag32 sz32 (Nat.le_of_ble_eq_true rfl) rfl) ?_ | refine aqR (op_load_rop rfl rfl ag32 sz32 (Nat.le_of_ble_eq_true rfl) (by decide) rfl) ?_)
   (first | refine aqP (op_fa_ptr rfl rfl rfl fl35_10 (by exact sz32) (by decide) rfl) ?_ | refine aqP (op_fa_rop rfl rfl fl35_10 (by exact sz32) (by decide) (Nat.le_of_ble_eq_true rfl) rfl) ?_)
   (first | refine aqR (op_load_ptr rfl rfl rfl rfl ag32 sz32 (Nat.le_of_ble_eq_true rfl) rfl) ?_ | refine aqR (op_load_rop rfl rfl ag32 sz32 (Nat.le_of_ble_eq_true rfl) (by decide) rfl) ?_)
   refine aqP (op_eq32 (p := a.op) (q := b.op) rfl rfl rfl) ?_; (try simp only [nA, Nat.reduceBEq, Nat.reduceEqDiff, ↓reduceIte, Nat.reduceAdd, Nat.reduceSub])
   (refine aqSeg rfl rfl rfl ?_; repeat (first | exact fun _ _ => rfl | refine upd_out rfl ?_ | refine era_out rfl ?_))
  (try simp only [nA, Nat.reduceBEq, Nat.reduceEqDiff, ↓reduceIte, Nat.reduceAdd, Nat.reduceSub])
  refine aqP (op_move rfl rfl) ?_
  refine' aqAnd' [_, _, _, _, _] [81,82,83,84,85] rfl rfl rfl rfl rfl rfl rfl rfl rfl rfl rfl rfl (fun hb => ?_) ?_; rotate_left
  ·
   (try simp only [hcS] at hb)
   (first | refine aqP (op_fa_ptr rfl rfl rfl fl35_11 (by exact sz33) (by decide) rfl) ?_ | refine aqP (op_fa_rop rfl rfl fl35_11 (by exact sz33) (by decide) (Nat.le_of_ble_eq_true rfl) rfl) ?_)
   (first | refine aqR (op_load_ptr1 rfl rfl rfl rfl ag33 rfl rfl) ?_ | refine aqR (op_load_rop1 rfl rfl ag33) ?_)
   (first | refine aqP (op_fa_ptr rfl rfl rfl fl35_11 (by exact sz33) (by decide) rfl) ?_ | refine aqP (op_fa_rop rfl rfl fl35_11 (by exact sz33) (by decide) (Nat.le_of_ble_eq_true rfl) rfl) ?_)
   (first | refine aqR (op_load_ptr1 rfl rfl rfl rfl ag33 rfl rfl) ?_ | refine aqR (op_load_rop1 rfl rfl ag33) ?_)
   refine aqQ (op_callQ (b := true) rfl en42 (C42 (a := a.ops) (b := b.ops) h2) (RL.cons (by first | exact View.same rfl | exact View.nil | exact View.rof | exact View.src .ro | exact View.src .rof | exact View.src (.sl rfl rfl) | exact View.ptr rfl rfl rfl) (RL.cons (by first | exact View.same rfl | exact View.nil | exact View.rof | exact View.src .ro | exact View.src .rof | exact View.src (.sl rfl rfl) | exact View.ptr rfl rfl rfl) (RL.nil))) rfl) ?_; (try simp only [nA, Nat.reduceBEq, Nat.reduceEqDiff, ↓reduceIte, Nat.reduceAdd, Nat.reduceSub])
   (refine aqSeg rfl rfl rfl ?_; repeat (first | exact fun _ _ => rfl | refine upd_out rfl ?_ | refine era_out rfl ?_))
  (try simp only [nA, Nat.reduceBEq, Nat.reduceEqDiff, ↓reduceIte, Nat.reduceAdd, Nat.reduceSub])
  refine aqP (op_move rfl rfl) ?_
  refine' aqAnd' [_, _, _, _, _] [88,89,90,91,92] rfl rfl rfl rfl rfl rfl rfl rfl rfl rfl rfl rfl (fun hb => ?_) ?_; rotate_left
  ·
   (try simp only [hcS] at hb)
   (first | refine aqP (op_fa_ptr rfl rfl rfl fl35_12 (by exact sz26) (by decide) rfl) ?_ | refine aqP (op_fa_rop rfl rfl fl35_12 (by exact sz26) (by decide) (Nat.le_of_ble_eq_true rfl) rfl) ?_)
   (first | refine aqR (op_load_ptr rfl rfl rfl rfl ag26 sz26 (Nat.le_of_ble_eq_true rfl) rfl) ?_ | refine aqR (op_load_rop rfl rfl ag26 sz26 (Nat.le_of_ble_eq_true rfl) (by decide) rfl) ?_)
   (first | refine aqP (op_fa_ptr rfl rfl rfl fl35_12 (by exact sz26) (by decide) rfl) ?_ | refine aqP (op_fa_rop rfl rfl fl35_12 (by exact sz26) (by decide) (Nat.le_of_ble_eq_true rfl) rfl) ?_)
   (first | refine aqR (op_load_ptr rfl rfl rfl rfl ag26 sz26 (Nat.le_of_ble_eq_true rfl) rfl) ?_ | refine aqR (op_load_rop rfl rfl ag26 sz26 (Nat.le_of_ble_eq_true rfl) (by decide) rfl) ?_)
   refine aqP (op_eq26 (p := a.fl) (q := b.fl) rfl rfl rfl) ?_; (try simp only [nA, Nat.reduceBEq, Nat.reduceEqDiff, ↓reduceIte, Nat.reduceAdd, Nat.reduceSub])
   (refine aqSeg rfl rfl rfl ?_; repeat (first | exact fun _ _ => rfl | refine upd_out rfl ?_ | refine era_out rfl ?_))
  (try simp only [nA, Nat.reduceBEq, Nat.reduceEqDiff, ↓reduceIte, Nat.reduceAdd, Nat.reduceSub])
  refine aqP (op_assign rfl rfl) ?_
  refine AQ.nil ?_
  (refine hK _ ?_; clear hK K; (try simp only [nA, Nat.reduceBEq, Nat.reduceEqDiff, ↓reduceIte, Nat.reduceAdd, Nat.reduceSub]))
  skip
  refine AW.ret ?_; (try simp only [thenE, inBlk, Nat.reduceEqDiff, ↓reduceIte]); exact RQ.of0 rfl (.tmp (Nat.le_of_ble_eq_true rfl) rfl rfl .nil)
theorem sameE_eq (a b : Ev) : sameE a b = sameB a b := by
  have e : sameE a b = true ↔ a = b := by
    obtain ⟨a1, a2, a3, a4, a5, a6, a7, a8, a9, a10, a11, a12, a13⟩ := a
    obtain ⟨b1, b2, b3, b4, b5, b6, b7, b8, b9, b10, b11, b12, b13⟩ := b
    unfold sameE
    simp only [Bool.and_eq_true, decide_eq_true_eq, beq_iff_eq, str_eq, plEq_iff, flEq_iff, rvEq_iff, opEq_iff, listEq_iff rpEq_iff, listEq_iff opEq_iff, Ev.mk.injEq, and_assoc]
  unfold sameB
  rw [Bool.eq_iff_iff, e]
  exact (@decide_eq_true_iff _ (Classical.propDecidable _)).symm
theorem C17 {a b : Ev} (h1 : a.reports.length ≤ 1000000) (h2 : a.ops.length ≤ 1000000) : Fn Tryd.prog 17 [] [.agg a.av, .agg b.av] [.v (.bool (sameB a b))] [] := by
  rw [← sameE_eq]; exact C17r h1 h2
def headNe (a b : Ev) : Bool := ((((((((((((!decide (a.kind = b.kind)) || !decide (a.time = b.time)) || !(a.text.toList == b.text.toList)) || !plEq a.plate b.plate) || !decide (a.node = b.node)) || !decide (a.image = b.image)) || (a.clear != b.clear)) || !rvEq a.rev b.rev) || !decide (a.device = b.device)) || !opEq a.op b.op) || !flEq a.fl b.fl) || !decide ((a.reports.length : Int) = (b.reports.length : Int))) || !listEq opEq a.ops b.ops
def sameR (a b : Ev) : Bool := !headNe a b && (List.range a.reports.length).all fun i => rpEq (a.reports.getD i default) (b.reports.getD i default)
end Go.Proofs.YtfmnaigedgmhoaaDoor
namespace Go.Proofs.YtfmnaigedgmhoaaDoor
open Go.RowKit
set_option linter.unusedSimpArgs false
set_option linter.unusedVariables false
set_option maxRecDepth 100000
def fldI (k : Int) : List Int := (fieldsL k).map fun n => ((n : Nat) : Int)
theorem fldI_row {k : Int} (h : 1 ≤ k ∧ k ≤ 14) : gRows[k.toNat]? = some (fldI k) := by
  rcases kind_cases h with rfl | rfl | rfl | rfl | rfl | rfl | rfl | rfl | rfl | rfl | rfl | rfl | rfl | rfl <;> rfl
theorem fields_bd (k : Int) : ∀ p ∈ fieldsL k, p ≤ 11 := by
  rcases fields_len k with e | ⟨p, e⟩ | ⟨_, e⟩ | ⟨_, e⟩ | ⟨_, e⟩ | ⟨_, e⟩ | ⟨_, e⟩ | ⟨_, e⟩ <;> rw [e]
  · intro p hp; cases hp
  · intro q hq
    obtain rfl : q = p := by simpa using hq
    have h2 : q ∈ fieldsL k := by rw [e]; simp
    by_cases hk : 1 ≤ k ∧ k ≤ 14
    · rcases kind_cases hk with rfl | rfl | rfl | rfl | rfl | rfl | rfl | rfl | rfl | rfl | rfl | rfl | rfl | rfl <;> simp [fieldsL] at h2 <;> omega
    · have : fieldsL k = [] := by unfold fieldsL; repeat rw [if_neg (by omega)]
      rw [this] at h2; cases h2
  all_goals decide
theorem fldI_bd {k : Int} {i : Nat} (h : i < (fldI k).length) : 0 ≤ (fldI k).getD i default ∧ (fldI k).getD i default ≤ 11 := by
  rw [getD_of h]
  obtain ⟨n, hn, e⟩ := List.mem_map.1 (List.getElem_mem h)
  have := fields_bd k n hn
  omega
theorem fldI_len (k : Int) : (fldI k).length ≤ 2 := by
  unfold fldI
  rw [List.length_map]
  rcases fields_len k with e | ⟨p, e⟩ | ⟨_, e⟩ | ⟨_, e⟩ | ⟨_, e⟩ | ⟨_, e⟩ | ⟨_, e⟩ | ⟨_, e⟩ <;> rw [e] <;> simp
def clrI (z : Ev) (l : List Int) (x : Ev) : Ev := l.foldl (fun y p => setP p.toNat z y) x
theorem clr_step {z x y : Ev} {l : List Int} {i p : Nat} (h : i < l.length) (hy : y = clrI z (l.take i) x) (hp : l.getD i default = (p : Int)) : setP p z y = clrI z (l.take (i + 1)) x := by
  unfold clrI at *
  rw [List.take_add_one, List.getElem?_eq_getElem h, List.foldl_append, ← hy]
  rw [getD_of h] at hp
  simp [hp]
theorem clr_kind (z : Ev) : ∀ (l : List Int) (x : Ev), (clrI z l x).kind = x.kind
  | [], _ => rfl
  | p :: l, x => (clr_kind z l _).trans set_kind
theorem set_back : ∀ (p : Nat) (x z : Ev), setP p x (setP p z x) = x
  | 0, _, _ => rfl
  | 1, _, _ => rfl
  | 2, _, _ => rfl
  | 3, _, _ => rfl
  | 4, _, _ => rfl
  | 5, _, _ => rfl
  | 6, _, _ => rfl
  | 7, _, _ => rfl
  | 8, _, _ => rfl
  | 9, _, _ => rfl
  | 10, _, _ => rfl
  | 11, _, _ => rfl
  | _ + 12, _, _ => rfl
theorem spare_iff (x : Ev) : clrI (ev0 x.kind) (fldI x.kind) x = ev0 x.kind ↔ x = onlyV x := by
  have two : ∀ p q, p ≠ q → fieldsL x.kind = [p, q] → (clrI (ev0 x.kind) (fldI x.kind) x = ev0 x.kind ↔ x = onlyV x) := fun p q hpq e => by
    unfold onlyV fldI
    rw [e]
    generalize ev0 x.kind = z
    show setP q z (setP p z x) = z ↔ x = setP q x (setP p x z)
    constructor
    · intro h
      have h2 : setP q x (setP p x (setP q z (setP p z x))) = x := by rw [set_set hpq, set_back, set_back]
      rw [h] at h2
      exact h2.symm
    · intro h
      have h2 : setP q z (setP p z (setP q x (setP p x z))) = z := by rw [set_set hpq, set_back, set_back]
      rw [← h] at h2
      exact h2
  rcases fields_len x.kind with e | ⟨p, e⟩ | ⟨_, e⟩ | ⟨_, e⟩ | ⟨_, e⟩ | ⟨_, e⟩ | ⟨_, e⟩ | ⟨_, e⟩
  · unfold onlyV fldI
    rw [e]
    exact Iff.rfl
  · unfold onlyV fldI
    rw [e]
    generalize ev0 x.kind = z
    show setP p z x = z ↔ x = setP p x z
    constructor
    · intro h
      have h2 := set_back p x z
      rw [h] at h2
      exact h2.symm
    · intro h
      have h2 := set_back p z x
      rw [← h] at h2
      exact h2
  · exact two _ _ (by decide) e
  · exact two _ _ (by decide) e
  · exact two _ _ (by decide) e
  · exact two _ _ (by decide) e
  · exact two _ _ (by decide) e
  · exact two _ _ (by decide) e
theorem le_rs (y : Ev) : RL Le1 [evC y (.v (.slice none 0 0)) (.ro (y.ops.map Op.av))].flatten [({ y with reports := [] } : Ev).av].flatten := by
  repeat (first | exact RL.nil | refine RL.cons Le1.same ?_ | refine RL.cons Le1.nil ?_)
theorem le_os (y : Ev) : RL Le1 [evC y (.ro (y.reports.map Report.av)) (.v (.slice none 0 0))].flatten [({ y with ops := [] } : Ev).av].flatten := by
  repeat (first | exact RL.nil | refine RL.cons Le1.same ?_ | refine RL.cons Le1.nil ?_)
theorem le_ev0 (k : Int) : RL Le1 (evC (ev0 k) (.v (.slice none 0 0)) (.v (.slice none 0 0))) (ev0 k).av := by
  repeat (first | exact RL.nil | refine RL.cons Le1.same ?_ | refine RL.cons Le1.nil ?_)
theorem clr_len (z : Ev) (hz : z.reports = [] ∧ z.ops = []) : ∀ (l : List Int) (x : Ev), (clrI z l x).reports.length ≤ x.reports.length ∧ (clrI z l x).ops.length ≤ x.ops.length
  | [], _ => ⟨Nat.le_refl _, Nat.le_refl _⟩
  | p :: l, x => by
    have h := clr_len z hz l (setP p.toNat z x)
    have h2 : (setP p.toNat z x).reports.length ≤ x.reports.length ∧ (setP p.toNat z x).ops.length ≤ x.ops.length := by
      unfold setP
      split <;> simp [hz.1, hz.2]
    exact ⟨Nat.le_trans h.1 h2.1, Nat.le_trans h.2 h2.2⟩
theorem C38r {x : Ev} (hk : 1 ≤ x.kind ∧ x.kind ≤ 14) (h1 : x.reports.length ≤ 1000000) (h2 : x.ops.length ≤ 1000000) : Fn Tryd.prog 38 [] [.agg x.av] [.v (.bool (sameB (clrI (ev0 x.kind) (fldI x.kind) x) (ev0 x.kind)))] [] := by
  refine Spec.body Tryd.func38 rfl Tryd.ntmps38 (by simp) rfl ?_; intro S0 own0 v0 w0 gl
  (refine AW.seq_k ?_; intro K hK)
  refine AW.region ?_
  refine awJ (op_box rfl rfl rfl sz35 rfl) ?_; (try simp only [nA, Nat.reduceBEq, Nat.reduceEqDiff, ↓reduceIte, Nat.reduceAdd, Nat.reduceSub])
  refine awP (op_assign rfl rfl) ?_
  refine AWL.nil ?_
  (refine hK _ ?_; clear hK K; (try simp only [nA, Nat.reduceBEq, Nat.reduceEqDiff, ↓reduceIte, Nat.reduceAdd, Nat.reduceSub]))
  (refine AW.seq_k ?_; intro K hK)
  (refine AW.seq_k ?_; intro K hK)
  refine AW.region ?_
  (first | refine awP (op_fa_ptr rfl rfl rfl fl35_0 (by exact sz3) (by decide) rfl) ?_ | refine awP (op_fa_rop rfl rfl fl35_0 (by exact sz3) (by decide) (Nat.le_of_ble_eq_true rfl) rfl) ?_)
  (first | refine awR (op_load_ptr1 rfl rfl rfl rfl ag3 rfl rfl) ?_ | refine awR (op_load_rop1 rfl rfl ag3) ?_)
  refine awP (op_ia_glob x.kind.toNat rfl rfl Tryd.underlying79 (by omega) (fldI_row hk) (by exact sz78)) ?_
  (first | refine awR (op_load_ptr1 rfl rfl rfl rfl ag78 rfl rfl) ?_ | refine awR (op_load_rop1 rfl rfl ag78) ?_)
  refine awP (op_len_ro (n := (fldI x.kind).length) rfl rfl Tryd.underlying78 (.inr (.inl ⟨_, rfl, by simp⟩))) ?_
  refine awP (op_move rfl rfl) ?_
  refine AWL.nil ?_
  (refine hK _ ?_; clear hK K; (try simp only [nA, Nat.reduceBEq, Nat.reduceEqDiff, ↓reduceIte, Nat.reduceAdd, Nat.reduceSub]))
  refine AW.block ?_
  refine AW.loopI (fun (q : Nat × Ev) => [(1, .ptr 0 1 0 0), (8, .ro ((fldI x.kind).map fun n => [.v (.int .i64 n)])), (9, .v (.int .i64 (fldI x.kind).length)), (10, .v (.int .i64 (q.1 : Nat)))]) (fun q => ⟨[(1, .own 35 [q.2.av])], 2⟩) (fun q => q.1 ≤ (fldI x.kind).length ∧ q.2 = clrI (ev0 x.kind) ((fldI x.kind).take q.1) x) (fun q => (fldI x.kind).length - q.1) (0, x) ⟨by simp, rfl⟩ ⟨rfl, rfl, rfl, rfl, trivial⟩ rfl ?_; rintro ⟨i, y⟩ ρ ⟨hi, hy⟩; dsimp only at hi hy ⊢; simp only [updL]; (try simp only [nA, Nat.reduceBEq, Nat.reduceEqDiff, ↓reduceIte, Nat.reduceAdd, Nat.reduceSub]); have hyk : y.kind = x.kind := (by rw [hy]; exact clr_kind _ _ _); have hyl := clr_len (ev0 x.kind) ⟨rfl, rfl⟩ ((fldI x.kind).take i) x; rw [← hy] at hyl
  (refine AW.seq_k ?_; intro K hK)
  refine AW.region ?_
  refine awP (op_lss rfl rfl rfl) ?_
  refine AWL.nil ?_
  (refine hK _ ?_; clear hK K; (try simp only [nA, Nat.reduceBEq, Nat.reduceEqDiff, ↓reduceIte, Nat.reduceAdd, Nat.reduceSub]))
  (refine AW.seq_k ?_; intro K hK)
  refine AW.cond rfl rfl rfl (fun hc => ?_) (fun hc => ?_)
  ·
   (skip); have hc1 := hc; have hlt : i < (fldI x.kind).length := (by simpa using hc1); have hpb := fldI_bd hlt; have hfl := fldI_len x.kind
   refine AW.skip ?_
   (refine hK _ ?_; clear hK K; (try simp only [nA, Nat.reduceBEq, Nat.reduceEqDiff, ↓reduceIte, Nat.reduceAdd, Nat.reduceSub]))
   (refine AW.seq_k ?_; intro K hK)
   refine AW.block ?_
   (refine AW.seq_k ?_; intro K hK)
   refine AW.region ?_
   refine awP (op_ia_ro i rfl (.inl rfl) rfl Tryd.underlying78 rfl (get_mapD (by omega)) (by exact sz80) (Nat.le_of_ble_eq_true rfl)) ?_
   (first | refine awR (op_load_ptr1 rfl rfl rfl rfl ag80 rfl rfl) ?_ | refine awR (op_load_rop1 rfl rfl ag80) ?_)
   refine awP (op_assign rfl rfl) ?_
   refine AWL.nil ?_
   (refine hK _ ?_; clear hK K; (try simp only [nA, Nat.reduceBEq, Nat.reduceEqDiff, ↓reduceIte, Nat.reduceAdd, Nat.reduceSub]))
   (refine AW.seq_k ?_; intro K hK)
   refine AW.region ?_
   refine awP (op_move rfl rfl) ?_
   refine AWL.nil ?_
   (refine hK _ ?_; clear hK K; (try simp only [nA, Nat.reduceBEq, Nat.reduceEqDiff, ↓reduceIte, Nat.reduceAdd, Nat.reduceSub]))
   refine AW.block ?_
   (refine AW.seq_k ?_; intro K hK)
   refine AW.region ?_
   (first | refine awP (op_eql rfl rfl rfl) ?_ | refine awP (op_seql rfl rfl rfl) ?_)
   refine awP (op_assign rfl rfl) ?_
   refine AWL.nil ?_
   (refine hK _ ?_; clear hK K; (try simp only [nA, Nat.reduceBEq, Nat.reduceEqDiff, ↓reduceIte, Nat.reduceAdd, Nat.reduceSub]))
   refine AW.cond rfl rfl rfl (fun hc => ?_) (fun hc => ?_)
   ·
    (skip); have hc2 := hc; have hp : (fldI x.kind).getD i default = 0 := (by simpa using hc2)
    refine AW.region ?_
    (first | refine awP (op_fa_ptr rfl rfl rfl fl35_1 (by exact sz3) (by decide) rfl) ?_ | refine awP (op_fa_rop rfl rfl fl35_1 (by exact sz3) (by decide) (Nat.le_of_ble_eq_true rfl) rfl) ?_)
    refine awJ (op_store rfl rfl rfl rfl rfl rfl sz3 rfl (Nat.le_of_ble_eq_true rfl) rfl) ?_; (try simp only [nA, Nat.reduceBEq, Nat.reduceEqDiff, ↓reduceIte, Nat.reduceAdd, Nat.reduceSub])
    refine AWL.nil ?_
    (try simp only [thenE, inBlk, Nat.reduceEqDiff, ↓reduceIte])
    (try simp only [thenE, inBlk, Nat.reduceEqDiff, ↓reduceIte])
    (refine hK _ ?_; clear hK K; (try simp only [nA, Nat.reduceBEq, Nat.reduceEqDiff, ↓reduceIte, Nat.reduceAdd, Nat.reduceSub]))
    refine AW.region ?_
    (first | refine awP (op_addi rfl rfl rfl (by omega)) ?_ | refine awP (op_add rfl rfl rfl rfl) ?_)
    refine awP (op_move rfl rfl) ?_
    skip
    refine AWL.nil ?_
    refine ⟨(i + 1, setP 0 (ev0 x.kind) y), ⟨by dsimp only; omega, clr_step hlt hy hp⟩, by dsimp only; omega, ⟨rfl, rfl, rfl, by dsimp only; exact congrArg (fun z => AV.v (.int .i64 z)) (by omega), trivial⟩, (by first | rfl | trivial), (by first | rfl | trivial)⟩
   ·
    (skip); have hc2 := hc; skip
    (refine AW.seq_k ?_; intro K hK)
    refine AW.region ?_
    (first | refine awP (op_eql rfl rfl rfl) ?_ | refine awP (op_seql rfl rfl rfl) ?_)
    refine awP (op_assign rfl rfl) ?_
    refine AWL.nil ?_
    (refine hK _ ?_; clear hK K; (try simp only [nA, Nat.reduceBEq, Nat.reduceEqDiff, ↓reduceIte, Nat.reduceAdd, Nat.reduceSub]))
    refine AW.cond rfl rfl rfl (fun hc => ?_) (fun hc => ?_)
    ·
     (skip); have hc3 := hc; have hp : (fldI x.kind).getD i default = 1 := (by simpa using hc3)
     refine AW.region ?_
     (first | refine awP (op_fa_ptr rfl rfl rfl fl35_2 (by exact sz9) (by decide) rfl) ?_ | refine awP (op_fa_rop rfl rfl fl35_2 (by exact sz9) (by decide) (Nat.le_of_ble_eq_true rfl) rfl) ?_)
     refine awJ (op_store rfl rfl rfl rfl rfl rfl sz9 rfl (Nat.le_of_ble_eq_true rfl) rfl) ?_; (try simp only [nA, Nat.reduceBEq, Nat.reduceEqDiff, ↓reduceIte, Nat.reduceAdd, Nat.reduceSub])
     refine AWL.nil ?_
     (try simp only [thenE, inBlk, Nat.reduceEqDiff, ↓reduceIte])
     (try simp only [thenE, inBlk, Nat.reduceEqDiff, ↓reduceIte])
     (refine hK _ ?_; clear hK K; (try simp only [nA, Nat.reduceBEq, Nat.reduceEqDiff, ↓reduceIte, Nat.reduceAdd, Nat.reduceSub]))
     refine AW.region ?_
     (first | refine awP (op_addi rfl rfl rfl (by omega)) ?_ | refine awP (op_add rfl rfl rfl rfl) ?_)
     refine awP (op_move rfl rfl) ?_
     skip
     refine AWL.nil ?_
     refine ⟨(i + 1, setP 1 (ev0 x.kind) y), ⟨by dsimp only; omega, clr_step hlt hy hp⟩, by dsimp only; omega, ⟨rfl, rfl, rfl, by dsimp only; exact congrArg (fun z => AV.v (.int .i64 z)) (by omega), trivial⟩, (by first | rfl | trivial), (by first | rfl | trivial)⟩
    ·
     (skip); have hc3 := hc; skip
     (refine AW.seq_k ?_; intro K hK)
     refine AW.region ?_
     (first | refine awP (op_eql rfl rfl rfl) ?_ | refine awP (op_seql rfl rfl rfl) ?_)
     refine awP (op_assign rfl rfl) ?_
     refine AWL.nil ?_
     (refine hK _ ?_; clear hK K; (try simp only [nA, Nat.reduceBEq, Nat.reduceEqDiff, ↓reduceIte, Nat.reduceAdd, Nat.reduceSub]))
     refine AW.cond rfl rfl rfl (fun hc => ?_) (fun hc => ?_)
     ·
      (skip); have hc4 := hc; have hp : (fldI x.kind).getD i default = 2 := (by simpa using hc4)
      refine AW.region ?_
      refine awP (op_build2 (xs := [.v (.int .i64 0), .v (.int .i64 0), .v (.int .i64 0)]) rfl pl23 ze23 [] rfl rfl rfl) ?_
      (first | refine awP (op_fa_ptr rfl rfl rfl fl35_3 (by exact sz23) (by decide) rfl) ?_ | refine awP (op_fa_rop rfl rfl fl35_3 (by exact sz23) (by decide) (Nat.le_of_ble_eq_true rfl) rfl) ?_)
      refine awJ (op_store rfl rfl rfl rfl rfl rfl sz23 rfl (Nat.le_of_ble_eq_true rfl) rfl) ?_; (try simp only [nA, Nat.reduceBEq, Nat.reduceEqDiff, ↓reduceIte, Nat.reduceAdd, Nat.reduceSub])
      refine AWL.nil ?_
      (try simp only [thenE, inBlk, Nat.reduceEqDiff, ↓reduceIte])
      (try simp only [thenE, inBlk, Nat.reduceEqDiff, ↓reduceIte])
      (refine hK _ ?_; clear hK K; (try simp only [nA, Nat.reduceBEq, Nat.reduceEqDiff, ↓reduceIte, Nat.reduceAdd, Nat.reduceSub]))
      refine AW.region ?_
      (first | refine awP (op_addi rfl rfl rfl (by omega)) ?_ | refine awP (op_add rfl rfl rfl rfl) ?_)
      refine awP (op_move rfl rfl) ?_
      skip
      refine AWL.nil ?_
      refine ⟨(i + 1, setP 2 (ev0 x.kind) y), ⟨by dsimp only; omega, clr_step hlt hy hp⟩, by dsimp only; omega, ⟨rfl, rfl, rfl, by dsimp only; exact congrArg (fun z => AV.v (.int .i64 z)) (by omega), trivial⟩, (by first | rfl | trivial), (by first | rfl | trivial)⟩
     ·
      (skip); have hc4 := hc; skip
      (refine AW.seq_k ?_; intro K hK)
      refine AW.region ?_
      (first | refine awP (op_eql rfl rfl rfl) ?_ | refine awP (op_seql rfl rfl rfl) ?_)
      refine awP (op_assign rfl rfl) ?_
      refine AWL.nil ?_
      (refine hK _ ?_; clear hK K; (try simp only [nA, Nat.reduceBEq, Nat.reduceEqDiff, ↓reduceIte, Nat.reduceAdd, Nat.reduceSub]))
      refine AW.cond rfl rfl rfl (fun hc => ?_) (fun hc => ?_)
      ·
       (skip); have hc5 := hc; have hp : (fldI x.kind).getD i default = 3 := (by simpa using hc5)
       refine AW.region ?_
       (first | refine awP (op_fa_ptr rfl rfl rfl fl35_4 (by exact sz3) (by decide) rfl) ?_ | refine awP (op_fa_rop rfl rfl fl35_4 (by exact sz3) (by decide) (Nat.le_of_ble_eq_true rfl) rfl) ?_)
       refine awJ (op_store rfl rfl rfl rfl rfl rfl sz3 rfl (Nat.le_of_ble_eq_true rfl) rfl) ?_; (try simp only [nA, Nat.reduceBEq, Nat.reduceEqDiff, ↓reduceIte, Nat.reduceAdd, Nat.reduceSub])
       refine AWL.nil ?_
       (try simp only [thenE, inBlk, Nat.reduceEqDiff, ↓reduceIte])
       (try simp only [thenE, inBlk, Nat.reduceEqDiff, ↓reduceIte])
       (refine hK _ ?_; clear hK K; (try simp only [nA, Nat.reduceBEq, Nat.reduceEqDiff, ↓reduceIte, Nat.reduceAdd, Nat.reduceSub]))
       refine AW.region ?_
       (first | refine awP (op_addi rfl rfl rfl (by omega)) ?_ | refine awP (op_add rfl rfl rfl rfl) ?_)
       refine awP (op_move rfl rfl) ?_
       skip
       refine AWL.nil ?_
       refine ⟨(i + 1, setP 3 (ev0 x.kind) y), ⟨by dsimp only; omega, clr_step hlt hy hp⟩, by dsimp only; omega, ⟨rfl, rfl, rfl, by dsimp only; exact congrArg (fun z => AV.v (.int .i64 z)) (by omega), trivial⟩, (by first | rfl | trivial), (by first | rfl | trivial)⟩
      ·
       (skip); have hc5 := hc; skip
       (refine AW.seq_k ?_; intro K hK)
       refine AW.region ?_
       (first | refine awP (op_eql rfl rfl rfl) ?_ | refine awP (op_seql rfl rfl rfl) ?_)
       refine awP (op_assign rfl rfl) ?_
       refine AWL.nil ?_
       (refine hK _ ?_; clear hK K; (try simp only [nA, Nat.reduceBEq, Nat.reduceEqDiff, ↓reduceIte, Nat.reduceAdd, Nat.reduceSub]))
       refine AW.cond rfl rfl rfl (fun hc => ?_) (fun hc => ?_)
       ·
        (skip); have hc6 := hc; have hp : (fldI x.kind).getD i default = 4 := (by simpa using hc6)
        refine AW.region ?_
        (first | refine awP (op_fa_ptr rfl rfl rfl fl35_5 (by exact sz3) (by decide) rfl) ?_ | refine awP (op_fa_rop rfl rfl fl35_5 (by exact sz3) (by decide) (Nat.le_of_ble_eq_true rfl) rfl) ?_)
        refine awJ (op_store rfl rfl rfl rfl rfl rfl sz3 rfl (Nat.le_of_ble_eq_true rfl) rfl) ?_; (try simp only [nA, Nat.reduceBEq, Nat.reduceEqDiff, ↓reduceIte, Nat.reduceAdd, Nat.reduceSub])
        refine AWL.nil ?_
        (try simp only [thenE, inBlk, Nat.reduceEqDiff, ↓reduceIte])
        (try simp only [thenE, inBlk, Nat.reduceEqDiff, ↓reduceIte])
        (refine hK _ ?_; clear hK K; (try simp only [nA, Nat.reduceBEq, Nat.reduceEqDiff, ↓reduceIte, Nat.reduceAdd, Nat.reduceSub]))
        refine AW.region ?_
        (first | refine awP (op_addi rfl rfl rfl (by omega)) ?_ | refine awP (op_add rfl rfl rfl rfl) ?_)
        refine awP (op_move rfl rfl) ?_
        skip
        refine AWL.nil ?_
        refine ⟨(i + 1, setP 4 (ev0 x.kind) y), ⟨by dsimp only; omega, clr_step hlt hy hp⟩, by dsimp only; omega, ⟨rfl, rfl, rfl, by dsimp only; exact congrArg (fun z => AV.v (.int .i64 z)) (by omega), trivial⟩, (by first | rfl | trivial), (by first | rfl | trivial)⟩
       ·
        (skip); have hc6 := hc; skip
        (refine AW.seq_k ?_; intro K hK)
        refine AW.region ?_
        (first | refine awP (op_eql rfl rfl rfl) ?_ | refine awP (op_seql rfl rfl rfl) ?_)
        refine awP (op_assign rfl rfl) ?_
        refine AWL.nil ?_
        (refine hK _ ?_; clear hK K; (try simp only [nA, Nat.reduceBEq, Nat.reduceEqDiff, ↓reduceIte, Nat.reduceAdd, Nat.reduceSub]))
        refine AW.cond rfl rfl rfl (fun hc => ?_) (fun hc => ?_)
        ·
         (skip); have hc7 := hc; have hp : (fldI x.kind).getD i default = 5 := (by simpa using hc7)
         refine AW.region ?_
         (first | refine awP (op_fa_ptr rfl rfl rfl fl35_6 (by exact sz4) (by decide) rfl) ?_ | refine awP (op_fa_rop rfl rfl fl35_6 (by exact sz4) (by decide) (Nat.le_of_ble_eq_true rfl) rfl) ?_)
         refine awJ (op_store rfl rfl rfl rfl rfl rfl sz4 rfl (Nat.le_of_ble_eq_true rfl) rfl) ?_; (try simp only [nA, Nat.reduceBEq, Nat.reduceEqDiff, ↓reduceIte, Nat.reduceAdd, Nat.reduceSub])
         refine AWL.nil ?_
         (try simp only [thenE, inBlk, Nat.reduceEqDiff, ↓reduceIte])
         (try simp only [thenE, inBlk, Nat.reduceEqDiff, ↓reduceIte])
         (refine hK _ ?_; clear hK K; (try simp only [nA, Nat.reduceBEq, Nat.reduceEqDiff, ↓reduceIte, Nat.reduceAdd, Nat.reduceSub]))
         refine AW.region ?_
         (first | refine awP (op_addi rfl rfl rfl (by omega)) ?_ | refine awP (op_add rfl rfl rfl rfl) ?_)
         refine awP (op_move rfl rfl) ?_
         skip
         refine AWL.nil ?_
         refine ⟨(i + 1, setP 5 (ev0 x.kind) y), ⟨by dsimp only; omega, clr_step hlt hy hp⟩, by dsimp only; omega, ⟨rfl, rfl, rfl, by dsimp only; exact congrArg (fun z => AV.v (.int .i64 z)) (by omega), trivial⟩, (by first | rfl | trivial), (by first | rfl | trivial)⟩
        ·
         (skip); have hc7 := hc; skip
         (refine AW.seq_k ?_; intro K hK)
         refine AW.region ?_
         (first | refine awP (op_eql rfl rfl rfl) ?_ | refine awP (op_seql rfl rfl rfl) ?_)
         refine awP (op_assign rfl rfl) ?_
         refine AWL.nil ?_
         (refine hK _ ?_; clear hK K; (try simp only [nA, Nat.reduceBEq, Nat.reduceEqDiff, ↓reduceIte, Nat.reduceAdd, Nat.reduceSub]))
         refine AW.cond rfl rfl rfl (fun hc => ?_) (fun hc => ?_)
         ·
          (skip); have hc8 := hc; have hp : (fldI x.kind).getD i default = 6 := (by simpa using hc8)
          refine AW.region ?_
          (first | refine awP (op_fa_ptr rfl rfl rfl fl35_7 (by exact sz24) (by decide) rfl) ?_ | refine awP (op_fa_rop rfl rfl fl35_7 (by exact sz24) (by decide) (Nat.le_of_ble_eq_true rfl) rfl) ?_)
          refine awJ (op_store rfl rfl rfl rfl rfl rfl sz24 rfl (Nat.le_of_ble_eq_true rfl) rfl) ?_; (try simp only [nA, Nat.reduceBEq, Nat.reduceEqDiff, ↓reduceIte, Nat.reduceAdd, Nat.reduceSub]); refine AWL.gh (Gh.slot (r := 0) (es' := [({ y with reports := [] } : Ev).av]) rfl rfl (le_rs y)) ?_; (try simp only [nA, Nat.reduceBEq, Nat.reduceEqDiff, ↓reduceIte, Nat.reduceAdd, Nat.reduceSub])
          refine AWL.nil ?_
          (try simp only [thenE, inBlk, Nat.reduceEqDiff, ↓reduceIte])
          (try simp only [thenE, inBlk, Nat.reduceEqDiff, ↓reduceIte])
          (refine hK _ ?_; clear hK K; (try simp only [nA, Nat.reduceBEq, Nat.reduceEqDiff, ↓reduceIte, Nat.reduceAdd, Nat.reduceSub]))
          refine AW.region ?_
          (first | refine awP (op_addi rfl rfl rfl (by omega)) ?_ | refine awP (op_add rfl rfl rfl rfl) ?_)
          refine awP (op_move rfl rfl) ?_
          skip
          refine AWL.nil ?_
          refine ⟨(i + 1, setP 6 (ev0 x.kind) y), ⟨by dsimp only; omega, clr_step hlt hy hp⟩, by dsimp only; omega, ⟨rfl, rfl, rfl, by dsimp only; exact congrArg (fun z => AV.v (.int .i64 z)) (by omega), trivial⟩, (by first | rfl | trivial), (by first | rfl | trivial)⟩
         ·
          (skip); have hc8 := hc; skip
          (refine AW.seq_k ?_; intro K hK)
          refine AW.region ?_
          (first | refine awP (op_eql rfl rfl rfl) ?_ | refine awP (op_seql rfl rfl rfl) ?_)
          refine awP (op_assign rfl rfl) ?_
          refine AWL.nil ?_
          (refine hK _ ?_; clear hK K; (try simp only [nA, Nat.reduceBEq, Nat.reduceEqDiff, ↓reduceIte, Nat.reduceAdd, Nat.reduceSub]))
          refine AW.cond rfl rfl rfl (fun hc => ?_) (fun hc => ?_)
          ·
           (skip); have hc9 := hc; have hp : (fldI x.kind).getD i default = 7 := (by simpa using hc9)
           refine AW.region ?_
           refine awP (op_build2 (xs := [.v (.int .i64 0), .v (.int .i64 0), .v (.string ⟨#[]⟩), .v (.int .i64 0), .v (.string ⟨#[]⟩), .v (.int .i64 0)]) rfl pl28 ze28 [] rfl rfl rfl) ?_
           (first | refine awP (op_fa_ptr rfl rfl rfl fl35_8 (by exact sz28) (by decide) rfl) ?_ | refine awP (op_fa_rop rfl rfl fl35_8 (by exact sz28) (by decide) (Nat.le_of_ble_eq_true rfl) rfl) ?_)
           refine awJ (op_store rfl rfl rfl rfl rfl rfl sz28 rfl (Nat.le_of_ble_eq_true rfl) rfl) ?_; (try simp only [nA, Nat.reduceBEq, Nat.reduceEqDiff, ↓reduceIte, Nat.reduceAdd, Nat.reduceSub])
           refine AWL.nil ?_
           (try simp only [thenE, inBlk, Nat.reduceEqDiff, ↓reduceIte])
           (try simp only [thenE, inBlk, Nat.reduceEqDiff, ↓reduceIte])
           (refine hK _ ?_; clear hK K; (try simp only [nA, Nat.reduceBEq, Nat.reduceEqDiff, ↓reduceIte, Nat.reduceAdd, Nat.reduceSub]))
           refine AW.region ?_
           (first | refine awP (op_addi rfl rfl rfl (by omega)) ?_ | refine awP (op_add rfl rfl rfl rfl) ?_)
           refine awP (op_move rfl rfl) ?_
           skip
           refine AWL.nil ?_
           refine ⟨(i + 1, setP 7 (ev0 x.kind) y), ⟨by dsimp only; omega, clr_step hlt hy hp⟩, by dsimp only; omega, ⟨rfl, rfl, rfl, by dsimp only; exact congrArg (fun z => AV.v (.int .i64 z)) (by omega), trivial⟩, (by first | rfl | trivial), (by first | rfl | trivial)⟩
          ·
           (skip); have hc9 := hc; skip
           (refine AW.seq_k ?_; intro K hK)
           refine AW.region ?_
           (first | refine awP (op_eql rfl rfl rfl) ?_ | refine awP (op_seql rfl rfl rfl) ?_)
           refine awP (op_assign rfl rfl) ?_
           refine AWL.nil ?_
           (refine hK _ ?_; clear hK K; (try simp only [nA, Nat.reduceBEq, Nat.reduceEqDiff, ↓reduceIte, Nat.reduceAdd, Nat.reduceSub]))
           refine AW.cond rfl rfl rfl (fun hc => ?_) (fun hc => ?_)
           ·
            (skip); have hc10 := hc; have hp : (fldI x.kind).getD i default = 8 := (by simpa using hc10)
            refine AW.region ?_
            (first | refine awP (op_fa_ptr rfl rfl rfl fl35_9 (by exact sz3) (by decide) rfl) ?_ | refine awP (op_fa_rop rfl rfl fl35_9 (by exact sz3) (by decide) (Nat.le_of_ble_eq_true rfl) rfl) ?_)
            refine awJ (op_store rfl rfl rfl rfl rfl rfl sz3 rfl (Nat.le_of_ble_eq_true rfl) rfl) ?_; (try simp only [nA, Nat.reduceBEq, Nat.reduceEqDiff, ↓reduceIte, Nat.reduceAdd, Nat.reduceSub])
            refine AWL.nil ?_
            (try simp only [thenE, inBlk, Nat.reduceEqDiff, ↓reduceIte])
            (try simp only [thenE, inBlk, Nat.reduceEqDiff, ↓reduceIte])
            (refine hK _ ?_; clear hK K; (try simp only [nA, Nat.reduceBEq, Nat.reduceEqDiff, ↓reduceIte, Nat.reduceAdd, Nat.reduceSub]))
            refine AW.region ?_
            (first | refine awP (op_addi rfl rfl rfl (by omega)) ?_ | refine awP (op_add rfl rfl rfl rfl) ?_)
            refine awP (op_move rfl rfl) ?_
            skip
            refine AWL.nil ?_
            refine ⟨(i + 1, setP 8 (ev0 x.kind) y), ⟨by dsimp only; omega, clr_step hlt hy hp⟩, by dsimp only; omega, ⟨rfl, rfl, rfl, by dsimp only; exact congrArg (fun z => AV.v (.int .i64 z)) (by omega), trivial⟩, (by first | rfl | trivial), (by first | rfl | trivial)⟩
           ·
            (skip); have hc10 := hc; skip
            (refine AW.seq_k ?_; intro K hK)
            refine AW.region ?_
            (first | refine awP (op_eql rfl rfl rfl) ?_ | refine awP (op_seql rfl rfl rfl) ?_)
            refine awP (op_assign rfl rfl) ?_
            refine AWL.nil ?_
            (refine hK _ ?_; clear hK K; (try simp only [nA, Nat.reduceBEq, Nat.reduceEqDiff, ↓reduceIte, Nat.reduceAdd, Nat.reduceSub]))
            refine AW.cond rfl rfl rfl (fun hc => ?_) (fun hc => ?_)
            ·
             (skip); have hc11 := hc; have hp : (fldI x.kind).getD i default = 9 := (by simpa using hc11)
             refine AW.region ?_
             refine awP (op_build2 (xs := [.v (.int .i64 0), .v (.int .i64 0), .v (.int .i64 0), .v (.int .i64 0), .v (.int .i64 0), .v (.int .i64 0), .v (.int .i64 0), .v (.int .i64 0), .v (.int .i64 0), .v (.int .i64 0)]) rfl pl32 ze32 [] rfl rfl rfl) ?_
             (first | refine awP (op_fa_ptr rfl rfl rfl fl35_10 (by exact sz32) (by decide) rfl) ?_ | refine awP (op_fa_rop rfl rfl fl35_10 (by exact sz32) (by decide) (Nat.le_of_ble_eq_true rfl) rfl) ?_)
             refine awJ (op_store rfl rfl rfl rfl rfl rfl sz32 rfl (Nat.le_of_ble_eq_true rfl) rfl) ?_; (try simp only [nA, Nat.reduceBEq, Nat.reduceEqDiff, ↓reduceIte, Nat.reduceAdd, Nat.reduceSub])
             refine AWL.nil ?_
             (try simp only [thenE, inBlk, Nat.reduceEqDiff, ↓reduceIte])
             (try simp only [thenE, inBlk, Nat.reduceEqDiff, ↓reduceIte])
             (refine hK _ ?_; clear hK K; (try simp only [nA, Nat.reduceBEq, Nat.reduceEqDiff, ↓reduceIte, Nat.reduceAdd, Nat.reduceSub]))
             refine AW.region ?_
             (first | refine awP (op_addi rfl rfl rfl (by omega)) ?_ | refine awP (op_add rfl rfl rfl rfl) ?_)
             refine awP (op_move rfl rfl) ?_
             skip
             refine AWL.nil ?_
             refine ⟨(i + 1, setP 9 (ev0 x.kind) y), ⟨by dsimp only; omega, clr_step hlt hy hp⟩, by dsimp only; omega, ⟨rfl, rfl, rfl, by dsimp only; exact congrArg (fun z => AV.v (.int .i64 z)) (by omega), trivial⟩, (by first | rfl | trivial), (by first | rfl | trivial)⟩
            ·
             (skip); have hc11 := hc; skip
             (refine AW.seq_k ?_; intro K hK)
             refine AW.region ?_
             (first | refine awP (op_eql rfl rfl rfl) ?_ | refine awP (op_seql rfl rfl rfl) ?_)
             refine awP (op_assign rfl rfl) ?_
             refine AWL.nil ?_
             (refine hK _ ?_; clear hK K; (try simp only [nA, Nat.reduceBEq, Nat.reduceEqDiff, ↓reduceIte, Nat.reduceAdd, Nat.reduceSub]))
             refine AW.cond rfl rfl rfl (fun hc => ?_) (fun hc => ?_)
             ·
              (skip); have hc12 := hc; have hp : (fldI x.kind).getD i default = 10 := (by simpa using hc12)
              refine AW.region ?_
              (first | refine awP (op_fa_ptr rfl rfl rfl fl35_11 (by exact sz33) (by decide) rfl) ?_ | refine awP (op_fa_rop rfl rfl fl35_11 (by exact sz33) (by decide) (Nat.le_of_ble_eq_true rfl) rfl) ?_)
              refine awJ (op_store rfl rfl rfl rfl rfl rfl sz33 rfl (Nat.le_of_ble_eq_true rfl) rfl) ?_; (try simp only [nA, Nat.reduceBEq, Nat.reduceEqDiff, ↓reduceIte, Nat.reduceAdd, Nat.reduceSub]); refine AWL.gh (Gh.slot (r := 0) (es' := [({ y with ops := [] } : Ev).av]) rfl rfl (le_os y)) ?_; (try simp only [nA, Nat.reduceBEq, Nat.reduceEqDiff, ↓reduceIte, Nat.reduceAdd, Nat.reduceSub])
              refine AWL.nil ?_
              (try simp only [thenE, inBlk, Nat.reduceEqDiff, ↓reduceIte])
              (try simp only [thenE, inBlk, Nat.reduceEqDiff, ↓reduceIte])
              (refine hK _ ?_; clear hK K; (try simp only [nA, Nat.reduceBEq, Nat.reduceEqDiff, ↓reduceIte, Nat.reduceAdd, Nat.reduceSub]))
              refine AW.region ?_
              (first | refine awP (op_addi rfl rfl rfl (by omega)) ?_ | refine awP (op_add rfl rfl rfl rfl) ?_)
              refine awP (op_move rfl rfl) ?_
              skip
              refine AWL.nil ?_
              refine ⟨(i + 1, setP 10 (ev0 x.kind) y), ⟨by dsimp only; omega, clr_step hlt hy hp⟩, by dsimp only; omega, ⟨rfl, rfl, rfl, by dsimp only; exact congrArg (fun z => AV.v (.int .i64 z)) (by omega), trivial⟩, (by first | rfl | trivial), (by first | rfl | trivial)⟩
             ·
              (skip); have hc12 := hc; skip
              (refine AW.seq_k ?_; intro K hK)
              refine AW.region ?_
              (first | refine awP (op_eql rfl rfl rfl) ?_ | refine awP (op_seql rfl rfl rfl) ?_)
              refine awP (op_assign rfl rfl) ?_
              refine AWL.nil ?_
              (refine hK _ ?_; clear hK K; (try simp only [nA, Nat.reduceBEq, Nat.reduceEqDiff, ↓reduceIte, Nat.reduceAdd, Nat.reduceSub]))
              refine AW.cond rfl rfl rfl (fun hc => ?_) (fun hc => ?_)
              ·
               (skip); have hc13 := hc; have hp : (fldI x.kind).getD i default = 11 := (by simpa using hc13)
               refine AW.region ?_
               refine awP (op_build2 (xs := [.v (.string ⟨#[]⟩), .v (.int .i64 0), .v (.string ⟨#[]⟩), .v (.int .i64 0)]) rfl pl26 ze26 [] rfl rfl rfl) ?_
               (first | refine awP (op_fa_ptr rfl rfl rfl fl35_12 (by exact sz26) (by decide) rfl) ?_ | refine awP (op_fa_rop rfl rfl fl35_12 (by exact sz26) (by decide) (Nat.le_of_ble_eq_true rfl) rfl) ?_)
               refine awJ (op_store rfl rfl rfl rfl rfl rfl sz26 rfl (Nat.le_of_ble_eq_true rfl) rfl) ?_; (try simp only [nA, Nat.reduceBEq, Nat.reduceEqDiff, ↓reduceIte, Nat.reduceAdd, Nat.reduceSub])
               refine AWL.nil ?_
               (try simp only [thenE, inBlk, Nat.reduceEqDiff, ↓reduceIte])
               (try simp only [thenE, inBlk, Nat.reduceEqDiff, ↓reduceIte])
               (refine hK _ ?_; clear hK K; (try simp only [nA, Nat.reduceBEq, Nat.reduceEqDiff, ↓reduceIte, Nat.reduceAdd, Nat.reduceSub]))
               refine AW.region ?_
               (first | refine awP (op_addi rfl rfl rfl (by omega)) ?_ | refine awP (op_add rfl rfl rfl rfl) ?_)
               refine awP (op_move rfl rfl) ?_
               skip
               refine AWL.nil ?_
               refine ⟨(i + 1, setP 11 (ev0 x.kind) y), ⟨by dsimp only; omega, clr_step hlt hy hp⟩, by dsimp only; omega, ⟨rfl, rfl, rfl, by dsimp only; exact congrArg (fun z => AV.v (.int .i64 z)) (by omega), trivial⟩, (by first | rfl | trivial), (by first | rfl | trivial)⟩
              ·
               (skip); have hc13 := hc; skip
               refine AW.skip ?_
               (try simp only [thenE, inBlk, Nat.reduceEqDiff, ↓reduceIte])
               (try simp only [thenE, inBlk, Nat.reduceEqDiff, ↓reduceIte])
               (refine hK _ ?_; clear hK K; (try simp only [nA, Nat.reduceBEq, Nat.reduceEqDiff, ↓reduceIte, Nat.reduceAdd, Nat.reduceSub]))
               refine AW.region ?_
               (first | refine awP (op_addi rfl rfl rfl (by omega)) ?_ | refine awP (op_add rfl rfl rfl rfl) ?_)
               refine awP (op_move rfl rfl) ?_
               skip
               refine AWL.nil ?_
               exfalso; simp only [decide_eq_false_iff_not] at hc2 hc3 hc4 hc5 hc6 hc7 hc8 hc9 hc10 hc11 hc12 hc13; omega
  ·
   (skip); have hc1 := hc; have hnl : ¬ i < (fldI x.kind).length := (by simpa using hc1); rw [List.take_of_length_le (by omega)] at hy
   refine AW.exit ?_; (try simp only [thenE, inBlk, Nat.reduceEqDiff, ↓reduceIte])
   clear hK K
   (refine hK _ ?_; clear hK K; (try simp only [nA, Nat.reduceBEq, Nat.reduceEqDiff, ↓reduceIte, Nat.reduceAdd, Nat.reduceSub]))
   (refine AW.seq_k ?_; intro K hK)
   refine AW.region ?_
   (first | refine awR (op_load_ptr rfl rfl rfl rfl ag35 sz35 (Nat.le_of_ble_eq_true rfl) rfl) ?_ | refine awR (op_load_rop rfl rfl ag35 sz35 (Nat.le_of_ble_eq_true rfl) (by decide) rfl) ?_)
   (first | refine awP (op_fa_ptr rfl rfl rfl fl35_0 (by exact sz3) (by decide) rfl) ?_ | refine awP (op_fa_rop rfl rfl fl35_0 (by exact sz3) (by decide) (Nat.le_of_ble_eq_true rfl) rfl) ?_)
   (first | refine awR (op_load_ptr1 rfl rfl rfl rfl ag3 rfl rfl) ?_ | refine awR (op_load_rop1 rfl rfl ag3) ?_)
   refine awP (op_build2 (xs := [_, .v (.int .i64 0), .v (.string ⟨#[]⟩), .v (.int .i64 0), .v (.int .i64 0), .v (.int .i64 0), .v (.int .i64 0), .v (.int .i64 0), .v (.bool false), .v (.slice none 0 0), .v (.int .i64 0), .v (.int .i64 0), .v (.string ⟨#[]⟩), .v (.int .i64 0), .v (.string ⟨#[]⟩), .v (.int .i64 0), .v (.int .i64 0), .v (.int .i64 0), .v (.int .i64 0), .v (.int .i64 0), .v (.int .i64 0), .v (.int .i64 0), .v (.int .i64 0), .v (.int .i64 0), .v (.int .i64 0), .v (.int .i64 0), .v (.int .i64 0), .v (.slice none 0 0), .v (.string ⟨#[]⟩), .v (.int .i64 0), .v (.string ⟨#[]⟩), .v (.int .i64 0)]) rfl pl35 ze35 [(0, [_])] rfl rfl rfl) ?_
   refine AWL.gh (Gh.tmp 59 (cs' := (ev0 y.kind).av) (Nat.le_of_ble_eq_true rfl) rfl (le_ev0 _)) ?_; (try simp only [nA, Nat.reduceBEq, Nat.reduceEqDiff, ↓reduceIte, Nat.reduceAdd, Nat.reduceSub]); refine awJ (OpQ.j (op_callQ (b := true) rfl en17 (C17 (a := y) (b := ev0 y.kind) (by omega) (by omega)) (RL.cons (by first | exact View.same rfl | exact View.nil | exact View.rof | exact View.src .ro | exact View.src .rof | exact View.src (.sl rfl rfl) | exact View.ptr rfl rfl rfl) (RL.cons (by first | exact View.same rfl | exact View.nil | exact View.rof | exact View.src .ro | exact View.src .rof | exact View.src (.sl rfl rfl) | exact View.ptr rfl rfl rfl) (RL.nil))) rfl)) ?_; (try simp only [nA, Nat.reduceBEq, Nat.reduceEqDiff, ↓reduceIte, Nat.reduceAdd, Nat.reduceSub])
   refine awP (op_assign rfl rfl) ?_
   refine AWL.nil ?_
   (refine hK _ ?_; clear hK K; (try simp only [nA, Nat.reduceBEq, Nat.reduceEqDiff, ↓reduceIte, Nat.reduceAdd, Nat.reduceSub]))
   skip
   refine AW.ret ?_; (try simp only [thenE, inBlk, Nat.reduceEqDiff, ↓reduceIte]); rw [← hy, ← hyk]; exact RQ.of0 rfl (.tmp (Nat.le_of_ble_eq_true rfl) rfl rfl .nil)
theorem C38 {x : Ev} (hk : 1 ≤ x.kind ∧ x.kind ≤ 14) (h1 : x.reports.length ≤ 1000000) (h2 : x.ops.length ≤ 1000000) : Fn Tryd.prog 38 [] [.agg x.av] [.v (.bool (sameB x (onlyV x)))] [] := by
  have e : sameB x (onlyV x) = sameB (clrI (ev0 x.kind) (fldI x.kind) x) (ev0 x.kind) := by
    unfold sameB
    rw [Bool.eq_iff_iff]
    exact (@decide_eq_true_iff _ (Classical.propDecidable _)).trans ((spare_iff x).symm.trans (@decide_eq_true_iff _ (Classical.propDecidable _)).symm)
  rw [e]; exact C38r hk h1 h2
end Go.Proofs.YtfmnaigedgmhoaaDoor
namespace Go.Proofs.YtfmnaigedgmhoaaDoor
open Go.RowKit
set_option linter.unusedSimpArgs false
set_option linter.unusedVariables false
set_option maxRecDepth 100000
structure Ev.Sm (x : Ev) : Prop where
  r : x.reports.length ≤ 1000000
  o : x.ops.length ≤ 1000000
  t : x.text.size ≤ 1000000
  rr : ∀ r ∈ x.reports, r.read.size ≤ 1000000
def chB (c : UInt8) : Bool := decide (c = 63) || dgB c
theorem chB_eq (c : UInt8) : (!decide ((c.toNat : Int) = 63) && (decide ((c.toNat : Int) < 48) || decide ((c.toNat : Int) > 57))) = !chB c := by
  have e : decide (c = 63) = decide ((c.toNat : Int) = 63) := decide_eq_decide.2 ⟨fun h => by subst h; rfl, fun h => UInt8.toNat_inj.1 (by show c.toNat = 63; omega)⟩
  unfold chB dgB
  rw [e]
  by_cases h1 : (c.toNat : Int) = 63
  · simp [h1]
  · by_cases h2 : (c.toNat : Int) < 48
    · simp [h1, h2]
    · by_cases h3 : (c.toNat : Int) > 57
      · simp [h1, h2, h3]
      · simp [h1, h2, h3]; omega
theorem rdB_no {s : ByteArray} (h : s.data.toList.all chB = false) : rdB s = false := by
  unfold rdB
  rw [show (s.data.toList.all fun c => decide (c = 63) || dgB c) = false from h]
  rfl
theorem rdB_yes {s : ByteArray} (h : s.data.toList.all chB = true) : rdB s = (decide ((s.size : Int) = 0) || decide ((s.size : Int) = 10)) := by
  unfold rdB
  rw [show (s.data.toList.all fun c => decide (c = 63) || dgB c) = true from h, Bool.true_and]
  congr 1 <;> exact decide_eq_decide.2 (by omega)
theorem C63 {s : ByteArray} (hs : s.size ≤ 1000000) : Fn Tryd.prog 63 [] [.v (.string s)] [.v (.bool (rdB s))] [] := by
  refine Spec.body Tryd.func63 rfl Tryd.ntmps63 (by simp) rfl ?_; intro S0 own0 v0 w0 gl
  (refine AW.seq_k ?_; intro K hK)
  refine AW.region ?_
  refine awP (op_assign rfl rfl) ?_
  refine AWL.nil ?_
  (refine hK _ ?_; clear hK K; (try simp only [nA, Nat.reduceBEq, Nat.reduceEqDiff, ↓reduceIte, Nat.reduceAdd, Nat.reduceSub]))
  (refine AW.seq_k ?_; intro K hK)
  (refine AW.seq_k ?_; intro K hK)
  refine AW.region ?_
  refine awP (op_move rfl rfl) ?_
  (first | refine awP (op_len_ro rfl rfl Tryd.underlying9 (by first | exact .inr (.inl ⟨_, rfl, rfl⟩) | exact .inl rfl | exact .inr (.inr (.inl ⟨_, rfl, rfl⟩)) | exact .inr (.inr (.inr ⟨rfl, rfl⟩)))) ?_ | refine awP (op_len_sl rfl rfl rfl Tryd.underlying9) ?_ | refine awP (op_len_str rfl rfl Tryd.underlying9) ?_)
  refine awP (op_move rfl rfl) ?_
  refine AWL.nil ?_
  (refine hK _ ?_; clear hK K; (try simp only [nA, Nat.reduceBEq, Nat.reduceEqDiff, ↓reduceIte, Nat.reduceAdd, Nat.reduceSub]))
  refine AW.block ?_
  refine AW.loopI (fun i => [(0, .v (.string s)), (5, .v (.int .i64 s.size)), (6, .v (.int .i64 (i : Nat)))]) (fun _ => ⟨[], 1⟩) (fun i => i ≤ s.size ∧ (s.data.toList.take i).all chB = true) (fun i => s.size - i) 0 (by simp) ⟨rfl, rfl, rfl, trivial⟩ rfl ?_; intro i ρ hi; simp only [updL]; (try simp only [nA, Nat.reduceBEq, Nat.reduceEqDiff, ↓reduceIte, Nat.reduceAdd, Nat.reduceSub])
  (refine AW.seq_k ?_; intro K hK)
  refine AW.region ?_
  refine awP (op_lss rfl rfl rfl) ?_
  refine AWL.nil ?_
  (refine hK _ ?_; clear hK K; (try simp only [nA, Nat.reduceBEq, Nat.reduceEqDiff, ↓reduceIte, Nat.reduceAdd, Nat.reduceSub]))
  (refine AW.seq_k ?_; intro K hK)
  refine AW.cond rfl rfl rfl (fun hc => ?_) (fun hc => ?_)
  ·
   (skip); have hc1 := hc; have hlt : i < s.size := (by simpa using hc1)
   refine AW.skip ?_
   (refine hK _ ?_; clear hK K; (try simp only [nA, Nat.reduceBEq, Nat.reduceEqDiff, ↓reduceIte, Nat.reduceAdd, Nat.reduceSub]))
   (refine AW.seq_k ?_; intro K hK)
   refine AW.block ?_
   (refine AW.seq_k ?_; intro K hK)
   refine AW.region ?_
   refine awP (op_move rfl rfl) ?_
   refine awP (op_assign rfl rfl) ?_
   refine AWL.nil ?_
   (refine hK _ ?_; clear hK K; (try simp only [nA, Nat.reduceBEq, Nat.reduceEqDiff, ↓reduceIte, Nat.reduceAdd, Nat.reduceSub]))
   (refine AW.seq_k ?_; intro K hK)
   refine AW.region (AWL.quiet ?_)
   refine aqP (op_move rfl rfl) ?_
   refine aqP (op_move rfl rfl) ?_
   refine aqP (op_ix_str _ rfl rfl rfl Tryd.underlying9 rfl (get_chr (i := i) (by omega))) ?_
   (first | refine aqP (op_neq rfl rfl rfl) ?_ | refine aqP (op_sneq rfl rfl rfl) ?_)
   refine aqP (op_move rfl rfl) ?_
   refine' aqAndN' [_, _, _, _, _, _, _, _, _, _] [14,15,16,17,18,19,20,21,22,23] rfl rfl rfl rfl rfl rfl rfl rfl rfl rfl rfl rfl (fun hb => ?_) ?_; rotate_left
   ·
    (try simp only [hcS] at hb)
    refine aqP (op_move rfl rfl) ?_
    refine aqP (op_move rfl rfl) ?_
    refine aqP (op_ix_str _ rfl rfl rfl Tryd.underlying9 rfl (get_chr (i := i) (by omega))) ?_
    refine aqP (op_lss rfl rfl rfl) ?_
    refine aqP (op_move rfl rfl) ?_
    refine' aqOr' [_, _, _, _] [19,20,21,22] rfl rfl rfl rfl rfl rfl rfl rfl rfl rfl rfl rfl (fun hb => ?_) ?_; rotate_left
    ·
     (try simp only [hcS] at hb)
     refine aqP (op_move rfl rfl) ?_
     refine aqP (op_move rfl rfl) ?_
     refine aqP (op_ix_str _ rfl rfl rfl Tryd.underlying9 rfl (get_chr (i := i) (by omega))) ?_
     refine aqP (op_gtr rfl rfl rfl) ?_
     (refine aqSeg rfl rfl rfl ?_; repeat (first | exact fun _ _ => rfl | refine upd_out rfl ?_ | refine era_out rfl ?_))
    (try simp only [nA, Nat.reduceBEq, Nat.reduceEqDiff, ↓reduceIte, Nat.reduceAdd, Nat.reduceSub])
    (refine aqSeg rfl rfl rfl ?_; repeat (first | exact fun _ _ => rfl | refine upd_out rfl ?_ | refine era_out rfl ?_))
   (try simp only [nA, Nat.reduceBEq, Nat.reduceEqDiff, ↓reduceIte, Nat.reduceAdd, Nat.reduceSub])
   refine AQ.nil ?_
   (refine hK _ ?_; clear hK K; (try simp only [nA, Nat.reduceBEq, Nat.reduceEqDiff, ↓reduceIte, Nat.reduceAdd, Nat.reduceSub]))
   refine AW.cond rfl rfl rfl (fun hc => ?_) (fun hc => ?_)
   ·
    (skip); have hc2 := hc; rw [chB_eq] at hc2
    (refine AW.seq_k ?_; intro K hK)
    refine AW.region ?_
    refine awP (op_assign rfl rfl) ?_
    refine AWL.nil ?_
    (refine hK _ ?_; clear hK K; (try simp only [nA, Nat.reduceBEq, Nat.reduceEqDiff, ↓reduceIte, Nat.reduceAdd, Nat.reduceSub]))
    skip
    refine AW.ret ?_; (try simp only [thenE, inBlk, Nat.reduceEqDiff, ↓reduceIte]); rw [rdB_no (all_no hlt (by simpa using hc2))]; exact RQ.of0 rfl (.tmp (Nat.le_of_ble_eq_true rfl) rfl rfl .nil)
   ·
    (skip); have hc2 := hc; rw [chB_eq] at hc2
    refine AW.skip ?_
    (try simp only [thenE, inBlk, Nat.reduceEqDiff, ↓reduceIte])
    (refine hK _ ?_; clear hK K; (try simp only [nA, Nat.reduceBEq, Nat.reduceEqDiff, ↓reduceIte, Nat.reduceAdd, Nat.reduceSub]))
    refine AW.region ?_
    (first | refine awP (op_addi rfl rfl rfl (by omega)) ?_ | refine awP (op_add rfl rfl rfl rfl) ?_)
    refine awP (op_move rfl rfl) ?_
    skip
    refine AWL.nil ?_
    refine ⟨i + 1, ⟨by omega, by rw [take_all hlt, hi.2]; simpa using hc2⟩, by omega, ⟨rfl, rfl, rfl, trivial⟩, rfl, rfl⟩
  ·
   (skip); have hc1 := hc; have hnl : ¬ i < s.size := (by simpa using hc1)
   refine AW.exit ?_; (try simp only [thenE, inBlk, Nat.reduceEqDiff, ↓reduceIte])
   clear hK K
   (refine hK _ ?_; clear hK K; (try simp only [nA, Nat.reduceBEq, Nat.reduceEqDiff, ↓reduceIte, Nat.reduceAdd, Nat.reduceSub]))
   (refine AW.seq_k ?_; intro K hK)
   refine AW.region (AWL.quiet ?_)
   refine aqP (op_move rfl rfl) ?_
   (first | refine aqP (op_len_ro rfl rfl Tryd.underlying9 (by first | exact .inr (.inl ⟨_, rfl, rfl⟩) | exact .inl rfl | exact .inr (.inr (.inl ⟨_, rfl, rfl⟩)) | exact .inr (.inr (.inr ⟨rfl, rfl⟩)))) ?_ | refine aqP (op_len_sl rfl rfl rfl Tryd.underlying9) ?_ | refine aqP (op_len_str rfl rfl Tryd.underlying9) ?_)
   (first | refine aqP (op_eql rfl rfl rfl) ?_ | refine aqP (op_seql rfl rfl rfl) ?_)
   refine aqP (op_move rfl rfl) ?_
   refine' aqOr' [_, _, _] [30,31,32] rfl rfl rfl rfl rfl rfl rfl rfl rfl rfl rfl rfl (fun hb => ?_) ?_; rotate_left
   ·
    (try simp only [hcS] at hb)
    refine aqP (op_move rfl rfl) ?_
    (first | refine aqP (op_len_ro rfl rfl Tryd.underlying9 (by first | exact .inr (.inl ⟨_, rfl, rfl⟩) | exact .inl rfl | exact .inr (.inr (.inl ⟨_, rfl, rfl⟩)) | exact .inr (.inr (.inr ⟨rfl, rfl⟩)))) ?_ | refine aqP (op_len_sl rfl rfl rfl Tryd.underlying9) ?_ | refine aqP (op_len_str rfl rfl Tryd.underlying9) ?_)
    (first | refine aqP (op_eql rfl rfl rfl) ?_ | refine aqP (op_seql rfl rfl rfl) ?_)
    (refine aqSeg rfl rfl rfl ?_; repeat (first | exact fun _ _ => rfl | refine upd_out rfl ?_ | refine era_out rfl ?_))
   (try simp only [nA, Nat.reduceBEq, Nat.reduceEqDiff, ↓reduceIte, Nat.reduceAdd, Nat.reduceSub])
   refine aqP (op_assign rfl rfl) ?_
   refine AQ.nil ?_
   (refine hK _ ?_; clear hK K; (try simp only [nA, Nat.reduceBEq, Nat.reduceEqDiff, ↓reduceIte, Nat.reduceAdd, Nat.reduceSub]))
   skip
   refine AW.ret ?_; (try simp only [thenE, inBlk, Nat.reduceEqDiff, ↓reduceIte]); rw [rdB_yes (by rw [← all_take hnl]; exact hi.2)]; exact RQ.of0 rfl (.tmp (Nat.le_of_ble_eq_true rfl) rfl rfl .nil)
def p62 (r : Report) : Bool := !inB r.device 0 23 || !rdB r.read
def p67 (x : Ev) (o : Op) : Bool := !opB o || !decide (o.device = x.device)
theorem C62 {r : Report} (hr : r.read.size ≤ 1000000) : Fn Tryd.prog 62 [] [.agg r.av] [.v (.bool (p62 r))] [] := by
  refine Spec.body Tryd.func62 rfl Tryd.ntmps62 (by simp) rfl ?_; intro S0 own0 v0 w0 gl
  (refine AW.seq_k ?_; intro K hK)
  refine AW.region ?_
  refine awJ (op_box rfl rfl rfl sz66 rfl) ?_; (try simp only [nA, Nat.reduceBEq, Nat.reduceEqDiff, ↓reduceIte, Nat.reduceAdd, Nat.reduceSub])
  refine awP (op_assign rfl rfl) ?_
  refine AWL.nil ?_
  (refine hK _ ?_; clear hK K; (try simp only [nA, Nat.reduceBEq, Nat.reduceEqDiff, ↓reduceIte, Nat.reduceAdd, Nat.reduceSub]))
  (refine AW.seq_k ?_; intro K hK)
  refine AW.region (AWL.quiet ?_)
  (first | refine aqP (op_fa_ptr rfl rfl rfl fl66_0 (by exact sz3) (by decide) rfl) ?_ | refine aqP (op_fa_rop rfl rfl fl66_0 (by exact sz3) (by decide) (Nat.le_of_ble_eq_true rfl) rfl) ?_)
  (first | refine aqR (op_load_ptr1 rfl rfl rfl rfl ag3 rfl rfl) ?_ | refine aqR (op_load_rop1 rfl rfl ag3) ?_)
  refine aqQ (op_callQ (b := true) rfl en37 (C37 (n := r.device) (lo := 0) (hi := 23)) (RL.cons (by first | exact View.same rfl | exact View.nil | exact View.rof | exact View.src .ro | exact View.src .rof | exact View.src (.sl rfl rfl) | exact View.ptr rfl rfl rfl) (RL.cons (by first | exact View.same rfl | exact View.nil | exact View.rof | exact View.src .ro | exact View.src .rof | exact View.src (.sl rfl rfl) | exact View.ptr rfl rfl rfl) (RL.cons (by first | exact View.same rfl | exact View.nil | exact View.rof | exact View.src .ro | exact View.src .rof | exact View.src (.sl rfl rfl) | exact View.ptr rfl rfl rfl) (RL.nil)))) rfl) ?_; (try simp only [nA, Nat.reduceBEq, Nat.reduceEqDiff, ↓reduceIte, Nat.reduceAdd, Nat.reduceSub])
  refine aqP (op_not rfl rfl rfl) ?_
  refine aqP (op_move rfl rfl) ?_
  refine' aqOr' [_, _, _, _] [8,9,10,11] rfl rfl rfl rfl rfl rfl rfl rfl rfl rfl rfl rfl (fun hb => ?_) ?_; rotate_left
  ·
   (try simp only [hcS] at hb)
   (first | refine aqP (op_fa_ptr rfl rfl rfl fl66_2 (by exact sz9) (by decide) rfl) ?_ | refine aqP (op_fa_rop rfl rfl fl66_2 (by exact sz9) (by decide) (Nat.le_of_ble_eq_true rfl) rfl) ?_)
   (first | refine aqR (op_load_ptr1 rfl rfl rfl rfl ag9 rfl rfl) ?_ | refine aqR (op_load_rop1 rfl rfl ag9) ?_)
   refine aqQ (op_callQ (b := true) rfl en63 (C63 (s := r.read) hr) (RL.cons (by first | exact View.same rfl | exact View.nil | exact View.rof | exact View.src .ro | exact View.src .rof | exact View.src (.sl rfl rfl) | exact View.ptr rfl rfl rfl) (RL.nil)) rfl) ?_; (try simp only [nA, Nat.reduceBEq, Nat.reduceEqDiff, ↓reduceIte, Nat.reduceAdd, Nat.reduceSub])
   refine aqP (op_not rfl rfl rfl) ?_
   (refine aqSeg rfl rfl rfl ?_; repeat (first | exact fun _ _ => rfl | refine upd_out rfl ?_ | refine era_out rfl ?_))
  (try simp only [nA, Nat.reduceBEq, Nat.reduceEqDiff, ↓reduceIte, Nat.reduceAdd, Nat.reduceSub])
  refine aqP (op_assign rfl rfl) ?_
  refine AQ.nil ?_
  (refine hK _ ?_; clear hK K; (try simp only [nA, Nat.reduceBEq, Nat.reduceEqDiff, ↓reduceIte, Nat.reduceAdd, Nat.reduceSub]))
  skip
  refine AW.ret ?_; (try simp only [thenE, inBlk, Nat.reduceEqDiff, ↓reduceIte]); exact RQ.of0 rfl (.tmp (Nat.le_of_ble_eq_true rfl) rfl rfl .nil)
theorem C67 {x : Ev} {o : Op} : Fn Tryd.prog 67 [] [.agg o.av, .rop x.av] [.v (.bool (p67 x o))] [] := by
  refine Spec.body Tryd.func67 rfl Tryd.ntmps67 (by simp) rfl ?_; intro S0 own0 v0 w0 gl
  (refine AW.seq_k ?_; intro K hK)
  refine AW.region ?_
  refine awJ (op_box rfl rfl rfl sz32 rfl) ?_; (try simp only [nA, Nat.reduceBEq, Nat.reduceEqDiff, ↓reduceIte, Nat.reduceAdd, Nat.reduceSub])
  refine awP (op_assign rfl rfl) ?_
  refine AWL.nil ?_
  (refine hK _ ?_; clear hK K; (try simp only [nA, Nat.reduceBEq, Nat.reduceEqDiff, ↓reduceIte, Nat.reduceAdd, Nat.reduceSub]))
  (refine AW.seq_k ?_; intro K hK)
  refine AW.region (AWL.quiet ?_)
  (first | refine aqR (op_load_ptr rfl rfl rfl rfl ag32 sz32 (Nat.le_of_ble_eq_true rfl) rfl) ?_ | refine aqR (op_load_rop rfl rfl ag32 sz32 (Nat.le_of_ble_eq_true rfl) (by decide) rfl) ?_)
  refine aqQ (op_callQ (b := true) rfl en65 (C65 (o := o)) (RL.cons (by first | exact View.same rfl | exact View.nil | exact View.rof | exact View.src .ro | exact View.src .rof | exact View.src (.sl rfl rfl) | exact View.ptr rfl rfl rfl) (RL.nil)) rfl) ?_; (try simp only [nA, Nat.reduceBEq, Nat.reduceEqDiff, ↓reduceIte, Nat.reduceAdd, Nat.reduceSub])
  refine aqP (op_not rfl rfl rfl) ?_
  refine aqP (op_move rfl rfl) ?_
  refine' aqOr' [_, _, _, _, _] [8,9,10,11,12] rfl rfl rfl rfl rfl rfl rfl rfl rfl rfl rfl rfl (fun hb => ?_) ?_; rotate_left
  ·
   (try simp only [hcS] at hb)
   (first | refine aqP (op_fa_ptr rfl rfl rfl fl32_1 (by exact sz3) (by decide) rfl) ?_ | refine aqP (op_fa_rop rfl rfl fl32_1 (by exact sz3) (by decide) (Nat.le_of_ble_eq_true rfl) rfl) ?_)
   (first | refine aqR (op_load_ptr1 rfl rfl rfl rfl ag3 rfl rfl) ?_ | refine aqR (op_load_rop1 rfl rfl ag3) ?_)
   (first | refine aqP (op_fa_ptr rfl rfl rfl fl35_9 (by exact sz3) (by decide) rfl) ?_ | refine aqP (op_fa_rop rfl rfl fl35_9 (by exact sz3) (by decide) (Nat.le_of_ble_eq_true rfl) rfl) ?_)
   (first | refine aqR (op_load_ptr1 rfl rfl rfl rfl ag3 rfl rfl) ?_ | refine aqR (op_load_rop1 rfl rfl ag3) ?_)
   (first | refine aqP (op_neq rfl rfl rfl) ?_ | refine aqP (op_sneq rfl rfl rfl) ?_)
   (refine aqSeg rfl rfl rfl ?_; repeat (first | exact fun _ _ => rfl | refine upd_out rfl ?_ | refine era_out rfl ?_))
  (try simp only [nA, Nat.reduceBEq, Nat.reduceEqDiff, ↓reduceIte, Nat.reduceAdd, Nat.reduceSub])
  refine aqP (op_assign rfl rfl) ?_
  refine AQ.nil ?_
  (refine hK _ ?_; clear hK K; (try simp only [nA, Nat.reduceBEq, Nat.reduceEqDiff, ↓reduceIte, Nat.reduceAdd, Nat.reduceSub]))
  skip
  refine AW.ret ?_; (try simp only [thenE, inBlk, Nat.reduceEqDiff, ↓reduceIte]); exact RQ.of0 rfl (.tmp (Nat.le_of_ble_eq_true rfl) rfl rfl .nil)
theorem C90 {l : List Report} (h1 : l.length ≤ 1000000) (hr : ∀ r ∈ l, r.read.size ≤ 1000000) : Fn Tryd.prog 90 [] [.ro (l.map Report.av), .v (.func (.func 62) #[] #[])] [.v (.int .i64 (idxI p62 l))] [] := by
  refine Spec.body Tryd.func90 rfl Tryd.ntmps90 (by simp) rfl ?_; intro S0 own0 v0 w0 gl
  (refine AW.seq_k ?_; intro K hK)
  refine AW.region ?_
  refine awP (op_assign rfl rfl) ?_
  refine AWL.nil ?_
  (refine hK _ ?_; clear hK K; (try simp only [nA, Nat.reduceBEq, Nat.reduceEqDiff, ↓reduceIte, Nat.reduceAdd, Nat.reduceSub]))
  (refine AW.seq_k ?_; intro K hK)
  (refine AW.seq_k ?_; intro K hK)
  refine AW.region ?_
  refine awP (op_move rfl rfl) ?_
  refine awP (op_len_ro (n := l.length) rfl rfl Tryd.underlying24 (.inr (.inl ⟨_, rfl, by simp⟩))) ?_
  refine awP (op_move rfl rfl) ?_
  refine AWL.nil ?_
  (refine hK _ ?_; clear hK K; (try simp only [nA, Nat.reduceBEq, Nat.reduceEqDiff, ↓reduceIte, Nat.reduceAdd, Nat.reduceSub]))
  refine AW.block ?_
  refine AW.loopI (fun i => [(0, .ro (l.map Report.av)), (1, .v (.func (.func 62) #[] #[])), (7, .v (.int .i64 l.length)), (8, .v (.int .i64 (i : Nat)))]) (fun i => ⟨[], 1⟩) (fun i => i ≤ l.length ∧ ∀ k, k < i → p62 (l.getD k default) = false) (fun i => l.length - i) 0 (by simp) ⟨rfl, rfl, rfl, rfl, trivial⟩ rfl ?_; intro i ρ hi; simp only [updL]; (try simp only [nA, Nat.reduceBEq, Nat.reduceEqDiff, ↓reduceIte, Nat.reduceAdd, Nat.reduceSub])
  (refine AW.seq_k ?_; intro K hK)
  refine AW.region ?_
  refine awP (op_lss rfl rfl rfl) ?_
  refine AWL.nil ?_
  (refine hK _ ?_; clear hK K; (try simp only [nA, Nat.reduceBEq, Nat.reduceEqDiff, ↓reduceIte, Nat.reduceAdd, Nat.reduceSub]))
  (refine AW.seq_k ?_; intro K hK)
  refine AW.cond rfl rfl rfl (fun hc => ?_) (fun hc => ?_)
  ·
   (skip); have hc1 := hc; have hlt : i < l.length := (by simpa using hc1)
   refine AW.skip ?_
   (refine hK _ ?_; clear hK K; (try simp only [nA, Nat.reduceBEq, Nat.reduceEqDiff, ↓reduceIte, Nat.reduceAdd, Nat.reduceSub]))
   (refine AW.seq_k ?_; intro K hK)
   refine AW.block ?_
   (refine AW.seq_k ?_; intro K hK)
   refine AW.region ?_
   refine awP (op_move rfl rfl) ?_
   refine awP (op_assign rfl rfl) ?_
   refine AWL.nil ?_
   (refine hK _ ?_; clear hK K; (try simp only [nA, Nat.reduceBEq, Nat.reduceEqDiff, ↓reduceIte, Nat.reduceAdd, Nat.reduceSub]))
   (refine AW.seq_k ?_; intro K hK)
   refine AW.region ?_
   refine awP (op_move rfl rfl) ?_
   refine awP (op_move rfl rfl) ?_
   refine awP (op_move rfl rfl) ?_
   refine awP (op_ia_ro i rfl (.inl rfl) rfl Tryd.underlying24 rfl (get_mapD (by omega)) (by exact sz66) (Nat.le_of_ble_eq_true rfl)) ?_
   (first | refine awR (op_load_ptr rfl rfl rfl rfl ag66 sz66 (Nat.le_of_ble_eq_true rfl) rfl) ?_ | refine awR (op_load_rop rfl rfl ag66 sz66 (Nat.le_of_ble_eq_true rfl) (by decide) rfl) ?_)
   refine awJ (OpQ.j (op_valQ (b := true) rfl rfl en62 (C62 (r := l.getD i default) (hr _ (by rw [getD_of hlt]; exact List.getElem_mem hlt))) (RL.cons (by first | exact View.same rfl | exact View.nil | exact View.rof | exact View.src .ro | exact View.src .rof | exact View.src (.sl rfl rfl) | exact View.ptr rfl rfl rfl) (RL.nil)) rfl)) ?_; (try simp only [nA, Nat.reduceBEq, Nat.reduceEqDiff, ↓reduceIte, Nat.reduceAdd, Nat.reduceSub])
   refine AWL.nil ?_
   (refine hK _ ?_; clear hK K; (try simp only [nA, Nat.reduceBEq, Nat.reduceEqDiff, ↓reduceIte, Nat.reduceAdd, Nat.reduceSub]))
   refine AW.cond rfl rfl rfl (fun hc => ?_) (fun hc => ?_)
   ·
    (skip); have hc2 := hc; skip
    (refine AW.seq_k ?_; intro K hK)
    refine AW.region ?_
    refine awP (op_move rfl rfl) ?_
    refine awP (op_assign rfl rfl) ?_
    refine AWL.nil ?_
    (refine hK _ ?_; clear hK K; (try simp only [nA, Nat.reduceBEq, Nat.reduceEqDiff, ↓reduceIte, Nat.reduceAdd, Nat.reduceSub]))
    skip
    refine AW.ret ?_; (try simp only [thenE, inBlk, Nat.reduceEqDiff, ↓reduceIte]); rw [idx_yes hlt hi.2 hc2]; exact RQ.of0 rfl (.tmp (Nat.le_of_ble_eq_true rfl) rfl rfl .nil)
   ·
    (skip); have hc2 := hc; skip
    refine AW.skip ?_
    (try simp only [thenE, inBlk, Nat.reduceEqDiff, ↓reduceIte])
    (refine hK _ ?_; clear hK K; (try simp only [nA, Nat.reduceBEq, Nat.reduceEqDiff, ↓reduceIte, Nat.reduceAdd, Nat.reduceSub]))
    refine AW.region ?_
    (first | refine awP (op_addi rfl rfl rfl (by omega)) ?_ | refine awP (op_add rfl rfl rfl rfl) ?_)
    refine awP (op_move rfl rfl) ?_
    skip
    refine AWL.nil ?_
    refine ⟨i + 1, ⟨by omega, all_f_step hi.2 hc2⟩, by omega, ⟨rfl, rfl, rfl, rfl, trivial⟩, (by first | rfl | trivial), (by first | rfl | trivial)⟩
  ·
   (skip); have hc1 := hc; have hnl : ¬ i < l.length := (by simpa using hc1)
   refine AW.exit ?_; (try simp only [thenE, inBlk, Nat.reduceEqDiff, ↓reduceIte])
   clear hK K
   (refine hK _ ?_; clear hK K; (try simp only [nA, Nat.reduceBEq, Nat.reduceEqDiff, ↓reduceIte, Nat.reduceAdd, Nat.reduceSub]))
   (refine AW.seq_k ?_; intro K hK)
   refine AW.region ?_
   refine awP (op_assign rfl rfl) ?_
   refine AWL.nil ?_
   (refine hK _ ?_; clear hK K; (try simp only [nA, Nat.reduceBEq, Nat.reduceEqDiff, ↓reduceIte, Nat.reduceAdd, Nat.reduceSub]))
   skip
   refine AW.ret ?_; (try simp only [thenE, inBlk, Nat.reduceEqDiff, ↓reduceIte]); rw [idx_no hnl hi.2]; exact RQ.of0 rfl (.tmp (Nat.le_of_ble_eq_true rfl) rfl rfl .nil)
theorem C95 {x : Ev} {l : List Op} (h1 : l.length ≤ 1000000) : Fn Tryd.prog 95 [] [.ro (l.map Op.av), .clo 67 [.rop x.av]] [.v (.int .i64 (idxI (p67 x) l))] [] := by
  refine Spec.body Tryd.func95 rfl Tryd.ntmps95 (by simp) rfl ?_; intro S0 own0 v0 w0 gl
  (refine AW.seq_k ?_; intro K hK)
  refine AW.region ?_
  refine awP (op_assign rfl rfl) ?_
  refine AWL.nil ?_
  (refine hK _ ?_; clear hK K; (try simp only [nA, Nat.reduceBEq, Nat.reduceEqDiff, ↓reduceIte, Nat.reduceAdd, Nat.reduceSub]))
  (refine AW.seq_k ?_; intro K hK)
  (refine AW.seq_k ?_; intro K hK)
  refine AW.region ?_
  refine awP (op_move rfl rfl) ?_
  refine awP (op_len_ro (n := l.length) rfl rfl Tryd.underlying33 (.inr (.inl ⟨_, rfl, by simp⟩))) ?_
  refine awP (op_move rfl rfl) ?_
  refine AWL.nil ?_
  (refine hK _ ?_; clear hK K; (try simp only [nA, Nat.reduceBEq, Nat.reduceEqDiff, ↓reduceIte, Nat.reduceAdd, Nat.reduceSub]))
  refine AW.block ?_
  refine AW.loopI (fun i => [(0, .ro (l.map Op.av)), (1, .clo 67 [.rop x.av]), (7, .v (.int .i64 l.length)), (8, .v (.int .i64 (i : Nat)))]) (fun i => ⟨[], 1⟩) (fun i => i ≤ l.length ∧ ∀ k, k < i → p67 x (l.getD k default) = false) (fun i => l.length - i) 0 (by simp) ⟨rfl, rfl, rfl, rfl, trivial⟩ rfl ?_; intro i ρ hi; simp only [updL]; (try simp only [nA, Nat.reduceBEq, Nat.reduceEqDiff, ↓reduceIte, Nat.reduceAdd, Nat.reduceSub])
  (refine AW.seq_k ?_; intro K hK)
  refine AW.region ?_
  refine awP (op_lss rfl rfl rfl) ?_
  refine AWL.nil ?_
  (refine hK _ ?_; clear hK K; (try simp only [nA, Nat.reduceBEq, Nat.reduceEqDiff, ↓reduceIte, Nat.reduceAdd, Nat.reduceSub]))
  (refine AW.seq_k ?_; intro K hK)
  refine AW.cond rfl rfl rfl (fun hc => ?_) (fun hc => ?_)
  ·
   (skip); have hc1 := hc; have hlt : i < l.length := (by simpa using hc1)
   refine AW.skip ?_
   (refine hK _ ?_; clear hK K; (try simp only [nA, Nat.reduceBEq, Nat.reduceEqDiff, ↓reduceIte, Nat.reduceAdd, Nat.reduceSub]))
   (refine AW.seq_k ?_; intro K hK)
   refine AW.block ?_
   (refine AW.seq_k ?_; intro K hK)
   refine AW.region ?_
   refine awP (op_move rfl rfl) ?_
   refine awP (op_assign rfl rfl) ?_
   refine AWL.nil ?_
   (refine hK _ ?_; clear hK K; (try simp only [nA, Nat.reduceBEq, Nat.reduceEqDiff, ↓reduceIte, Nat.reduceAdd, Nat.reduceSub]))
   (refine AW.seq_k ?_; intro K hK)
   refine AW.region ?_
   refine awP (op_move rfl rfl) ?_
   refine awP (op_move rfl rfl) ?_
   refine awP (op_move rfl rfl) ?_
   refine awP (op_ia_ro i rfl (.inl rfl) rfl Tryd.underlying33 rfl (get_mapD (by omega)) (by exact sz32) (Nat.le_of_ble_eq_true rfl)) ?_
   (first | refine awR (op_load_ptr rfl rfl rfl rfl ag32 sz32 (Nat.le_of_ble_eq_true rfl) rfl) ?_ | refine awR (op_load_rop rfl rfl ag32 sz32 (Nat.le_of_ble_eq_true rfl) (by decide) rfl) ?_)
   refine awJ (OpQ.j (op_cloQ (b := true) rfl rfl en67 (C67 (x := x) (o := l.getD i default)) (RL.cons (by first | exact View.same rfl | exact View.nil | exact View.rof | exact View.src .ro | exact View.src .rof | exact View.src (.sl rfl rfl) | exact View.ptr rfl rfl rfl) (RL.nil)) rfl)) ?_; (try simp only [nA, Nat.reduceBEq, Nat.reduceEqDiff, ↓reduceIte, Nat.reduceAdd, Nat.reduceSub])
   refine AWL.nil ?_
   (refine hK _ ?_; clear hK K; (try simp only [nA, Nat.reduceBEq, Nat.reduceEqDiff, ↓reduceIte, Nat.reduceAdd, Nat.reduceSub]))
   refine AW.cond rfl rfl rfl (fun hc => ?_) (fun hc => ?_)
   ·
    (skip); have hc2 := hc; skip
    (refine AW.seq_k ?_; intro K hK)
    refine AW.region ?_
    refine awP (op_move rfl rfl) ?_
    refine awP (op_assign rfl rfl) ?_
    refine AWL.nil ?_
    (refine hK _ ?_; clear hK K; (try simp only [nA, Nat.reduceBEq, Nat.reduceEqDiff, ↓reduceIte, Nat.reduceAdd, Nat.reduceSub]))
    skip
    refine AW.ret ?_; (try simp only [thenE, inBlk, Nat.reduceEqDiff, ↓reduceIte]); rw [idx_yes (p := p67 x) hlt hi.2 hc2]; exact RQ.of0 rfl (.tmp (Nat.le_of_ble_eq_true rfl) rfl rfl .nil)
   ·
    (skip); have hc2 := hc; skip
    refine AW.skip ?_
    (try simp only [thenE, inBlk, Nat.reduceEqDiff, ↓reduceIte])
    (refine hK _ ?_; clear hK K; (try simp only [nA, Nat.reduceBEq, Nat.reduceEqDiff, ↓reduceIte, Nat.reduceAdd, Nat.reduceSub]))
    refine AW.region ?_
    (first | refine awP (op_addi rfl rfl rfl (by omega)) ?_ | refine awP (op_add rfl rfl rfl rfl) ?_)
    refine awP (op_move rfl rfl) ?_
    skip
    refine AWL.nil ?_
    refine ⟨i + 1, ⟨by omega, all_f_step (f := fun k => p67 x (l.getD k default)) hi.2 hc2⟩, by omega, ⟨rfl, rfl, rfl, rfl, trivial⟩, (by first | rfl | trivial), (by first | rfl | trivial)⟩
  ·
   (skip); have hc1 := hc; have hnl : ¬ i < l.length := (by simpa using hc1)
   refine AW.exit ?_; (try simp only [thenE, inBlk, Nat.reduceEqDiff, ↓reduceIte])
   clear hK K
   (refine hK _ ?_; clear hK K; (try simp only [nA, Nat.reduceBEq, Nat.reduceEqDiff, ↓reduceIte, Nat.reduceAdd, Nat.reduceSub]))
   (refine AW.seq_k ?_; intro K hK)
   refine AW.region ?_
   refine awP (op_assign rfl rfl) ?_
   refine AWL.nil ?_
   (refine hK _ ?_; clear hK K; (try simp only [nA, Nat.reduceBEq, Nat.reduceEqDiff, ↓reduceIte, Nat.reduceAdd, Nat.reduceSub]))
   skip
   refine AW.ret ?_; (try simp only [thenE, inBlk, Nat.reduceEqDiff, ↓reduceIte]); rw [idx_no (p := p67 x) hnl hi.2]; exact RQ.of0 rfl (.tmp (Nat.le_of_ble_eq_true rfl) rfl rfl .nil)
theorem idx_any {α : Type} {p : α → Bool} {l : List α} : decide (idxI p l ≥ 0) = l.any p := by
  unfold idxI
  rw [Bool.eq_iff_iff, decide_eq_true_eq, List.any_eq_true]
  by_cases h : l.findIdx p < l.length
  · rw [if_pos h]
    exact ⟨fun _ => ⟨_, List.getElem_mem h, List.findIdx_getElem (w := h)⟩, fun _ => by omega⟩
  · rw [if_neg h]
    refine ⟨fun h => by omega, fun ⟨x, hx, hp⟩ => ?_⟩
    exact absurd (List.findIdx_lt_length_of_exists ⟨x, hx, hp⟩) h
theorem C61 {l : List Report} (h1 : l.length ≤ 1000000) (hr : ∀ r ∈ l, r.read.size ≤ 1000000) : Fn Tryd.prog 61 [] [.ro (l.map Report.av), .v (.func (.func 62) #[] #[])] [.v (.bool (l.any p62))] [] := by
  refine Spec.body Tryd.func61 rfl Tryd.ntmps61 (by simp) rfl ?_; intro S0 own0 v0 w0 gl
  (refine AW.seq_k ?_; intro K hK)
  refine AW.region ?_
  refine awP (op_assign rfl rfl) ?_
  refine AWL.nil ?_
  (refine hK _ ?_; clear hK K; (try simp only [nA, Nat.reduceBEq, Nat.reduceEqDiff, ↓reduceIte, Nat.reduceAdd, Nat.reduceSub]))
  (refine AW.seq_k ?_; intro K hK)
  refine AW.region ?_
  refine awP (op_move rfl rfl) ?_
  refine awP (op_move rfl rfl) ?_
  refine awJ (OpQ.j (op_callQ (b := true) rfl en90 (C90 (l := l) h1 hr) (RL.cons (by first | exact View.same rfl | exact View.nil | exact View.rof | exact View.src .ro | exact View.src .rof | exact View.src (.sl rfl rfl) | exact View.ptr rfl rfl rfl) (RL.cons (by first | exact View.same rfl | exact View.nil | exact View.rof | exact View.src .ro | exact View.src .rof | exact View.src (.sl rfl rfl) | exact View.ptr rfl rfl rfl) (RL.nil))) rfl)) ?_; (try simp only [nA, Nat.reduceBEq, Nat.reduceEqDiff, ↓reduceIte, Nat.reduceAdd, Nat.reduceSub])
  refine awP (op_geq rfl rfl rfl) ?_
  refine awP (op_assign rfl rfl) ?_
  refine AWL.nil ?_
  (refine hK _ ?_; clear hK K; (try simp only [nA, Nat.reduceBEq, Nat.reduceEqDiff, ↓reduceIte, Nat.reduceAdd, Nat.reduceSub]))
  skip
  refine AW.ret ?_; (try simp only [thenE, inBlk, Nat.reduceEqDiff, ↓reduceIte]); rw [← idx_any]; exact RQ.of0 rfl (.tmp (Nat.le_of_ble_eq_true rfl) rfl rfl .nil)
theorem C66 {x : Ev} {l : List Op} (h1 : l.length ≤ 1000000) : Fn Tryd.prog 66 [] [.ro (l.map Op.av), .clo 67 [.rop x.av]] [.v (.bool (l.any (p67 x)))] [] := by
  refine Spec.body Tryd.func66 rfl Tryd.ntmps66 (by simp) rfl ?_; intro S0 own0 v0 w0 gl
  (refine AW.seq_k ?_; intro K hK)
  refine AW.region ?_
  refine awP (op_assign rfl rfl) ?_
  refine AWL.nil ?_
  (refine hK _ ?_; clear hK K; (try simp only [nA, Nat.reduceBEq, Nat.reduceEqDiff, ↓reduceIte, Nat.reduceAdd, Nat.reduceSub]))
  (refine AW.seq_k ?_; intro K hK)
  refine AW.region ?_
  refine awP (op_move rfl rfl) ?_
  refine awP (op_move rfl rfl) ?_
  refine awJ (OpQ.j (op_callQ (b := true) rfl en95 (C95 (x := x) (l := l) h1) (RL.cons (by first | exact View.same rfl | exact View.nil | exact View.rof | exact View.src .ro | exact View.src .rof | exact View.src (.sl rfl rfl) | exact View.ptr rfl rfl rfl) (RL.cons (by first | exact View.same rfl | exact View.nil | exact View.rof | exact View.src .ro | exact View.src .rof | exact View.src (.sl rfl rfl) | exact View.ptr rfl rfl rfl) (RL.nil))) rfl)) ?_; (try simp only [nA, Nat.reduceBEq, Nat.reduceEqDiff, ↓reduceIte, Nat.reduceAdd, Nat.reduceSub])
  refine awP (op_geq rfl rfl rfl) ?_
  refine awP (op_assign rfl rfl) ?_
  refine AWL.nil ?_
  (refine hK _ ?_; clear hK K; (try simp only [nA, Nat.reduceBEq, Nat.reduceEqDiff, ↓reduceIte, Nat.reduceAdd, Nat.reduceSub]))
  skip
  refine AW.ret ?_; (try simp only [thenE, inBlk, Nat.reduceEqDiff, ↓reduceIte]); rw [← idx_any]; exact RQ.of0 rfl (.tmp (Nat.le_of_ble_eq_true rfl) rfl rfl .nil)
theorem not_any {α : Type} {p q : α → Bool} (h : ∀ x, p x = !q x) (l : List α) : (!l.any p) = l.all q := by
  rw [show p = fun x => !q x from funext h]
  induction l with
  | nil => rfl
  | cons x l ih => rw [List.any_cons, List.all_cons, Bool.not_or, ih, Bool.not_not]
theorem evav_flat (x : Ev) : ∀ c ∈ x.av, flatA c = true := List.all_eq_true.1 rfl
theorem prB_rest {x : Ev} {p : Nat} (h : p = 1 ∨ p = 5 ∨ 12 ≤ p) : prB x p = true := by
  rcases h with rfl | rfl | h
  · rfl
  · rfl
  · obtain ⟨n, rfl⟩ : ∃ n, p = n + 12 := ⟨p - 12, by omega⟩
    rfl
theorem C39 {x : Ev} {p : Nat} (hx : x.Sm) : Fn Tryd.prog 39 [] [.agg x.av, .v (.int .i64 (p : Nat))] [.v (.bool (prB x p))] [] := by
  refine Spec.body Tryd.func39 rfl Tryd.ntmps39 (by simp) rfl ?_; intro S0 own0 v0 w0 gl
  (refine AW.seq_k ?_; intro K hK)
  refine AW.region ?_
  refine awJ (op_box rfl rfl rfl sz35 rfl) ?_; (try simp only [nA, Nat.reduceBEq, Nat.reduceEqDiff, ↓reduceIte, Nat.reduceAdd, Nat.reduceSub])
  refine awP (op_assign rfl rfl) ?_
  refine AWL.nil ?_
  (refine hK _ ?_; clear hK K; (try simp only [nA, Nat.reduceBEq, Nat.reduceEqDiff, ↓reduceIte, Nat.reduceAdd, Nat.reduceSub]))
  (refine AW.seq_k ?_; intro K hK)
  (refine AW.seq_k ?_; intro K hK)
  refine AW.region ?_
  refine awP (op_move rfl rfl) ?_
  refine AWL.nil ?_
  (refine hK _ ?_; clear hK K; (try simp only [nA, Nat.reduceBEq, Nat.reduceEqDiff, ↓reduceIte, Nat.reduceAdd, Nat.reduceSub]))
  refine AW.block ?_
  (refine AW.seq_k ?_; intro K hK)
  refine AW.region ?_
  (first | refine awP (op_eql rfl rfl rfl) ?_ | refine awP (op_seql rfl rfl rfl) ?_)
  refine awP (op_assign rfl rfl) ?_
  refine AWL.nil ?_
  (refine hK _ ?_; clear hK K; (try simp only [nA, Nat.reduceBEq, Nat.reduceEqDiff, ↓reduceIte, Nat.reduceAdd, Nat.reduceSub]))
  refine AW.cond rfl rfl rfl (fun hc => ?_) (fun hc => ?_)
  ·
   (skip); have hc1 := hc; obtain rfl : p = 0 := (by have := of_decide_eq_true hc1; omega)
   (refine AW.seq_k ?_; intro K hK)
   refine AW.region ?_
   (first | refine awP (op_fa_ptr rfl rfl rfl fl35_1 (by exact sz3) (by decide) rfl) ?_ | refine awP (op_fa_rop rfl rfl fl35_1 (by exact sz3) (by decide) (Nat.le_of_ble_eq_true rfl) rfl) ?_)
   (first | refine awR (op_load_ptr1 rfl rfl rfl rfl ag3 rfl rfl) ?_ | refine awR (op_load_rop1 rfl rfl ag3) ?_)
   refine awJ (OpQ.j (op_callQ (b := true) rfl en37 (C37 (n := x.time) (lo := 0) (hi := 1048576)) (RL.cons (by first | exact View.same rfl | exact View.nil | exact View.rof | exact View.src .ro | exact View.src .rof | exact View.src (.sl rfl rfl) | exact View.ptr rfl rfl rfl) (RL.cons (by first | exact View.same rfl | exact View.nil | exact View.rof | exact View.src .ro | exact View.src .rof | exact View.src (.sl rfl rfl) | exact View.ptr rfl rfl rfl) (RL.cons (by first | exact View.same rfl | exact View.nil | exact View.rof | exact View.src .ro | exact View.src .rof | exact View.src (.sl rfl rfl) | exact View.ptr rfl rfl rfl) (RL.nil)))) rfl)) ?_; (try simp only [nA, Nat.reduceBEq, Nat.reduceEqDiff, ↓reduceIte, Nat.reduceAdd, Nat.reduceSub])
   refine awP (op_assign rfl rfl) ?_
   refine AWL.nil ?_
   (refine hK _ ?_; clear hK K; (try simp only [nA, Nat.reduceBEq, Nat.reduceEqDiff, ↓reduceIte, Nat.reduceAdd, Nat.reduceSub]))
   skip
   refine AW.ret ?_; (try simp only [thenE, inBlk, Nat.reduceEqDiff, ↓reduceIte]); exact RQ.of0 rfl (.tmp (Nat.le_of_ble_eq_true rfl) rfl rfl .nil)
  ·
   (skip); have hc1 := hc; skip
   (refine AW.seq_k ?_; intro K hK)
   refine AW.region ?_
   (first | refine awP (op_eql rfl rfl rfl) ?_ | refine awP (op_seql rfl rfl rfl) ?_)
   refine awP (op_assign rfl rfl) ?_
   refine AWL.nil ?_
   (refine hK _ ?_; clear hK K; (try simp only [nA, Nat.reduceBEq, Nat.reduceEqDiff, ↓reduceIte, Nat.reduceAdd, Nat.reduceSub]))
   refine AW.cond rfl rfl rfl (fun hc => ?_) (fun hc => ?_)
   ·
    (skip); have hc2 := hc; obtain rfl : p = 2 := (by have := of_decide_eq_true hc2; omega)
    (refine AW.seq_k ?_; intro K hK)
    refine AW.region ?_
    (first | refine awP (op_fa_ptr rfl rfl rfl fl35_3 (by exact sz23) (by decide) rfl) ?_ | refine awP (op_fa_rop rfl rfl fl35_3 (by exact sz23) (by decide) (Nat.le_of_ble_eq_true rfl) rfl) ?_)
    (first | refine awR (op_load_ptr rfl rfl rfl rfl ag23 sz23 (Nat.le_of_ble_eq_true rfl) rfl) ?_ | refine awR (op_load_rop rfl rfl ag23 sz23 (Nat.le_of_ble_eq_true rfl) (by decide) rfl) ?_)
    refine awJ (OpQ.j (op_callQ (b := true) rfl en60 (C60 (p := x.plate)) (RL.cons (by first | exact View.same rfl | exact View.nil | exact View.rof | exact View.src .ro | exact View.src .rof | exact View.src (.sl rfl rfl) | exact View.ptr rfl rfl rfl) (RL.nil)) rfl)) ?_; (try simp only [nA, Nat.reduceBEq, Nat.reduceEqDiff, ↓reduceIte, Nat.reduceAdd, Nat.reduceSub])
    refine awP (op_assign rfl rfl) ?_
    refine AWL.nil ?_
    (refine hK _ ?_; clear hK K; (try simp only [nA, Nat.reduceBEq, Nat.reduceEqDiff, ↓reduceIte, Nat.reduceAdd, Nat.reduceSub]))
    skip
    refine AW.ret ?_; (try simp only [thenE, inBlk, Nat.reduceEqDiff, ↓reduceIte]); exact RQ.of0 rfl (.tmp (Nat.le_of_ble_eq_true rfl) rfl rfl .nil)
   ·
    (skip); have hc2 := hc; skip
    (refine AW.seq_k ?_; intro K hK)
    refine AW.region ?_
    (first | refine awP (op_eql rfl rfl rfl) ?_ | refine awP (op_seql rfl rfl rfl) ?_)
    refine awP (op_assign rfl rfl) ?_
    refine AWL.nil ?_
    (refine hK _ ?_; clear hK K; (try simp only [nA, Nat.reduceBEq, Nat.reduceEqDiff, ↓reduceIte, Nat.reduceAdd, Nat.reduceSub]))
    refine AW.cond rfl rfl rfl (fun hc => ?_) (fun hc => ?_)
    ·
     (skip); have hc3 := hc; obtain rfl : p = 3 := (by have := of_decide_eq_true hc3; omega)
     (refine AW.seq_k ?_; intro K hK)
     refine AW.region ?_
     (first | refine awP (op_fa_ptr rfl rfl rfl fl35_4 (by exact sz3) (by decide) rfl) ?_ | refine awP (op_fa_rop rfl rfl fl35_4 (by exact sz3) (by decide) (Nat.le_of_ble_eq_true rfl) rfl) ?_)
     (first | refine awR (op_load_ptr1 rfl rfl rfl rfl ag3 rfl rfl) ?_ | refine awR (op_load_rop1 rfl rfl ag3) ?_)
     refine awJ (OpQ.j (op_callQ (b := true) rfl en37 (C37 (n := x.node) (lo := 0) (hi := 23)) (RL.cons (by first | exact View.same rfl | exact View.nil | exact View.rof | exact View.src .ro | exact View.src .rof | exact View.src (.sl rfl rfl) | exact View.ptr rfl rfl rfl) (RL.cons (by first | exact View.same rfl | exact View.nil | exact View.rof | exact View.src .ro | exact View.src .rof | exact View.src (.sl rfl rfl) | exact View.ptr rfl rfl rfl) (RL.cons (by first | exact View.same rfl | exact View.nil | exact View.rof | exact View.src .ro | exact View.src .rof | exact View.src (.sl rfl rfl) | exact View.ptr rfl rfl rfl) (RL.nil)))) rfl)) ?_; (try simp only [nA, Nat.reduceBEq, Nat.reduceEqDiff, ↓reduceIte, Nat.reduceAdd, Nat.reduceSub])
     refine awP (op_assign rfl rfl) ?_
     refine AWL.nil ?_
     (refine hK _ ?_; clear hK K; (try simp only [nA, Nat.reduceBEq, Nat.reduceEqDiff, ↓reduceIte, Nat.reduceAdd, Nat.reduceSub]))
     skip
     refine AW.ret ?_; (try simp only [thenE, inBlk, Nat.reduceEqDiff, ↓reduceIte]); exact RQ.of0 rfl (.tmp (Nat.le_of_ble_eq_true rfl) rfl rfl .nil)
    ·
     (skip); have hc3 := hc; skip
     (refine AW.seq_k ?_; intro K hK)
     refine AW.region ?_
     (first | refine awP (op_eql rfl rfl rfl) ?_ | refine awP (op_seql rfl rfl rfl) ?_)
     refine awP (op_assign rfl rfl) ?_
     refine AWL.nil ?_
     (refine hK _ ?_; clear hK K; (try simp only [nA, Nat.reduceBEq, Nat.reduceEqDiff, ↓reduceIte, Nat.reduceAdd, Nat.reduceSub]))
     refine AW.cond rfl rfl rfl (fun hc => ?_) (fun hc => ?_)
     ·
      (skip); have hc4 := hc; obtain rfl : p = 4 := (by have := of_decide_eq_true hc4; omega)
      (refine AW.seq_k ?_; intro K hK)
      refine AW.region ?_
      (first | refine awP (op_fa_ptr rfl rfl rfl fl35_5 (by exact sz3) (by decide) rfl) ?_ | refine awP (op_fa_rop rfl rfl fl35_5 (by exact sz3) (by decide) (Nat.le_of_ble_eq_true rfl) rfl) ?_)
      (first | refine awR (op_load_ptr1 rfl rfl rfl rfl ag3 rfl rfl) ?_ | refine awR (op_load_rop1 rfl rfl ag3) ?_)
      refine awJ (OpQ.j (op_callQ (b := true) rfl en37 (C37 (n := x.image) (lo := 0) (hi := 1048576)) (RL.cons (by first | exact View.same rfl | exact View.nil | exact View.rof | exact View.src .ro | exact View.src .rof | exact View.src (.sl rfl rfl) | exact View.ptr rfl rfl rfl) (RL.cons (by first | exact View.same rfl | exact View.nil | exact View.rof | exact View.src .ro | exact View.src .rof | exact View.src (.sl rfl rfl) | exact View.ptr rfl rfl rfl) (RL.cons (by first | exact View.same rfl | exact View.nil | exact View.rof | exact View.src .ro | exact View.src .rof | exact View.src (.sl rfl rfl) | exact View.ptr rfl rfl rfl) (RL.nil)))) rfl)) ?_; (try simp only [nA, Nat.reduceBEq, Nat.reduceEqDiff, ↓reduceIte, Nat.reduceAdd, Nat.reduceSub])
      refine awP (op_assign rfl rfl) ?_
      refine AWL.nil ?_
      (refine hK _ ?_; clear hK K; (try simp only [nA, Nat.reduceBEq, Nat.reduceEqDiff, ↓reduceIte, Nat.reduceAdd, Nat.reduceSub]))
      skip
      refine AW.ret ?_; (try simp only [thenE, inBlk, Nat.reduceEqDiff, ↓reduceIte]); exact RQ.of0 rfl (.tmp (Nat.le_of_ble_eq_true rfl) rfl rfl .nil)
     ·
      (skip); have hc4 := hc; skip
      (refine AW.seq_k ?_; intro K hK)
      refine AW.region ?_
      (first | refine awP (op_eql rfl rfl rfl) ?_ | refine awP (op_seql rfl rfl rfl) ?_)
      refine awP (op_assign rfl rfl) ?_
      refine AWL.nil ?_
      (refine hK _ ?_; clear hK K; (try simp only [nA, Nat.reduceBEq, Nat.reduceEqDiff, ↓reduceIte, Nat.reduceAdd, Nat.reduceSub]))
      refine AW.cond rfl rfl rfl (fun hc => ?_) (fun hc => ?_)
      ·
       (skip); have hc5 := hc; obtain rfl : p = 6 := (by have := of_decide_eq_true hc5; omega)
       (refine AW.seq_k ?_; intro K hK)
       refine AW.region ?_
       (first | refine awP (op_fa_ptr rfl rfl rfl fl35_7 (by exact sz24) (by decide) rfl) ?_ | refine awP (op_fa_rop rfl rfl fl35_7 (by exact sz24) (by decide) (Nat.le_of_ble_eq_true rfl) rfl) ?_)
       (first | refine awR (op_load_ptr1 rfl rfl rfl rfl ag24 rfl rfl) ?_ | refine awR (op_load_rop1 rfl rfl ag24) ?_)
       refine awJ (OpQ.j (op_callQ (b := true) rfl en61 (C61 (l := x.reports) hx.r hx.rr) (RL.cons (by first | exact View.same rfl | exact View.nil | exact View.rof | exact View.src .ro | exact View.src .rof | exact View.src (.sl rfl rfl) | exact View.ptr rfl rfl rfl) (RL.cons (by first | exact View.same rfl | exact View.nil | exact View.rof | exact View.src .ro | exact View.src .rof | exact View.src (.sl rfl rfl) | exact View.ptr rfl rfl rfl) (RL.nil))) rfl)) ?_; (try simp only [nA, Nat.reduceBEq, Nat.reduceEqDiff, ↓reduceIte, Nat.reduceAdd, Nat.reduceSub])
       refine awP (op_not rfl rfl rfl) ?_
       refine awP (op_assign rfl rfl) ?_
       refine AWL.nil ?_
       (refine hK _ ?_; clear hK K; (try simp only [nA, Nat.reduceBEq, Nat.reduceEqDiff, ↓reduceIte, Nat.reduceAdd, Nat.reduceSub]))
       skip
       refine AW.ret ?_; (try simp only [thenE, inBlk, Nat.reduceEqDiff, ↓reduceIte]); rw [show prB x 6 = !(x.reports.any p62) from (not_any (p := p62) (fun r => by unfold p62 rpB; rw [Bool.not_and]) _).symm]; exact RQ.of0 rfl (.tmp (Nat.le_of_ble_eq_true rfl) rfl rfl .nil)
      ·
       (skip); have hc5 := hc; skip
       (refine AW.seq_k ?_; intro K hK)
       refine AW.region ?_
       (first | refine awP (op_eql rfl rfl rfl) ?_ | refine awP (op_seql rfl rfl rfl) ?_)
       refine awP (op_assign rfl rfl) ?_
       refine AWL.nil ?_
       (refine hK _ ?_; clear hK K; (try simp only [nA, Nat.reduceBEq, Nat.reduceEqDiff, ↓reduceIte, Nat.reduceAdd, Nat.reduceSub]))
       refine AW.cond rfl rfl rfl (fun hc => ?_) (fun hc => ?_)
       ·
        (skip); have hc6 := hc; obtain rfl : p = 7 := (by have := of_decide_eq_true hc6; omega)
        (refine AW.seq_k ?_; intro K hK)
        refine AW.region ?_
        (first | refine awP (op_fa_ptr rfl rfl rfl fl35_8 (by exact sz28) (by decide) rfl) ?_ | refine awP (op_fa_rop rfl rfl fl35_8 (by exact sz28) (by decide) (Nat.le_of_ble_eq_true rfl) rfl) ?_)
        (first | refine awR (op_load_ptr rfl rfl rfl rfl ag28 sz28 (Nat.le_of_ble_eq_true rfl) rfl) ?_ | refine awR (op_load_rop rfl rfl ag28 sz28 (Nat.le_of_ble_eq_true rfl) (by decide) rfl) ?_)
        refine awJ (op_alloc rfl ze28 rfl) ?_; (try simp only [nA, Nat.reduceBEq, Nat.reduceEqDiff, ↓reduceIte, Nat.reduceAdd, Nat.reduceSub])
        refine awJ (op_store rfl rfl rfl rfl rfl rfl sz28 rfl (Nat.le_of_ble_eq_true rfl) rfl) ?_; (try simp only [nA, Nat.reduceBEq, Nat.reduceEqDiff, ↓reduceIte, Nat.reduceAdd, Nat.reduceSub])
        refine AWL.nil ?_
        (refine hK _ ?_; clear hK K; (try simp only [nA, Nat.reduceBEq, Nat.reduceEqDiff, ↓reduceIte, Nat.reduceAdd, Nat.reduceSub]))
        (refine AW.seq_k ?_; intro K hK)
        refine AW.region (AWL.quiet ?_)
        (first | refine aqP (op_fa_ptr rfl rfl rfl fl28_0 (by exact sz3) (by decide) rfl) ?_ | refine aqP (op_fa_rop rfl rfl fl28_0 (by exact sz3) (by decide) (Nat.le_of_ble_eq_true rfl) rfl) ?_)
        (first | refine aqR (op_load_ptr1 rfl rfl rfl rfl ag3 rfl rfl) ?_ | refine aqR (op_load_rop1 rfl rfl ag3) ?_)
        refine aqQ (op_callQ (b := true) rfl en37 (C37 (n := x.rev.kind) (lo := 1) (hi := 5)) (RL.cons (by first | exact View.same rfl | exact View.nil | exact View.rof | exact View.src .ro | exact View.src .rof | exact View.src (.sl rfl rfl) | exact View.ptr rfl rfl rfl) (RL.cons (by first | exact View.same rfl | exact View.nil | exact View.rof | exact View.src .ro | exact View.src .rof | exact View.src (.sl rfl rfl) | exact View.ptr rfl rfl rfl) (RL.cons (by first | exact View.same rfl | exact View.nil | exact View.rof | exact View.src .ro | exact View.src .rof | exact View.src (.sl rfl rfl) | exact View.ptr rfl rfl rfl) (RL.nil)))) rfl) ?_; (try simp only [nA, Nat.reduceBEq, Nat.reduceEqDiff, ↓reduceIte, Nat.reduceAdd, Nat.reduceSub])
        refine aqP (op_move rfl rfl) ?_
        refine' aqAnd' [_, _, _] [41,42,43] rfl rfl rfl rfl rfl rfl rfl rfl rfl rfl rfl rfl (fun hb => ?_) ?_; rotate_left
        ·
         (try simp only [hcS] at hb)
         (first | refine aqP (op_fa_ptr rfl rfl rfl fl28_1 (by exact sz3) (by decide) rfl) ?_ | refine aqP (op_fa_rop rfl rfl fl28_1 (by exact sz3) (by decide) (Nat.le_of_ble_eq_true rfl) rfl) ?_)
         (first | refine aqR (op_load_ptr1 rfl rfl rfl rfl ag3 rfl rfl) ?_ | refine aqR (op_load_rop1 rfl rfl ag3) ?_)
         refine aqQ (op_callQ (b := true) rfl en37 (C37 (n := x.rev.amount) (lo := 0) (hi := 1048576)) (RL.cons (by first | exact View.same rfl | exact View.nil | exact View.rof | exact View.src .ro | exact View.src .rof | exact View.src (.sl rfl rfl) | exact View.ptr rfl rfl rfl) (RL.cons (by first | exact View.same rfl | exact View.nil | exact View.rof | exact View.src .ro | exact View.src .rof | exact View.src (.sl rfl rfl) | exact View.ptr rfl rfl rfl) (RL.cons (by first | exact View.same rfl | exact View.nil | exact View.rof | exact View.src .ro | exact View.src .rof | exact View.src (.sl rfl rfl) | exact View.ptr rfl rfl rfl) (RL.nil)))) rfl) ?_; (try simp only [nA, Nat.reduceBEq, Nat.reduceEqDiff, ↓reduceIte, Nat.reduceAdd, Nat.reduceSub])
         (refine aqSeg rfl rfl rfl ?_; repeat (first | exact fun _ _ => rfl | refine upd_out rfl ?_ | refine era_out rfl ?_))
        (try simp only [nA, Nat.reduceBEq, Nat.reduceEqDiff, ↓reduceIte, Nat.reduceAdd, Nat.reduceSub])
        refine aqP (op_move rfl rfl) ?_
        refine' aqAnd' [_, _, _] [46,47,48] rfl rfl rfl rfl rfl rfl rfl rfl rfl rfl rfl rfl (fun hb => ?_) ?_; rotate_left
        ·
         (try simp only [hcS] at hb)
         (first | refine aqP (op_fa_ptr rfl rfl rfl fl28_2 (by exact sz26) (by decide) rfl) ?_ | refine aqP (op_fa_rop rfl rfl fl28_2 (by exact sz26) (by decide) (Nat.le_of_ble_eq_true rfl) rfl) ?_)
         (first | refine aqR (op_load_ptr rfl rfl rfl rfl ag26 sz26 (Nat.le_of_ble_eq_true rfl) rfl) ?_ | refine aqR (op_load_rop rfl rfl ag26 sz26 (Nat.le_of_ble_eq_true rfl) (by decide) rfl) ?_)
         refine aqQ (op_callQ (b := true) rfl en64 (C64 (f := x.rev.fl)) (RL.cons (by first | exact View.same rfl | exact View.nil | exact View.rof | exact View.src .ro | exact View.src .rof | exact View.src (.sl rfl rfl) | exact View.ptr rfl rfl rfl) (RL.nil)) rfl) ?_; (try simp only [nA, Nat.reduceBEq, Nat.reduceEqDiff, ↓reduceIte, Nat.reduceAdd, Nat.reduceSub])
         (refine aqSeg rfl rfl rfl ?_; repeat (first | exact fun _ _ => rfl | refine upd_out rfl ?_ | refine era_out rfl ?_))
        (try simp only [nA, Nat.reduceBEq, Nat.reduceEqDiff, ↓reduceIte, Nat.reduceAdd, Nat.reduceSub])
        refine aqP (op_assign rfl rfl) ?_
        refine AQ.nil ?_
        (refine hK _ ?_; clear hK K; (try simp only [nA, Nat.reduceBEq, Nat.reduceEqDiff, ↓reduceIte, Nat.reduceAdd, Nat.reduceSub]))
        skip
        refine AW.ret ?_; (try simp only [thenE, inBlk, Nat.reduceEqDiff, ↓reduceIte]); exact RQ.of0 rfl (.tmp (Nat.le_of_ble_eq_true rfl) rfl rfl .nil)
       ·
        (skip); have hc6 := hc; skip
        (refine AW.seq_k ?_; intro K hK)
        refine AW.region ?_
        (first | refine awP (op_eql rfl rfl rfl) ?_ | refine awP (op_seql rfl rfl rfl) ?_)
        refine awP (op_assign rfl rfl) ?_
        refine AWL.nil ?_
        (refine hK _ ?_; clear hK K; (try simp only [nA, Nat.reduceBEq, Nat.reduceEqDiff, ↓reduceIte, Nat.reduceAdd, Nat.reduceSub]))
        refine AW.cond rfl rfl rfl (fun hc => ?_) (fun hc => ?_)
        ·
         (skip); have hc7 := hc; obtain rfl : p = 8 := (by have := of_decide_eq_true hc7; omega)
         (refine AW.seq_k ?_; intro K hK)
         refine AW.region ?_
         (first | refine awP (op_fa_ptr rfl rfl rfl fl35_9 (by exact sz3) (by decide) rfl) ?_ | refine awP (op_fa_rop rfl rfl fl35_9 (by exact sz3) (by decide) (Nat.le_of_ble_eq_true rfl) rfl) ?_)
         (first | refine awR (op_load_ptr1 rfl rfl rfl rfl ag3 rfl rfl) ?_ | refine awR (op_load_rop1 rfl rfl ag3) ?_)
         refine awJ (OpQ.j (op_callQ (b := true) rfl en37 (C37 (n := x.device) (lo := 1) (hi := 6)) (RL.cons (by first | exact View.same rfl | exact View.nil | exact View.rof | exact View.src .ro | exact View.src .rof | exact View.src (.sl rfl rfl) | exact View.ptr rfl rfl rfl) (RL.cons (by first | exact View.same rfl | exact View.nil | exact View.rof | exact View.src .ro | exact View.src .rof | exact View.src (.sl rfl rfl) | exact View.ptr rfl rfl rfl) (RL.cons (by first | exact View.same rfl | exact View.nil | exact View.rof | exact View.src .ro | exact View.src .rof | exact View.src (.sl rfl rfl) | exact View.ptr rfl rfl rfl) (RL.nil)))) rfl)) ?_; (try simp only [nA, Nat.reduceBEq, Nat.reduceEqDiff, ↓reduceIte, Nat.reduceAdd, Nat.reduceSub])
         refine awP (op_assign rfl rfl) ?_
         refine AWL.nil ?_
         (refine hK _ ?_; clear hK K; (try simp only [nA, Nat.reduceBEq, Nat.reduceEqDiff, ↓reduceIte, Nat.reduceAdd, Nat.reduceSub]))
         skip
         refine AW.ret ?_; (try simp only [thenE, inBlk, Nat.reduceEqDiff, ↓reduceIte]); exact RQ.of0 rfl (.tmp (Nat.le_of_ble_eq_true rfl) rfl rfl .nil)
        ·
         (skip); have hc7 := hc; skip
         (refine AW.seq_k ?_; intro K hK)
         refine AW.region ?_
         (first | refine awP (op_eql rfl rfl rfl) ?_ | refine awP (op_seql rfl rfl rfl) ?_)
         refine awP (op_assign rfl rfl) ?_
         refine AWL.nil ?_
         (refine hK _ ?_; clear hK K; (try simp only [nA, Nat.reduceBEq, Nat.reduceEqDiff, ↓reduceIte, Nat.reduceAdd, Nat.reduceSub]))
         refine AW.cond rfl rfl rfl (fun hc => ?_) (fun hc => ?_)
         ·
          (skip); have hc8 := hc; obtain rfl : p = 9 := (by have := of_decide_eq_true hc8; omega)
          (refine AW.seq_k ?_; intro K hK)
          refine AW.region (AWL.quiet ?_)
          (first | refine aqP (op_fa_ptr rfl rfl rfl fl35_10 (by exact sz32) (by decide) rfl) ?_ | refine aqP (op_fa_rop rfl rfl fl35_10 (by exact sz32) (by decide) (Nat.le_of_ble_eq_true rfl) rfl) ?_)
          (first | refine aqR (op_load_ptr rfl rfl rfl rfl ag32 sz32 (Nat.le_of_ble_eq_true rfl) rfl) ?_ | refine aqR (op_load_rop rfl rfl ag32 sz32 (Nat.le_of_ble_eq_true rfl) (by decide) rfl) ?_)
          refine aqQ (op_callQ (b := true) rfl en65 (C65 (o := x.op)) (RL.cons (by first | exact View.same rfl | exact View.nil | exact View.rof | exact View.src .ro | exact View.src .rof | exact View.src (.sl rfl rfl) | exact View.ptr rfl rfl rfl) (RL.nil)) rfl) ?_; (try simp only [nA, Nat.reduceBEq, Nat.reduceEqDiff, ↓reduceIte, Nat.reduceAdd, Nat.reduceSub])
          refine aqP (op_move rfl rfl) ?_
          refine' aqAnd' [_, _, _, _, _, _, _, _] [61,62,63,64,65,66,67,68] rfl rfl rfl rfl rfl rfl rfl rfl rfl rfl rfl rfl (fun hb => ?_) ?_; rotate_left
          ·
           (try simp only [hcS] at hb)
           (first | refine aqP (op_fa_ptr rfl rfl rfl fl35_10 (by exact sz32) (by decide) rfl) ?_ | refine aqP (op_fa_rop rfl rfl fl35_10 (by exact sz32) (by decide) (Nat.le_of_ble_eq_true rfl) rfl) ?_)
           (first | refine aqP (op_fa_ptr rfl rfl rfl fl32_3 (by exact sz3) (by decide) rfl) ?_ | refine aqP (op_fa_rop rfl rfl fl32_3 (by exact sz3) (by decide) (Nat.le_of_ble_eq_true rfl) rfl) ?_)
           (first | refine aqR (op_load_ptr1 rfl rfl rfl rfl ag3 rfl rfl) ?_ | refine aqR (op_load_rop1 rfl rfl ag3) ?_)
           (first | refine aqP (op_eql rfl rfl rfl) ?_ | refine aqP (op_seql rfl rfl rfl) ?_)
           (first | refine aqP (op_fa_ptr rfl rfl rfl fl35_0 (by exact sz3) (by decide) rfl) ?_ | refine aqP (op_fa_rop rfl rfl fl35_0 (by exact sz3) (by decide) (Nat.le_of_ble_eq_true rfl) rfl) ?_)
           (first | refine aqR (op_load_ptr1 rfl rfl rfl rfl ag3 rfl rfl) ?_ | refine aqR (op_load_rop1 rfl rfl ag3) ?_)
           (first | refine aqP (op_eql rfl rfl rfl) ?_ | refine aqP (op_seql rfl rfl rfl) ?_)
           (first | refine aqP (op_eql rfl rfl rfl) ?_ | refine aqP (op_seql rfl rfl rfl) ?_ | refine aqP (op_beql rfl rfl rfl Tryd.underlying4) ?_)
           (refine aqSeg rfl rfl rfl ?_; repeat (first | exact fun _ _ => rfl | refine upd_out rfl ?_ | refine era_out rfl ?_))
          (try simp only [nA, Nat.reduceBEq, Nat.reduceEqDiff, ↓reduceIte, Nat.reduceAdd, Nat.reduceSub])
          refine aqP (op_assign rfl rfl) ?_
          refine AQ.nil ?_
          (refine hK _ ?_; clear hK K; (try simp only [nA, Nat.reduceBEq, Nat.reduceEqDiff, ↓reduceIte, Nat.reduceAdd, Nat.reduceSub]))
          skip
          refine AW.ret ?_; (try simp only [thenE, inBlk, Nat.reduceEqDiff, ↓reduceIte]); exact RQ.of0 rfl (.tmp (Nat.le_of_ble_eq_true rfl) rfl rfl .nil)
         ·
          (skip); have hc8 := hc; skip
          (refine AW.seq_k ?_; intro K hK)
          refine AW.region ?_
          (first | refine awP (op_eql rfl rfl rfl) ?_ | refine awP (op_seql rfl rfl rfl) ?_)
          refine awP (op_assign rfl rfl) ?_
          refine AWL.nil ?_
          (refine hK _ ?_; clear hK K; (try simp only [nA, Nat.reduceBEq, Nat.reduceEqDiff, ↓reduceIte, Nat.reduceAdd, Nat.reduceSub]))
          refine AW.cond rfl rfl rfl (fun hc => ?_) (fun hc => ?_)
          ·
           (skip); have hc9 := hc; obtain rfl : p = 10 := (by have := of_decide_eq_true hc9; omega); refine AW.gh (Gh.freezeP 2 (Nat.le_of_ble_eq_true rfl) rfl rfl (evav_flat x)) ?_; (try simp only [nA, Nat.reduceBEq, Nat.reduceEqDiff, ↓reduceIte, Nat.reduceAdd, Nat.reduceSub])
           (refine AW.seq_k ?_; intro K hK)
           refine AW.region ?_
           (first | refine awP (op_fa_ptr rfl rfl rfl fl35_11 (by exact sz33) (by decide) rfl) ?_ | refine awP (op_fa_rop rfl rfl fl35_11 (by exact sz33) (by decide) (Nat.le_of_ble_eq_true rfl) rfl) ?_)
           (first | refine awR (op_load_ptr1 rfl rfl rfl rfl ag33 rfl rfl) ?_ | refine awR (op_load_rop1 rfl rfl ag33) ?_)
           refine awP (op_makeFunc rfl rfl rfl) ?_
           refine awJ (OpQ.j (op_callQ (b := true) rfl en66 (C66 (x := x) (l := x.ops) hx.o) (RL.cons (by first | exact View.same rfl | exact View.nil | exact View.rof | exact View.src .ro | exact View.src .rof | exact View.src (.sl rfl rfl) | exact View.ptr rfl rfl rfl) (RL.cons (by first | exact View.same rfl | exact View.nil | exact View.rof | exact View.src .ro | exact View.src .rof | exact View.src (.sl rfl rfl) | exact View.ptr rfl rfl rfl) (RL.nil))) rfl)) ?_; (try simp only [nA, Nat.reduceBEq, Nat.reduceEqDiff, ↓reduceIte, Nat.reduceAdd, Nat.reduceSub])
           refine awP (op_not rfl rfl rfl) ?_
           refine awP (op_assign rfl rfl) ?_
           refine AWL.nil ?_
           (refine hK _ ?_; clear hK K; (try simp only [nA, Nat.reduceBEq, Nat.reduceEqDiff, ↓reduceIte, Nat.reduceAdd, Nat.reduceSub]))
           skip
           refine AW.ret ?_; (try simp only [thenE, inBlk, Nat.reduceEqDiff, ↓reduceIte]); rw [show prB x 10 = !(x.ops.any (p67 x)) from (not_any (p := p67 x) (fun r => by unfold p67; rw [Bool.not_and]) _).symm]; exact RQ.of0 rfl (.tmp (Nat.le_of_ble_eq_true rfl) rfl rfl .nil)
          ·
           (skip); have hc9 := hc; skip
           (refine AW.seq_k ?_; intro K hK)
           refine AW.region ?_
           (first | refine awP (op_eql rfl rfl rfl) ?_ | refine awP (op_seql rfl rfl rfl) ?_)
           refine awP (op_assign rfl rfl) ?_
           refine AWL.nil ?_
           (refine hK _ ?_; clear hK K; (try simp only [nA, Nat.reduceBEq, Nat.reduceEqDiff, ↓reduceIte, Nat.reduceAdd, Nat.reduceSub]))
           refine AW.cond rfl rfl rfl (fun hc => ?_) (fun hc => ?_)
           ·
            (skip); have hc10 := hc; obtain rfl : p = 11 := (by have := of_decide_eq_true hc10; omega)
            (refine AW.seq_k ?_; intro K hK)
            refine AW.region ?_
            (first | refine awP (op_fa_ptr rfl rfl rfl fl35_12 (by exact sz26) (by decide) rfl) ?_ | refine awP (op_fa_rop rfl rfl fl35_12 (by exact sz26) (by decide) (Nat.le_of_ble_eq_true rfl) rfl) ?_)
            (first | refine awR (op_load_ptr rfl rfl rfl rfl ag26 sz26 (Nat.le_of_ble_eq_true rfl) rfl) ?_ | refine awR (op_load_rop rfl rfl ag26 sz26 (Nat.le_of_ble_eq_true rfl) (by decide) rfl) ?_)
            refine awJ (OpQ.j (op_callQ (b := true) rfl en64 (C64 (f := x.fl)) (RL.cons (by first | exact View.same rfl | exact View.nil | exact View.rof | exact View.src .ro | exact View.src .rof | exact View.src (.sl rfl rfl) | exact View.ptr rfl rfl rfl) (RL.nil)) rfl)) ?_; (try simp only [nA, Nat.reduceBEq, Nat.reduceEqDiff, ↓reduceIte, Nat.reduceAdd, Nat.reduceSub])
            refine awP (op_assign rfl rfl) ?_
            refine AWL.nil ?_
            (refine hK _ ?_; clear hK K; (try simp only [nA, Nat.reduceBEq, Nat.reduceEqDiff, ↓reduceIte, Nat.reduceAdd, Nat.reduceSub]))
            skip
            refine AW.ret ?_; (try simp only [thenE, inBlk, Nat.reduceEqDiff, ↓reduceIte]); exact RQ.of0 rfl (.tmp (Nat.le_of_ble_eq_true rfl) rfl rfl .nil)
           ·
            (skip); have hc10 := hc; skip
            refine AW.skip ?_
            (try simp only [thenE, inBlk, Nat.reduceEqDiff, ↓reduceIte])
            (refine hK _ ?_; clear hK K; (try simp only [nA, Nat.reduceBEq, Nat.reduceEqDiff, ↓reduceIte, Nat.reduceAdd, Nat.reduceSub]))
            (refine AW.seq_k ?_; intro K hK)
            refine AW.region ?_
            refine awP (op_assign rfl rfl) ?_
            refine AWL.nil ?_
            (refine hK _ ?_; clear hK K; (try simp only [nA, Nat.reduceBEq, Nat.reduceEqDiff, ↓reduceIte, Nat.reduceAdd, Nat.reduceSub]))
            skip
            refine AW.ret ?_; (try simp only [thenE, inBlk, Nat.reduceEqDiff, ↓reduceIte]); rw [prB_rest (by simp only [decide_eq_false_iff_not] at hc1 hc2 hc3 hc4 hc5 hc6 hc7 hc8 hc9 hc10; omega)]; exact RQ.of0 rfl (.tmp (Nat.le_of_ble_eq_true rfl) rfl rfl .nil)
end Go.Proofs.YtfmnaigedgmhoaaDoor
namespace Go.Proofs.YtfmnaigedgmhoaaDoor
open Go.RowKit
set_option linter.unusedSimpArgs false
set_option linter.unusedVariables false
set_option maxRecDepth 100000
theorem sameB_iff {x y : Ev} : sameB x y = true ↔ x = y := by
  unfold sameB
  exact @decide_eq_true_iff _ (Classical.propDecidable _)
theorem val_k {x : Ev} (h : inB x.kind 1 14 = false) : valV x = 4 := by
  unfold valV; rw [if_pos h]
theorem val_s {x : Ev} (h : inB x.kind 1 14 = true) (h2 : sameB x (onlyV x) = false) : valV x = 7 := by
  have : x ≠ onlyV x := fun e => by rw [sameB_iff.2 e] at h2; cases h2
  unfold valV; rw [if_neg (by rw [h]; decide), if_pos this]
theorem val_l {x : Ev} (h : inB x.kind 1 14 = true) (h2 : sameB x (onlyV x) = true) (h3 : limB x = true) : valV x = 2 := by
  have e := sameB_iff.1 h2
  unfold valV; rw [if_neg (by rw [h]; decide), if_neg (fun h => h e), if_pos h3]
theorem val_r {x : Ev} (h : inB x.kind 1 14 = true) (h2 : sameB x (onlyV x) = true) (h3 : limB x = false) (h4 : (fieldsL x.kind).all (prB x) = false) : valV x = 1 := by
  have e := sameB_iff.1 h2
  unfold valV; rw [if_neg (by rw [h]; decide), if_neg (fun h => h e), if_neg (by rw [h3]; decide), if_pos h4]
theorem val_a {x : Ev} (h : inB x.kind 1 14 = true) (h2 : sameB x (onlyV x) = true) (h3 : limB x = false) (h4 : (fieldsL x.kind).all (prB x) = true) (h5 : ascR x.reports = false) : valV x = 9 := by
  have e := sameB_iff.1 h2
  unfold valV; rw [if_neg (by rw [h]; decide), if_neg (fun h => h e), if_neg (by rw [h3]; decide), if_neg (by rw [h4]; decide), if_pos h5]
theorem val_0 {x : Ev} (h : inB x.kind 1 14 = true) (h2 : sameB x (onlyV x) = true) (h3 : limB x = false) (h4 : (fieldsL x.kind).all (prB x) = true) (h5 : ascR x.reports = true) : valV x = 0 := by
  have e := sameB_iff.1 h2
  unfold valV; rw [if_neg (by rw [h]; decide), if_neg (fun h => h e), if_neg (by rw [h3]; decide), if_neg (by rw [h4]; decide), if_neg (by rw [h5]; decide)]
theorem C39i {x : Ev} {p : Int} (hx : x.Sm) (h : 0 ≤ p) : Fn Tryd.prog 39 [] [.agg x.av, .v (.int .i64 p)] [.v (.bool (prB x p.toNat))] [] := by
  obtain ⟨n, rfl⟩ := Int.eq_ofNat_of_zero_le h
  exact C39 hx
theorem flds_all {k : Int} {f : Nat → Bool} : (fieldsL k).all f = (fldI k).all fun p => f p.toNat := by
  unfold fldI
  rw [List.all_map]
  rfl
theorem flds_no {k : Int} {f : Nat → Bool} {i : Nat} (hi : i < (fldI k).length) (h : f ((fldI k).getD i default).toNat = false) : (fieldsL k).all f = false := by
  rw [flds_all, List.all_eq_false]
  rw [getD_of hi] at h
  exact ⟨_, List.getElem_mem hi, by rw [h]; simp⟩
theorem flds_yes {k : Int} {f : Nat → Bool} (h : ∀ i, i < (fldI k).length → f ((fldI k).getD i default).toNat = true) : (fieldsL k).all f = true := by
  rw [flds_all, List.all_eq_true]
  intro p hp
  obtain ⟨i, hi, rfl⟩ := List.getElem_of_mem hp
  have := h i hi
  rw [getD_of hi] at this
  exact this
theorem asc_no {l : List Report} {i : Nat} (h0 : 1 ≤ i) (hi : i < l.length) (h : decide ((l.getD i default).device ≤ (l.getD (i - 1) default).device) = true) : ascR l = false := by
  refine all_range_no hi ?_
  rw [Bool.or_eq_false_iff]
  refine ⟨decide_eq_false (by omega), decide_eq_false fun h' => ?_⟩
  have h1 := of_decide_eq_true h
  have h2 : (l.getD (i - 1) default).device < (l.getD i default).device := h'
  omega
theorem asc_yes {l : List Report} {i : Nat} (hi : ¬ i < l.length) (h : ∀ k, 1 ≤ k → k < i → (l.getD (k - 1) default).device < (l.getD k default).device) : ascR l = true := by
  refine all_range_yes hi fun k hk => ?_
  rw [Bool.or_eq_true]
  by_cases h0 : k = 0
  · exact .inl (decide_eq_true h0)
  · exact .inr (decide_eq_true (h k (by omega) hk))
theorem C15 {x : Ev} (hx : x.Sm) : Fn Tryd.prog 15 [] [.agg x.av] [.v (.int .i64 (valV x))] [] := by
  have hrl := hx.r
  have hol := hx.o
  have htl := hx.t
  refine Spec.body Tryd.func15 rfl Tryd.ntmps15 (by simp) rfl ?_; intro S0 own0 v0 w0 gl
  (refine AW.seq_k ?_; intro K hK)
  refine AW.region ?_
  refine awJ (op_box rfl rfl rfl sz35 rfl) ?_; (try simp only [nA, Nat.reduceBEq, Nat.reduceEqDiff, ↓reduceIte, Nat.reduceAdd, Nat.reduceSub])
  refine awP (op_assign rfl rfl) ?_
  refine AWL.nil ?_
  (refine hK _ ?_; clear hK K; (try simp only [nA, Nat.reduceBEq, Nat.reduceEqDiff, ↓reduceIte, Nat.reduceAdd, Nat.reduceSub]))
  (refine AW.seq_k ?_; intro K hK)
  (refine AW.seq_k ?_; intro K hK)
  refine AW.region ?_
  (first | refine awP (op_fa_ptr rfl rfl rfl fl35_0 (by exact sz3) (by decide) rfl) ?_ | refine awP (op_fa_rop rfl rfl fl35_0 (by exact sz3) (by decide) (Nat.le_of_ble_eq_true rfl) rfl) ?_)
  (first | refine awR (op_load_ptr1 rfl rfl rfl rfl ag3 rfl rfl) ?_ | refine awR (op_load_rop1 rfl rfl ag3) ?_)
  refine awJ (OpQ.j (op_callQ (b := true) rfl en37 (C37 (n := x.kind) (lo := 1) (hi := 14)) (RL.cons (by first | exact View.same rfl | exact View.nil | exact View.rof | exact View.src .ro | exact View.src .rof | exact View.src (.sl rfl rfl) | exact View.ptr rfl rfl rfl) (RL.cons (by first | exact View.same rfl | exact View.nil | exact View.rof | exact View.src .ro | exact View.src .rof | exact View.src (.sl rfl rfl) | exact View.ptr rfl rfl rfl) (RL.cons (by first | exact View.same rfl | exact View.nil | exact View.rof | exact View.src .ro | exact View.src .rof | exact View.src (.sl rfl rfl) | exact View.ptr rfl rfl rfl) (RL.nil)))) rfl)) ?_; (try simp only [nA, Nat.reduceBEq, Nat.reduceEqDiff, ↓reduceIte, Nat.reduceAdd, Nat.reduceSub])
  refine awP (op_not rfl rfl rfl) ?_
  refine AWL.nil ?_
  (refine hK _ ?_; clear hK K; (try simp only [nA, Nat.reduceBEq, Nat.reduceEqDiff, ↓reduceIte, Nat.reduceAdd, Nat.reduceSub]))
  refine AW.cond rfl rfl rfl (fun hc => ?_) (fun hc => ?_)
  ·
   (skip); have hc1 := hc; skip
   (refine AW.seq_k ?_; intro K hK)
   refine AW.region ?_
   refine awP (op_assign rfl rfl) ?_
   refine AWL.nil ?_
   (refine hK _ ?_; clear hK K; (try simp only [nA, Nat.reduceBEq, Nat.reduceEqDiff, ↓reduceIte, Nat.reduceAdd, Nat.reduceSub]))
   skip
   refine AW.ret ?_; (try simp only [thenE, inBlk, Nat.reduceEqDiff, ↓reduceIte]); rw [val_k (by simpa using hc1)]; exact RQ.of0 rfl (.tmp (Nat.le_of_ble_eq_true rfl) rfl rfl .nil)
  ·
   (skip); have hc1 := hc; have hk0 : inB x.kind 1 14 = true := (by simpa using hc1); have hk := inB_iff.1 hk0
   refine AW.skip ?_
   (refine hK _ ?_; clear hK K; (try simp only [nA, Nat.reduceBEq, Nat.reduceEqDiff, ↓reduceIte, Nat.reduceAdd, Nat.reduceSub]))
   (refine AW.seq_k ?_; intro K hK)
   (refine AW.seq_k ?_; intro K hK)
   refine AW.region ?_
   (first | refine awR (op_load_ptr rfl rfl rfl rfl ag35 sz35 (Nat.le_of_ble_eq_true rfl) rfl) ?_ | refine awR (op_load_rop rfl rfl ag35 sz35 (Nat.le_of_ble_eq_true rfl) (by decide) rfl) ?_)
   refine awJ (OpQ.j (op_callQ (b := true) rfl en38 (C38 (x := x) hk hx.r hx.o) (RL.cons (by first | exact View.same rfl | exact View.nil | exact View.rof | exact View.src .ro | exact View.src .rof | exact View.src (.sl rfl rfl) | exact View.ptr rfl rfl rfl) (RL.nil)) rfl)) ?_; (try simp only [nA, Nat.reduceBEq, Nat.reduceEqDiff, ↓reduceIte, Nat.reduceAdd, Nat.reduceSub])
   refine awP (op_not rfl rfl rfl) ?_
   refine AWL.nil ?_
   (refine hK _ ?_; clear hK K; (try simp only [nA, Nat.reduceBEq, Nat.reduceEqDiff, ↓reduceIte, Nat.reduceAdd, Nat.reduceSub]))
   refine AW.cond rfl rfl rfl (fun hc => ?_) (fun hc => ?_)
   ·
    (skip); have hc2 := hc; skip
    (refine AW.seq_k ?_; intro K hK)
    refine AW.region ?_
    refine awP (op_assign rfl rfl) ?_
    refine AWL.nil ?_
    (refine hK _ ?_; clear hK K; (try simp only [nA, Nat.reduceBEq, Nat.reduceEqDiff, ↓reduceIte, Nat.reduceAdd, Nat.reduceSub]))
    skip
    refine AW.ret ?_; (try simp only [thenE, inBlk, Nat.reduceEqDiff, ↓reduceIte]); rw [val_s hk0 (by simpa using hc2)]; exact RQ.of0 rfl (.tmp (Nat.le_of_ble_eq_true rfl) rfl rfl .nil)
   ·
    (skip); have hc2 := hc; have hs0 : sameB x (onlyV x) = true := (by simpa using hc2)
    refine AW.skip ?_
    (refine hK _ ?_; clear hK K; (try simp only [nA, Nat.reduceBEq, Nat.reduceEqDiff, ↓reduceIte, Nat.reduceAdd, Nat.reduceSub]))
    (refine AW.seq_k ?_; intro K hK)
    (refine AW.seq_k ?_; intro K hK)
    refine AW.region (AWL.quiet ?_)
    (first | refine aqP (op_fa_ptr rfl rfl rfl fl35_2 (by exact sz9) (by decide) rfl) ?_ | refine aqP (op_fa_rop rfl rfl fl35_2 (by exact sz9) (by decide) (Nat.le_of_ble_eq_true rfl) rfl) ?_)
    (first | refine aqR (op_load_ptr1 rfl rfl rfl rfl ag9 rfl rfl) ?_ | refine aqR (op_load_rop1 rfl rfl ag9) ?_)
    (first | refine aqP (op_len_ro rfl rfl Tryd.underlying9 (by first | exact .inr (.inl ⟨_, rfl, rfl⟩) | exact .inl rfl | exact .inr (.inr (.inl ⟨_, rfl, rfl⟩)) | exact .inr (.inr (.inr ⟨rfl, rfl⟩)))) ?_ | refine aqP (op_len_sl rfl rfl rfl Tryd.underlying9) ?_ | refine aqP (op_len_str rfl rfl Tryd.underlying9) ?_)
    refine aqP (op_gtr rfl rfl rfl) ?_
    refine aqP (op_move rfl rfl) ?_
    refine' aqOr' [_, _, _, _] [18,19,20,21] rfl rfl rfl rfl rfl rfl rfl rfl rfl rfl rfl rfl (fun hb => ?_) ?_; rotate_left
    ·
     (try simp only [hcS] at hb)
     (first | refine aqP (op_fa_ptr rfl rfl rfl fl35_7 (by exact sz24) (by decide) rfl) ?_ | refine aqP (op_fa_rop rfl rfl fl35_7 (by exact sz24) (by decide) (Nat.le_of_ble_eq_true rfl) rfl) ?_)
     (first | refine aqR (op_load_ptr1 rfl rfl rfl rfl ag24 rfl rfl) ?_ | refine aqR (op_load_rop1 rfl rfl ag24) ?_)
     refine aqP (op_len_ro (n := x.reports.length) rfl rfl Tryd.underlying24 (.inr (.inl ⟨_, rfl, by simp⟩))) ?_
     refine aqP (op_gtr rfl rfl rfl) ?_
     (refine aqSeg rfl rfl rfl ?_; repeat (first | exact fun _ _ => rfl | refine upd_out rfl ?_ | refine era_out rfl ?_))
    (try simp only [nA, Nat.reduceBEq, Nat.reduceEqDiff, ↓reduceIte, Nat.reduceAdd, Nat.reduceSub])
    refine aqP (op_move rfl rfl) ?_
    refine' aqOr' [_, _, _, _] [24,25,26,27] rfl rfl rfl rfl rfl rfl rfl rfl rfl rfl rfl rfl (fun hb => ?_) ?_; rotate_left
    ·
     (try simp only [hcS] at hb)
     (first | refine aqP (op_fa_ptr rfl rfl rfl fl35_11 (by exact sz33) (by decide) rfl) ?_ | refine aqP (op_fa_rop rfl rfl fl35_11 (by exact sz33) (by decide) (Nat.le_of_ble_eq_true rfl) rfl) ?_)
     (first | refine aqR (op_load_ptr1 rfl rfl rfl rfl ag33 rfl rfl) ?_ | refine aqR (op_load_rop1 rfl rfl ag33) ?_)
     refine aqP (op_len_ro (n := x.ops.length) rfl rfl Tryd.underlying33 (.inr (.inl ⟨_, rfl, by simp⟩))) ?_
     refine aqP (op_gtr rfl rfl rfl) ?_
     (refine aqSeg rfl rfl rfl ?_; repeat (first | exact fun _ _ => rfl | refine upd_out rfl ?_ | refine era_out rfl ?_))
    (try simp only [nA, Nat.reduceBEq, Nat.reduceEqDiff, ↓reduceIte, Nat.reduceAdd, Nat.reduceSub])
    refine AQ.nil ?_
    (refine hK _ ?_; clear hK K; (try simp only [nA, Nat.reduceBEq, Nat.reduceEqDiff, ↓reduceIte, Nat.reduceAdd, Nat.reduceSub]))
    refine AW.cond rfl rfl rfl (fun hc => ?_) (fun hc => ?_)
    ·
     (skip); have hc3 := hc; skip
     (refine AW.seq_k ?_; intro K hK)
     refine AW.region ?_
     refine awP (op_assign rfl rfl) ?_
     refine AWL.nil ?_
     (refine hK _ ?_; clear hK K; (try simp only [nA, Nat.reduceBEq, Nat.reduceEqDiff, ↓reduceIte, Nat.reduceAdd, Nat.reduceSub]))
     skip
     refine AW.ret ?_; (try simp only [thenE, inBlk, Nat.reduceEqDiff, ↓reduceIte]); rw [val_l hk0 hs0 hc3]; exact RQ.of0 rfl (.tmp (Nat.le_of_ble_eq_true rfl) rfl rfl .nil)
    ·
     (skip); have hc3 := hc; have hl0 : limB x = false := hc3
     refine AW.skip ?_
     (refine hK _ ?_; clear hK K; (try simp only [nA, Nat.reduceBEq, Nat.reduceEqDiff, ↓reduceIte, Nat.reduceAdd, Nat.reduceSub]))
     (refine AW.seq_k ?_; intro K hK)
     (refine AW.seq_k ?_; intro K hK)
     refine AW.region ?_
     (first | refine awP (op_fa_ptr rfl rfl rfl fl35_0 (by exact sz3) (by decide) rfl) ?_ | refine awP (op_fa_rop rfl rfl fl35_0 (by exact sz3) (by decide) (Nat.le_of_ble_eq_true rfl) rfl) ?_)
     (first | refine awR (op_load_ptr1 rfl rfl rfl rfl ag3 rfl rfl) ?_ | refine awR (op_load_rop1 rfl rfl ag3) ?_)
     refine awP (op_ia_glob x.kind.toNat rfl rfl Tryd.underlying79 (by omega) (fldI_row hk) (by exact sz78)) ?_
     (first | refine awR (op_load_ptr1 rfl rfl rfl rfl ag78 rfl rfl) ?_ | refine awR (op_load_rop1 rfl rfl ag78) ?_)
     refine awP (op_len_ro (n := (fldI x.kind).length) rfl rfl Tryd.underlying78 (.inr (.inl ⟨_, rfl, by simp⟩))) ?_
     refine awP (op_move rfl rfl) ?_
     refine AWL.nil ?_
     (refine hK _ ?_; clear hK K; (try simp only [nA, Nat.reduceBEq, Nat.reduceEqDiff, ↓reduceIte, Nat.reduceAdd, Nat.reduceSub]))
     refine AW.block ?_
     refine AW.loopI (fun i => [(1, .ptr 0 1 0 0), (32, .ro ((fldI x.kind).map fun n => [.v (.int .i64 n)])), (33, .v (.int .i64 (fldI x.kind).length)), (34, .v (.int .i64 (i : Nat)))]) (fun i => ⟨[(1, .own 35 [x.av])], 2⟩) (fun i => i ≤ (fldI x.kind).length ∧ ∀ k, k < i → prB x ((fldI x.kind).getD k default).toNat = true) (fun i => (fldI x.kind).length - i) 0 (by simp) ⟨rfl, rfl, rfl, rfl, trivial⟩ rfl ?_; intro i ρ hi; simp only [updL]; (try simp only [nA, Nat.reduceBEq, Nat.reduceEqDiff, ↓reduceIte, Nat.reduceAdd, Nat.reduceSub]); have hfl := fldI_len x.kind
     (refine AW.seq_k ?_; intro K hK)
     refine AW.region ?_
     refine awP (op_lss rfl rfl rfl) ?_
     refine AWL.nil ?_
     (refine hK _ ?_; clear hK K; (try simp only [nA, Nat.reduceBEq, Nat.reduceEqDiff, ↓reduceIte, Nat.reduceAdd, Nat.reduceSub]))
     (refine AW.seq_k ?_; intro K hK)
     refine AW.cond rfl rfl rfl (fun hc => ?_) (fun hc => ?_)
     ·
      (skip); have hc4 := hc; have hlt : i < (fldI x.kind).length := (by simpa using hc4); have hpb := fldI_bd hlt
      refine AW.skip ?_
      (refine hK _ ?_; clear hK K; (try simp only [nA, Nat.reduceBEq, Nat.reduceEqDiff, ↓reduceIte, Nat.reduceAdd, Nat.reduceSub]))
      (refine AW.seq_k ?_; intro K hK)
      refine AW.block ?_
      (refine AW.seq_k ?_; intro K hK)
      refine AW.region ?_
      refine awP (op_ia_ro i rfl (.inl rfl) rfl Tryd.underlying78 rfl (get_mapD (by omega)) (by exact sz80) (Nat.le_of_ble_eq_true rfl)) ?_
      (first | refine awR (op_load_ptr1 rfl rfl rfl rfl ag80 rfl rfl) ?_ | refine awR (op_load_rop1 rfl rfl ag80) ?_)
      refine awP (op_assign rfl rfl) ?_
      refine AWL.nil ?_
      (refine hK _ ?_; clear hK K; (try simp only [nA, Nat.reduceBEq, Nat.reduceEqDiff, ↓reduceIte, Nat.reduceAdd, Nat.reduceSub]))
      (refine AW.seq_k ?_; intro K hK)
      refine AW.region ?_
      (first | refine awR (op_load_ptr rfl rfl rfl rfl ag35 sz35 (Nat.le_of_ble_eq_true rfl) rfl) ?_ | refine awR (op_load_rop rfl rfl ag35 sz35 (Nat.le_of_ble_eq_true rfl) (by decide) rfl) ?_)
      refine awP (op_move rfl rfl) ?_
      refine awJ (OpQ.j (op_callQ (b := true) rfl en39 (C39i (x := x) (p := (fldI x.kind).getD i default) hx hpb.1) (RL.cons (by first | exact View.same rfl | exact View.nil | exact View.rof | exact View.src .ro | exact View.src .rof | exact View.src (.sl rfl rfl) | exact View.ptr rfl rfl rfl) (RL.cons (by first | exact View.same rfl | exact View.nil | exact View.rof | exact View.src .ro | exact View.src .rof | exact View.src (.sl rfl rfl) | exact View.ptr rfl rfl rfl) (RL.nil))) rfl)) ?_; (try simp only [nA, Nat.reduceBEq, Nat.reduceEqDiff, ↓reduceIte, Nat.reduceAdd, Nat.reduceSub])
      refine awP (op_not rfl rfl rfl) ?_
      refine AWL.nil ?_
      (refine hK _ ?_; clear hK K; (try simp only [nA, Nat.reduceBEq, Nat.reduceEqDiff, ↓reduceIte, Nat.reduceAdd, Nat.reduceSub]))
      refine AW.cond rfl rfl rfl (fun hc => ?_) (fun hc => ?_)
      ·
       (skip); have hc5 := hc; skip
       (refine AW.seq_k ?_; intro K hK)
       refine AW.region ?_
       refine awP (op_assign rfl rfl) ?_
       refine AWL.nil ?_
       (refine hK _ ?_; clear hK K; (try simp only [nA, Nat.reduceBEq, Nat.reduceEqDiff, ↓reduceIte, Nat.reduceAdd, Nat.reduceSub]))
       skip
       refine AW.ret ?_; (try simp only [thenE, inBlk, Nat.reduceEqDiff, ↓reduceIte]); rw [val_r hk0 hs0 hl0 (flds_no hlt (by simpa using hc5))]; exact RQ.of0 rfl (.tmp (Nat.le_of_ble_eq_true rfl) rfl rfl .nil)
      ·
       (skip); have hc5 := hc; skip
       refine AW.skip ?_
       (try simp only [thenE, inBlk, Nat.reduceEqDiff, ↓reduceIte])
       (refine hK _ ?_; clear hK K; (try simp only [nA, Nat.reduceBEq, Nat.reduceEqDiff, ↓reduceIte, Nat.reduceAdd, Nat.reduceSub]))
       refine AW.region ?_
       (first | refine awP (op_addi rfl rfl rfl (by omega)) ?_ | refine awP (op_add rfl rfl rfl rfl) ?_)
       refine awP (op_move rfl rfl) ?_
       skip
       refine AWL.nil ?_
       refine ⟨i + 1, ⟨by omega, all_b_step (f := fun k => prB x ((fldI x.kind).getD k default).toNat) hi.2 (by simpa using hc5)⟩, by omega, ⟨rfl, rfl, rfl, rfl, trivial⟩, (by first | rfl | trivial), (by first | rfl | trivial)⟩
     ·
      (skip); have hc4 := hc; have hnl : ¬ i < (fldI x.kind).length := (by simpa using hc4); have hp0 : (fieldsL x.kind).all (prB x) = true := flds_yes (fun k hk => hi.2 k (by omega)); clear hi hnl
      refine AW.exit ?_; (try simp only [thenE, inBlk, Nat.reduceEqDiff, ↓reduceIte])
      clear hK K
      (refine hK _ ?_; clear hK K; (try simp only [nA, Nat.reduceBEq, Nat.reduceEqDiff, ↓reduceIte, Nat.reduceAdd, Nat.reduceSub]))
      (refine AW.seq_k ?_; intro K hK)
      (refine AW.seq_k ?_; intro K hK)
      refine AW.region ?_
      refine awP (op_assign rfl rfl) ?_
      refine AWL.nil ?_
      (refine hK _ ?_; clear hK K; (try simp only [nA, Nat.reduceBEq, Nat.reduceEqDiff, ↓reduceIte, Nat.reduceAdd, Nat.reduceSub]))
      refine AW.block ?_
      refine AW.loopI (fun j => [(1, .ptr 0 1 0 0), (5, .v (.int .i64 (j : Nat)))]) (fun j => ⟨[(1, .own 35 [x.av])], 2⟩) (fun j => 1 ≤ j ∧ j ≤ x.reports.length + 1 ∧ ∀ k, 1 ≤ k → k < j → (x.reports.getD (k - 1) default).device < (x.reports.getD k default).device) (fun j => x.reports.length + 1 - j) 1 ⟨by omega, by omega, fun k h1 h2 => by omega⟩ ⟨rfl, rfl, trivial⟩ rfl ?_; intro j ρ hj; simp only [updL]; (try simp only [nA, Nat.reduceBEq, Nat.reduceEqDiff, ↓reduceIte, Nat.reduceAdd, Nat.reduceSub]); have hrl := hx.r
      (refine AW.seq_k ?_; intro K hK)
      (refine AW.seq_k ?_; intro K hK)
      refine AW.region ?_
      refine awP (op_move rfl rfl) ?_
      (first | refine awP (op_fa_ptr rfl rfl rfl fl35_7 (by exact sz24) (by decide) rfl) ?_ | refine awP (op_fa_rop rfl rfl fl35_7 (by exact sz24) (by decide) (Nat.le_of_ble_eq_true rfl) rfl) ?_)
      (first | refine awR (op_load_ptr1 rfl rfl rfl rfl ag24 rfl rfl) ?_ | refine awR (op_load_rop1 rfl rfl ag24) ?_)
      refine awP (op_len_ro (n := x.reports.length) rfl rfl Tryd.underlying24 (.inr (.inl ⟨_, rfl, by simp⟩))) ?_
      refine awP (op_lss rfl rfl rfl) ?_
      refine AWL.nil ?_
      (refine hK _ ?_; clear hK K; (try simp only [nA, Nat.reduceBEq, Nat.reduceEqDiff, ↓reduceIte, Nat.reduceAdd, Nat.reduceSub]))
      refine AW.cond rfl rfl rfl (fun hc => ?_) (fun hc => ?_)
      ·
       (skip); have hc6 := hc; have hlt : j < x.reports.length := (by simpa using hc6)
       refine AW.skip ?_
       (refine hK _ ?_; clear hK K; (try simp only [nA, Nat.reduceBEq, Nat.reduceEqDiff, ↓reduceIte, Nat.reduceAdd, Nat.reduceSub]))
       (refine AW.seq_k ?_; intro K hK)
       refine AW.block ?_
       (refine AW.seq_k ?_; intro K hK)
       refine AW.quiet mix (by kernel_rfl) ?_
       (first | refine aqP (op_fa_ptr rfl rfl rfl fl35_7 (by exact sz24) (by decide) rfl) ?_ | refine aqP (op_fa_rop rfl rfl fl35_7 (by exact sz24) (by decide) (Nat.le_of_ble_eq_true rfl) rfl) ?_)
       (first | refine aqR (op_load_ptr1 rfl rfl rfl rfl ag24 rfl rfl) ?_ | refine aqR (op_load_rop1 rfl rfl ag24) ?_)
       refine aqP (op_move rfl rfl) ?_
       refine aqP (op_ia_ro j rfl (.inl rfl) rfl Tryd.underlying24 rfl (get_mapD (by omega)) (by exact sz66) (Nat.le_of_ble_eq_true rfl)) ?_
       (first | refine aqP (op_fa_ptr rfl rfl rfl fl66_0 (by exact sz3) (by decide) rfl) ?_ | refine aqP (op_fa_rop rfl rfl fl66_0 (by exact sz3) (by decide) (Nat.le_of_ble_eq_true rfl) rfl) ?_)
       (first | refine aqR (op_load_ptr1 rfl rfl rfl rfl ag3 rfl rfl) ?_ | refine aqR (op_load_rop1 rfl rfl ag3) ?_)
       (first | refine aqP (op_fa_ptr rfl rfl rfl fl35_7 (by exact sz24) (by decide) rfl) ?_ | refine aqP (op_fa_rop rfl rfl fl35_7 (by exact sz24) (by decide) (Nat.le_of_ble_eq_true rfl) rfl) ?_)
       (first | refine aqR (op_load_ptr1 rfl rfl rfl rfl ag24 rfl rfl) ?_ | refine aqR (op_load_rop1 rfl rfl ag24) ?_)
       refine aqP (op_move rfl rfl) ?_
       (first | refine aqP (op_subi rfl rfl rfl (by omega)) ?_ | refine aqP (op_sub rfl rfl rfl rfl) ?_)
       refine aqP (op_ia_ro (j - 1) rfl (.inl rfl) rfl Tryd.underlying24 (by omega) (get_mapD (by omega)) (by exact sz66) (Nat.le_of_ble_eq_true rfl)) ?_
       (first | refine aqP (op_fa_ptr rfl rfl rfl fl66_0 (by exact sz3) (by decide) rfl) ?_ | refine aqP (op_fa_rop rfl rfl fl66_0 (by exact sz3) (by decide) (Nat.le_of_ble_eq_true rfl) rfl) ?_)
       (first | refine aqR (op_load_ptr1 rfl rfl rfl rfl ag3 rfl rfl) ?_ | refine aqR (op_load_rop1 rfl rfl ag3) ?_)
       refine aqP (op_leq rfl rfl rfl) ?_
       refine AQ.nil ?_
       (refine hK _ ?_; clear hK K; (try simp only [nA, Nat.reduceBEq, Nat.reduceEqDiff, ↓reduceIte, Nat.reduceAdd, Nat.reduceSub]))
       refine AW.cond rfl rfl rfl (fun hc => ?_) (fun hc => ?_)
       ·
        (skip); have hc7 := hc; skip
        (refine AW.seq_k ?_; intro K hK)
        refine AW.region ?_
        refine awP (op_assign rfl rfl) ?_
        refine AWL.nil ?_
        (refine hK _ ?_; clear hK K; (try simp only [nA, Nat.reduceBEq, Nat.reduceEqDiff, ↓reduceIte, Nat.reduceAdd, Nat.reduceSub]))
        skip
        refine AW.ret ?_; (try simp only [thenE, inBlk, Nat.reduceEqDiff, ↓reduceIte]); rw [val_a hk0 hs0 hl0 hp0 (asc_no hj.1 hlt hc7)]; exact RQ.of0 rfl (.tmp (Nat.le_of_ble_eq_true rfl) rfl rfl .nil)
       ·
        (skip); have hc7 := hc; skip
        refine AW.skip ?_
        (try simp only [thenE, inBlk, Nat.reduceEqDiff, ↓reduceIte])
        (refine hK _ ?_; clear hK K; (try simp only [nA, Nat.reduceBEq, Nat.reduceEqDiff, ↓reduceIte, Nat.reduceAdd, Nat.reduceSub]))
        refine AW.region ?_
        refine awP (op_move rfl rfl) ?_
        (first | refine awP (op_addi rfl rfl rfl (by omega)) ?_ | refine awP (op_add rfl rfl rfl rfl) ?_)
        refine awP (op_assign rfl rfl) ?_
        skip
        refine AWL.nil ?_
        refine ⟨j + 1, ⟨by omega, by omega, fun k h1 h2 => by rcases Nat.lt_or_ge k j with h | h; exact hj.2.2 k h1 h; (obtain rfl : k = j := by omega); have := of_decide_eq_false hc7; omega⟩, by omega, ⟨rfl, rfl, trivial⟩, (by first | rfl | trivial), (by first | rfl | trivial)⟩
      ·
       (skip); have hc6 := hc; have hnl : ¬ j < x.reports.length := (by simpa using hc6)
       refine AW.exit ?_; (try simp only [thenE, inBlk, Nat.reduceEqDiff, ↓reduceIte])
       clear hK K
       (refine hK _ ?_; clear hK K; (try simp only [nA, Nat.reduceBEq, Nat.reduceEqDiff, ↓reduceIte, Nat.reduceAdd, Nat.reduceSub]))
       (refine AW.seq_k ?_; intro K hK)
       refine AW.region ?_
       refine awP (op_assign rfl rfl) ?_
       refine AWL.nil ?_
       (refine hK _ ?_; clear hK K; (try simp only [nA, Nat.reduceBEq, Nat.reduceEqDiff, ↓reduceIte, Nat.reduceAdd, Nat.reduceSub]))
       skip
       refine AW.ret ?_; (try simp only [thenE, inBlk, Nat.reduceEqDiff, ↓reduceIte]); rw [val_0 hk0 hs0 hl0 hp0 (asc_yes hnl hj.2.2)]; exact RQ.of0 rfl (.tmp (Nat.le_of_ble_eq_true rfl) rfl rfl .nil)
end Go.Proofs.YtfmnaigedgmhoaaDoor
namespace Go.Proofs.YtfmnaigedgmhoaaDoor
open Go.RowKit
set_option linter.unusedSimpArgs false
set_option linter.unusedVariables false
set_option maxRecDepth 100000
theorem le_ev0s (k : Int) : RL Le1 [evC (ev0 k) (.v (.slice none 0 0)) (.v (.slice none 0 0))].flatten [(ev0 k).av].flatten := by
  rw [List.flatten_singleton, List.flatten_singleton]; exact le_ev0 k
end Go.Proofs.YtfmnaigedgmhoaaDoor
namespace Go.Proofs.YtfmnaigedgmhoaaDoor
open Go.RowKit
set_option linter.unusedSimpArgs false
set_option linter.unusedVariables false
set_option maxRecDepth 100000
def rngV (x : Ev) : Bool := (fieldsL x.kind).all (prB x)
end Go.Proofs.YtfmnaigedgmhoaaDoor
namespace Go.Proofs.YtfmnaigedgmhoaaDoor
open Go.RowKit
set_option linter.unusedSimpArgs false
set_option linter.unusedVariables false
theorem op_buildArr {C : Cx} {o : Oper} {ev : Operand → AV} {T : Sl} {t e : TypeId} {m n sz b : Nat} {z : Value} {ps : Array (Nat × Operand)} (ho : o.op = .build t ps) (rows : List (Nat × List AV)) (ht : C.P.underlying t = some (.array m e)) (hs : sizeIs C.P e sz) (hz : zeroIs C.P t z n b)
    (hp : ps.toList.map (fun p => (p.1, rowR (ev p.2))) = rows.map (fun p => (p.1, some p.2))) (hr : rows.all (fun p => p.2.length == sz && p.1 * sz + sz ≤ n) = true) {xs : List AV} (hx : rows.foldl (fun cs p => splice cs (p.1 * sz) p.2) (z.cells.toList.map .v) = xs) :
    OpP C o ev T (.agg xs) := by
  intro a w S vals bss hm h
  have hrl : RL (fun (u : Nat × Value) (x : Nat × List AV) => u.1 = x.1 ∧ RL (RefOK C.P S w T vals) u.2.cells.toList x.2) (evP a ps).toList rows := by
    refine ⟨by have := congrArg List.length hp; simpa [evP] using this, fun i u x hu hx => ?_⟩
    simp only [evP, Array.toList_map, List.getElem?_map] at hu
    cases hq : ps.toList[i]? with
    | none => rw [hq] at hu; cases hu
    | some q =>
      rw [hq] at hu
      simp at hu
      have h1 := congrArg (·[i]?) hp
      simp only [List.getElem?_map, hq, hx, Option.map_some, Option.some.injEq] at h1
      injection h1 with h1 h2
      rw [← hu]
      exact ⟨h1, (h q.2 (by simp [ho, Op.operands]; exact ⟨q.1, Array.mem_toList_iff.1 (List.mem_of_getElem? hq)⟩)).rowR h2⟩
  have hfill := fill_run (fun i => some (i * sz, sz)) (evP a ps).toList z.cells fun p hp => by
    obtain ⟨i, hi', rfl⟩ := List.getElem_of_mem hp
    have hi2 : i < rows.length := by rw [← hrl.1]; exact hi'
    obtain ⟨e1, e2⟩ := hrl.2 i _ _ (List.getElem?_eq_getElem hi') (List.getElem?_eq_getElem hi2)
    have h3 := List.all_eq_true.1 hr rows[i] (List.getElem_mem hi2)
    rw [e1]
    simp only [Bool.and_eq_true, beq_iff_eq, decide_eq_true_eq] at h3
    have e5 : (evP a ps).toList[i].2.cells.size = sz := by rw [← h3.1, ← e2.1]; simp
    refine ⟨rows[i].1 * sz, by rw [e5], ?_⟩
    rw [e5, hz.2.1]; exact h3.2
  have hf2 := rl_foldl_ref (T := T) (P := C.P) (S := S) (w := w) (vals := vals) (fun i => i * sz) _ _ _ _ hrl (hz.rl.mono fun u x h => Rep.ref (T := T) (vals := vals) h)
  rw [hx] at hf2
  refine ⟨.agg ((evP a ps).toList.foldl (fun cs p => splice cs (p.1 * sz) p.2.cells.toList) z.cells.toList).toArray, fun w => ?_, ⟨_, rfl, hf2⟩⟩
  have he : execOp a.eval o = (do let v ← Instr.build t (evP a ps); pure (Next.value v) : Sem Next) := by simp only [execOp, ho]; rfl
  rw [he]
  have hfill' : Instr.fill (fun i => some (i * sz, sz)) z.cells (evP a ps).toList = _ := hfill
  simp only [Instr.build, Sem.run_bind, hz.run, run_underlying ht, Result.andThen_ok, run_sizeOf hs, hfill', Sem.run_pure]
  simp
end Go.Proofs.YtfmnaigedgmhoaaDoor
namespace Go.Proofs.YtfmnaigedgmhoaaDoor
open Go.RowKit
set_option linter.unusedSimpArgs false
set_option linter.unusedVariables false
theorem own_app_str {P : Program} {w : World} {t u ty e : TypeId} {i : TypeInfo} (ht : P.underlying t = some (.slice e)) (hu : P.underlying u = some .string) (hi : P.info? e = some i) (hz : i.zero = some (.int .u8 0)) (hsize : i.size = 1) (hby : i.bytes = 1)
    {v : Value} {n : Nat} {xs : List Value} (hown : w.ownsRow 0 e 1 v n xs) (s : ByteArray) (hb : n + s.size ≤ 140737488355328) :
    ∃ v' w', (Builtin.append_ #[t, u] ty #[v, .string s]).run P w = .ok v' w' ∧ w'.ownsRow 0 e 1 v' (n + s.size) (xs ++ Lib.strCells s) ∧ w.grownBy w' v.ownBlock ∧ (v'.ownBlock = v.ownBlock ∨ v'.ownBlock = some w.heap.size) := by
  have hmax : n + s.size ≤ maxLen := by unfold maxLen; omega
  obtain ⟨v', w', hr, ho, hg, hn⟩ := Lib.run_append_own_string (P := P) w 0 t u ty e i ht hu hi hz hsize hby v n xs hown s hmax hb (Nat.zero_le _)
  refine ⟨v', w', hr, ho, hg, ?_⟩
  rcases hown.2 with ⟨rfl, rfl⟩ | ⟨g, cap, cur, rfl, -, hgg, hnc, hcm, hcs, htake⟩
  · by_cases hm : s.size = 0
    · left; rw [hn.2 ⟨rfl, hm⟩]
    · have h1 := run_append_nil_string (P := P) w t u ty e i (.int .u8 0) ht hu hi hz s (by omega) (by omega) (by rw [hby]; omega)
      rw [hr] at h1
      injection h1 with h1 _
      right; rw [h1]; rfl
  · by_cases hroom : n + s.size ≤ cap
    · have hcs2 : cur.size = cap := by simpa using hcs
      have h1 := Lib.run_append_room_string (P := P) w t u ty e i ht hu hi hsize g n cap cur hgg s hroom (by omega)
      rw [hr] at h1
      injection h1 with h1 _
      left; rw [h1]; rfl
    · have holds : ∀ j u, xs[j]? = some u → w.cell? ((⟨g, 0, none⟩ : Addr).add j) = some u := hown.cells (g := g) rfl
      have h1 := Lib.run_append_grow_string (P := P) w t u ty e i (.int .u8 0) ht hu hi hz ⟨g, 0, none⟩ n cap xs (by rw [hsize]; simpa using hown.1) holds s (by omega) (by omega) (by rw [hby]; exact growslice_fits (by omega) (by omega))
      rw [hr] at h1
      injection h1 with h1 _
      right; rw [h1]; rfl
abbrev strRows (s : ByteArray) : List (List AV) := s.data.toList.map fun b => [.v (.int .u8 (b.toNat : Nat))]
theorem strRows_len (s : ByteArray) : (strRows s).length = s.size := by
  rw [List.length_map, Array.length_toList]; rfl
theorem flat_one {α : Type} (f : UInt8 → α) : ∀ l : List UInt8, (l.map fun b => [f b]).flatten = l.map f
  | [] => rfl
  | x :: l => by rw [List.map_cons, List.flatten_cons, flat_one f l]; rfl
theorem run_app_str {P : Program} {S : Nat → Prop} {w : World} {t u e ty : TypeId} (ht : P.underlying t = some (.slice e)) (hu : P.underlying u = some .string) (hz : zeroIs P e (.int .u8 0) 1 1) {bs : List Nat} {v : Value} {es : List (List AV)} {s : ByteArray}
    (h : Rep P S w bs v (.own e es)) (hnd : bs.Nodup) (hap : ∀ q ∈ bs, ¬ S q) (hlen : es.length + s.size ≤ 140737488355328) :
    ∃ v' w' bs', (Builtin.append_ #[t, u] ty #[v, .string s]).run P w = .ok v' w' ∧ Rep P S w' bs' v' (.own e (es ++ strRows s)) ∧ bs'.Nodup ∧ (∀ q ∈ bs', q ∈ bs ∨ w.heap.size ≤ q) ∧ Kept (fun q => q ∉ bs) w w' := by
  obtain ⟨us0, sz0, bss, rfl, hi, hsz, hown, hul, hbl, hcc⟩ := h.own_inv
  obtain rfl := hi.inj hz.size
  obtain ⟨hzi, hz2, hz3⟩ := hz
  obtain ⟨i, hii, hz0, hz1, hz4⟩ := info_parts hzi
  obtain ⟨v', w', hrun, ho, hg, hb'⟩ := own_app_str (ty := ty) ht hu hii hz0 hz1 hz4 hown s hlen
  have hsl : (Lib.strCells s).length = s.size := Lib.strCells_length s
  have hfl : (strRows s).flatten = s.data.toList.map fun b => AV.v (.int .u8 (b.toNat : Nat)) := flat_one _ _
  have hk : Kept (fun q => some q ≠ v.ownBlock) w w' := (Kept.refl _ _).grown hg fun k hk => .inl fun h => h hk.symm
  rw [List.nodup_append] at hnd
  obtain ⟨nd1, nd2, nd3⟩ := hnd
  have hvS : ∀ k, k < w.heap.size → S k → some k ≠ v.ownBlock := fun k _ hk he => hap k (List.mem_append_left _ (by rw [← he]; simp)) hk
  refine ⟨v', w', v'.ownBlock.toList ++ (bss ++ List.replicate s.size []).flatten, hrun, ?_, ?_, ?_, ?_⟩
  · refine Rep.own (us := us0 ++ Lib.strCells s) hi ?_ (by rw [List.length_append, strRows_len]; exact ho) (by rw [List.flatten_append, List.length_append, List.length_append, hul, hfl, List.length_map, hsl, Array.length_toList]; rfl) (by simp [hbl, hsl]) fun q u x bq h1 h2 h3 => ?_
    · intro x hx
      rcases List.mem_append.1 hx with h | h
      · exact hsz x h
      · obtain ⟨b, _, rfl⟩ := List.mem_map.1 h; rfl
    · rw [List.flatten_append] at h2
      by_cases hq : q < us0.length
      · rw [List.getElem?_append_left hq] at h1
        rw [List.getElem?_append_left (by rw [← hul]; exact hq)] at h2
        rw [List.getElem?_append_left (by rw [hbl]; exact hq)] at h3
        refine (hcc q u x bq h1 h2 h3).kept hk hvS fun b' hb' he => ?_
        exact nd3 b' (by rw [← he]; simp) b' (List.mem_flatten.2 ⟨bq, List.mem_of_getElem? h3, hb'⟩) rfl
      · rw [List.getElem?_append_right (by omega)] at h1
        rw [List.getElem?_append_right (by rw [← hul]; omega), ← hul, hfl] at h2
        rw [List.getElem?_append_right (by rw [hbl]; omega), hbl] at h3
        have : bq = [] := by rw [List.getElem?_replicate] at h3; split at h3 <;> simp_all
        subst this
        unfold Lib.strCells at h1
        rw [List.getElem?_map] at h1 h2
        cases hc : s.data.toList[q - us0.length]? with
        | none => rw [hc] at h1; cases h1
        | some c =>
          rw [hc] at h1 h2
          simp only [Option.map_some, Option.some.injEq] at h1 h2
          subst h1; subst h2
          exact .v rfl
  · rw [List.flatten_append, List.flatten_replicate_nil, List.append_nil, List.nodup_append]
    refine ⟨by cases v'.ownBlock <;> simp, nd2, fun a ha b hb he => ?_⟩
    subst he
    rcases hb' with h1 | h1
    · rw [h1] at ha; exact nd3 a ha a hb rfl
    · rw [h1] at ha
      simp at ha
      subst ha
      have := h.lt _ (List.mem_append_right _ hb)
      omega
  · intro q hq
    rw [List.flatten_append, List.flatten_replicate_nil, List.append_nil] at hq
    rcases List.mem_append.1 hq with h2 | h2
    · rcases hb' with h1 | h1
      · rw [h1] at h2; exact .inl (List.mem_append_left _ h2)
      · rw [h1] at h2; simp at h2; right; omega
    · exact .inl (List.mem_append_right _ h2)
  · exact hk.mono fun k _ hk' he => hk' (List.mem_append_left _ (by rw [← he]; simp))
section
variable {C : Cx} {o : Oper} {ev : Operand → AV} {T : Sl}
theorem op_app_str {t u e : TypeId} {y q : Operand} {r k : Nat} {es : List (List AV)} {s : ByteArray} (ho : o.op = .call { callee := .builtin .append, args := #[y, q], argTypes := #[t, u] }) {len : Nat} (hy : ev y = .sl r k 0 len) (hs : ev q = .v (.string s)) (hT : T.slots[r]? = some (k, .own e es)) (hl : len = es.length)
    (ht : C.P.underlying t = some (.slice e)) (hu : C.P.underlying u = some .string) (hz : zeroIs C.P e (.int .u8 0) 1 1) (hb : es.length + s.size ≤ 140737488355328) {es' : List (List AV)} (he : es ++ strRows s = es') {n : Nat} (hn : es.length + s.size = n) :
    OpJ C o ev T (.sl r T.ep 0 n) ⟨T.slots.set r (T.ep, .own e es'), T.ep + 1⟩ := by
  intro a w S vals bss hm h K hK Q
  have h1 := h y (by simp [ho, Op.operands, Call.operands])
  have h2 := h q (by simp [ho, Op.operands, Call.operands])
  rw [hy] at h1
  rw [hs] at h2
  have e1 : a.eval q = .string s := h2.v
  obtain ⟨v, bs, hv, hbb, hrep⟩ := hm.slot hT
  have hmax : es.length + s.size ≤ maxLen := by
    unfold maxLen
    omega
  obtain ⟨v', w', bs', hrun, hrep', hnd, hsub, hk⟩ := run_app_str (P := C.P) (ty := o.type) ht hu hz hrep (hm.nodup r bs hbb) (hm.apart r bs hbb) hb
  obtain ⟨us0, sz0, bss0, -, hi0, hsz0, hown, -⟩ := hrep.own_inv
  obtain ⟨hol, A0, nn, cap, hve, g3, g4, g5, g6⟩ := h1.2.2 e es v sz0 hT hv hi0
  have hyv : a.eval y = v := by
    rcases g6 with ⟨-, h8⟩ | ⟨A', h8, _⟩
    · rw [h8, hve, hl]
      rcases hown.2 with ⟨hnil, h0'⟩ | ⟨g, cap', cur, hcap, -⟩
      · rw [hve] at hnil; injection hnil with q1 q2 q3; rw [q2, h0']
      · rw [hve] at hcap; injection hcap with q1 q2 q3; rw [q2]
    · omega
  rw [he] at hrep'
  obtain ⟨hm', hf⟩ := hm.set (k' := T.ep) (ep' := T.ep + 1) hT hv hbb hk hrep' hnd hsub (.inr ⟨rfl, rfl⟩)
  unfold Oper.wp execOp
  simp only [ho, resolve, invoke, builtin, Sem.run_bind, Sem.run_pure, Result.andThen_ok, List.map_toArray, List.map_cons, List.map_nil, hyv, e1, hrun]
  refine hK v' _ _ _ _ hm' hf ⟨by simp, hrep'.one, fun e2 es2 v2 sz2 q1 q2 q3 => ?_⟩
  have hrl : r < T.slots.length := (List.getElem?_eq_some_iff.1 hT).1
  have q1 : (T.slots.set r _)[r]? = _ := q1
  rw [getElem?_set_ _ _ _ _ hrl, if_pos rfl] at q1
  rw [getElem?_set_ _ _ _ _ (by rw [hm.nv]; exact hrl), if_pos rfl] at q2
  injection q1 with q1; injection q1 with _ q1; injection q1 with q1 q4
  injection q2 with q2
  subst q1; subst q2; subst q4
  obtain ⟨us1, sz1, bss1, -, hi1, hsz1, hown1, -⟩ := hrep'.own_inv
  have hel : es'.length = n := by rw [← he, List.length_append, strRows_len, hn]
  refine ⟨by omega, ?_⟩
  rcases hown1.2 with ⟨hnil, h0'⟩ | ⟨g, cap', cur, hcap, -, -, p1, p2, -⟩
  · exact ⟨none, 0, 0, hnil, by omega, Nat.le_refl _, by unfold maxLen; omega, .inl ⟨rfl, by rw [hnil, show n = 0 by omega]⟩⟩
  · exact ⟨_, _, _, hcap, by omega, p1, p2, .inl ⟨rfl, by rw [hcap, hel]⟩⟩
end
end Go.Proofs.YtfmnaigedgmhoaaDoor
