import Derived.Test.YtfmnaigedgmhoaaDoorXfc
namespace Go.Proofs.YtfmnaigedgmhoaaDoor
open Go.RowKit
set_option linter.unusedSimpArgs false
set_option linter.unusedVariables false
set_option maxRecDepth 100000
set_option maxHeartbeats 8000000 in
theorem C73v {x : Ev} {rs os : AV} {s0 s1 : RS} {n : Int} (g0 : Fn Tryd.prog 99 [.own 94 [rdC x rs os s0]] [.ptr 0 0 0 0] [.v (.int .i64 n)] [.own 94 [rdC x rs os s1]]) : Fn Tryd.prog 73 [.own 94 [rdC x rs os s0]] [.ptr 0 0 0 0] [] [.own 94 [rdC { x with time := n } rs os s1]] := by
  refine Spec.body Tryd.func73 rfl Tryd.ntmps73 (by simp) rfl ?_; intro S0 own0 v0 w0 gl
  refine AW.region ?_
  refine awP (op_move rfl rfl) ?_; (try simp only [nA, Nat.reduceBEq, Nat.reduceEqDiff, ↓reduceIte, Nat.reduceAdd, Nat.reduceSub])
  refine awP (op_move rfl rfl) ?_; (simp only [nA, ↓reduceIte])
  refine awJ (op_call1 rfl en99 g0 (by exact rfl) (RL.cons .ptr (RL.nil)) (by exact ⟨_, _, _, rfl, rfl, rfl⟩) (by exact rfl) (by exact rfl) (by exact rfl)) ?_; (try simp only [nA, Nat.reduceBEq, Nat.reduceEqDiff, ↓reduceIte, Nat.reduceAdd, Nat.reduceSub])
  (refine awP (op_nil_slot rfl rfl rfl) ?_); (try simp only [nA, Nat.reduceBEq, Nat.reduceEqDiff, ↓reduceIte, Nat.reduceAdd, Nat.reduceSub])
  (refine awP (op_fa_ptr rfl rfl rfl fl94_1 (by exact sz35) (by decide) rfl) ?_); (try simp only [nA, Nat.reduceBEq, Nat.reduceEqDiff, ↓reduceIte, Nat.reduceAdd, Nat.reduceSub])
  (refine awP (op_fa_ptr rfl rfl rfl fl35_1 (by exact sz3) (by decide) rfl) ?_); (simp only [nA, Nat.reduceBEq, Nat.reduceEqDiff, ↓reduceIte])
  refine awJ (op_store rfl rfl rfl rfl rfl rfl sz3 rfl (bl rfl) rfl) ?_; (simp only [nA, ↓reduceIte])
  refine AWL.nil ?_
  -- END
  exact RQ.of (.inr rfl) rfl .nil (by simp) rfl (one_out rfl)
set_option maxHeartbeats 8000000 in
theorem C74v {x : Ev} {rs os : AV} {s0 s1 : RS} {n : ByteArray} (g0 : Fn Tryd.prog 100 [.own 94 [rdC x rs os s0]] [.ptr 0 0 0 0] [.v (.string n)] [.own 94 [rdC x rs os s1]]) : Fn Tryd.prog 74 [.own 94 [rdC x rs os s0]] [.ptr 0 0 0 0] [] [.own 94 [rdC { x with text := n } rs os s1]] := by
  refine Spec.body Tryd.func74 rfl Tryd.ntmps74 (by simp) rfl ?_; intro S0 own0 v0 w0 gl
  refine AW.region ?_
  refine awP (op_move rfl rfl) ?_; (try simp only [nA, Nat.reduceBEq, Nat.reduceEqDiff, ↓reduceIte, Nat.reduceAdd, Nat.reduceSub])
  refine awP (op_move rfl rfl) ?_; (simp only [nA, ↓reduceIte])
  refine awJ (op_call1 rfl en100 g0 (by exact rfl) (RL.cons .ptr (RL.nil)) (by exact ⟨_, _, _, rfl, rfl, rfl⟩) (by exact rfl) (by exact rfl) (by exact rfl)) ?_; (try simp only [nA, Nat.reduceBEq, Nat.reduceEqDiff, ↓reduceIte, Nat.reduceAdd, Nat.reduceSub])
  (refine awP (op_nil_slot rfl rfl rfl) ?_); (try simp only [nA, Nat.reduceBEq, Nat.reduceEqDiff, ↓reduceIte, Nat.reduceAdd, Nat.reduceSub])
  (refine awP (op_fa_ptr rfl rfl rfl fl94_1 (by exact sz35) (by decide) rfl) ?_); (try simp only [nA, Nat.reduceBEq, Nat.reduceEqDiff, ↓reduceIte, Nat.reduceAdd, Nat.reduceSub])
  (refine awP (op_fa_ptr rfl rfl rfl fl35_2 (by exact sz9) (by decide) rfl) ?_); (simp only [nA, Nat.reduceBEq, Nat.reduceEqDiff, ↓reduceIte])
  refine awJ (op_store rfl rfl rfl rfl rfl rfl sz9 rfl (bl rfl) rfl) ?_; (simp only [nA, ↓reduceIte])
  refine AWL.nil ?_
  -- END
  exact RQ.of (.inr rfl) rfl .nil (by simp) rfl (one_out rfl)
set_option maxHeartbeats 8000000 in
theorem C75v {x : Ev} {rs os : AV} {s0 s1 : RS} {n : Plate} (g0 : Fn Tryd.prog 101 [.own 94 [rdC x rs os s0]] [.ptr 0 0 0 0] [.agg n.av] [.own 94 [rdC x rs os s1]]) : Fn Tryd.prog 75 [.own 94 [rdC x rs os s0]] [.ptr 0 0 0 0] [] [.own 94 [rdC { x with plate := n } rs os s1]] := by
  refine Spec.body Tryd.func75 rfl Tryd.ntmps75 (by simp) rfl ?_; intro S0 own0 v0 w0 gl
  refine AW.region ?_
  refine awP (op_move rfl rfl) ?_; (try simp only [nA, Nat.reduceBEq, Nat.reduceEqDiff, ↓reduceIte, Nat.reduceAdd, Nat.reduceSub])
  refine awP (op_move rfl rfl) ?_; (simp only [nA, ↓reduceIte])
  refine awJ (op_call1 rfl en101 g0 (by exact rfl) (RL.cons .ptr (RL.nil)) (by exact ⟨_, _, _, rfl, rfl, rfl⟩) (by exact rfl) (by exact rfl) (by exact rfl)) ?_; (try simp only [nA, Nat.reduceBEq, Nat.reduceEqDiff, ↓reduceIte, Nat.reduceAdd, Nat.reduceSub])
  (refine awP (op_nil_slot rfl rfl rfl) ?_); (try simp only [nA, Nat.reduceBEq, Nat.reduceEqDiff, ↓reduceIte, Nat.reduceAdd, Nat.reduceSub])
  (refine awP (op_fa_ptr rfl rfl rfl fl94_1 (by exact sz35) (by decide) rfl) ?_); (try simp only [nA, Nat.reduceBEq, Nat.reduceEqDiff, ↓reduceIte, Nat.reduceAdd, Nat.reduceSub])
  (refine awP (op_fa_ptr rfl rfl rfl fl35_3 (by exact sz23) (by decide) rfl) ?_); (simp only [nA, Nat.reduceBEq, Nat.reduceEqDiff, ↓reduceIte])
  refine awJ (op_store rfl rfl rfl rfl rfl rfl sz23 rfl (bl rfl) rfl) ?_; (try simp only [nA, Nat.reduceBEq, Nat.reduceEqDiff, ↓reduceIte, Nat.reduceAdd, Nat.reduceSub])
  refine AWL.nil ?_
  -- END
  exact RQ.of (.inr rfl) rfl .nil (by simp) rfl (one_out rfl)
set_option maxHeartbeats 8000000 in
theorem C76v {x : Ev} {rs os : AV} {s0 s1 : RS} {n : Int} (g0 : Fn Tryd.prog 99 [.own 94 [rdC x rs os s0]] [.ptr 0 0 0 0] [.v (.int .i64 n)] [.own 94 [rdC x rs os s1]]) : Fn Tryd.prog 76 [.own 94 [rdC x rs os s0]] [.ptr 0 0 0 0] [] [.own 94 [rdC { x with node := n } rs os s1]] := by
  refine Spec.body Tryd.func76 rfl Tryd.ntmps76 (by simp) rfl ?_; intro S0 own0 v0 w0 gl
  refine AW.region ?_
  refine awP (op_move rfl rfl) ?_; (try simp only [nA, Nat.reduceBEq, Nat.reduceEqDiff, ↓reduceIte, Nat.reduceAdd, Nat.reduceSub])
  refine awP (op_move rfl rfl) ?_; (simp only [nA, ↓reduceIte])
  refine awJ (op_call1 rfl en99 g0 (by exact rfl) (RL.cons .ptr (RL.nil)) (by exact ⟨_, _, _, rfl, rfl, rfl⟩) (by exact rfl) (by exact rfl) (by exact rfl)) ?_; (try simp only [nA, Nat.reduceBEq, Nat.reduceEqDiff, ↓reduceIte, Nat.reduceAdd, Nat.reduceSub])
  (refine awP (op_nil_slot rfl rfl rfl) ?_); (try simp only [nA, Nat.reduceBEq, Nat.reduceEqDiff, ↓reduceIte, Nat.reduceAdd, Nat.reduceSub])
  (refine awP (op_fa_ptr rfl rfl rfl fl94_1 (by exact sz35) (by decide) rfl) ?_); (try simp only [nA, Nat.reduceBEq, Nat.reduceEqDiff, ↓reduceIte, Nat.reduceAdd, Nat.reduceSub])
  (refine awP (op_fa_ptr rfl rfl rfl fl35_4 (by exact sz3) (by decide) rfl) ?_); (simp only [nA, Nat.reduceBEq, Nat.reduceEqDiff, ↓reduceIte])
  refine awJ (op_store rfl rfl rfl rfl rfl rfl sz3 rfl (bl rfl) rfl) ?_; (simp only [nA, ↓reduceIte])
  refine AWL.nil ?_
  -- END
  exact RQ.of (.inr rfl) rfl .nil (by simp) rfl (one_out rfl)
set_option maxHeartbeats 8000000 in
theorem C77v {x : Ev} {rs os : AV} {s0 s1 : RS} {n : Int} (g0 : Fn Tryd.prog 99 [.own 94 [rdC x rs os s0]] [.ptr 0 0 0 0] [.v (.int .i64 n)] [.own 94 [rdC x rs os s1]]) : Fn Tryd.prog 77 [.own 94 [rdC x rs os s0]] [.ptr 0 0 0 0] [] [.own 94 [rdC { x with image := n } rs os s1]] := by
  refine Spec.body Tryd.func77 rfl Tryd.ntmps77 (by simp) rfl ?_; intro S0 own0 v0 w0 gl
  refine AW.region ?_
  refine awP (op_move rfl rfl) ?_; (try simp only [nA, Nat.reduceBEq, Nat.reduceEqDiff, ↓reduceIte, Nat.reduceAdd, Nat.reduceSub])
  refine awP (op_move rfl rfl) ?_; (simp only [nA, ↓reduceIte])
  refine awJ (op_call1 rfl en99 g0 (by exact rfl) (RL.cons .ptr (RL.nil)) (by exact ⟨_, _, _, rfl, rfl, rfl⟩) (by exact rfl) (by exact rfl) (by exact rfl)) ?_; (try simp only [nA, Nat.reduceBEq, Nat.reduceEqDiff, ↓reduceIte, Nat.reduceAdd, Nat.reduceSub])
  (refine awP (op_nil_slot rfl rfl rfl) ?_); (try simp only [nA, Nat.reduceBEq, Nat.reduceEqDiff, ↓reduceIte, Nat.reduceAdd, Nat.reduceSub])
  (refine awP (op_fa_ptr rfl rfl rfl fl94_1 (by exact sz35) (by decide) rfl) ?_); (try simp only [nA, Nat.reduceBEq, Nat.reduceEqDiff, ↓reduceIte, Nat.reduceAdd, Nat.reduceSub])
  (refine awP (op_fa_ptr rfl rfl rfl fl35_5 (by exact sz3) (by decide) rfl) ?_); (simp only [nA, Nat.reduceBEq, Nat.reduceEqDiff, ↓reduceIte])
  refine awJ (op_store rfl rfl rfl rfl rfl rfl sz3 rfl (bl rfl) rfl) ?_; (simp only [nA, ↓reduceIte])
  refine AWL.nil ?_
  -- END
  exact RQ.of (.inr rfl) rfl .nil (by simp) rfl (one_out rfl)
set_option maxHeartbeats 8000000 in
theorem C78v {x : Ev} {rs os : AV} {s0 s1 : RS} {n : Bool} (g0 : Fn Tryd.prog 102 [.own 94 [rdC x rs os s0]] [.ptr 0 0 0 0] [.v (.bool n)] [.own 94 [rdC x rs os s1]]) : Fn Tryd.prog 78 [.own 94 [rdC x rs os s0]] [.ptr 0 0 0 0] [] [.own 94 [rdC { x with clear := n } rs os s1]] := by
  refine Spec.body Tryd.func78 rfl Tryd.ntmps78 (by simp) rfl ?_; intro S0 own0 v0 w0 gl
  refine AW.region ?_
  refine awP (op_move rfl rfl) ?_; (try simp only [nA, Nat.reduceBEq, Nat.reduceEqDiff, ↓reduceIte, Nat.reduceAdd, Nat.reduceSub])
  refine awP (op_move rfl rfl) ?_; (simp only [nA, ↓reduceIte])
  refine awJ (op_call1 rfl en102 g0 (by exact rfl) (RL.cons .ptr (RL.nil)) (by exact ⟨_, _, _, rfl, rfl, rfl⟩) (by exact rfl) (by exact rfl) (by exact rfl)) ?_; (try simp only [nA, Nat.reduceBEq, Nat.reduceEqDiff, ↓reduceIte, Nat.reduceAdd, Nat.reduceSub])
  (refine awP (op_nil_slot rfl rfl rfl) ?_); (try simp only [nA, Nat.reduceBEq, Nat.reduceEqDiff, ↓reduceIte, Nat.reduceAdd, Nat.reduceSub])
  (refine awP (op_fa_ptr rfl rfl rfl fl94_1 (by exact sz35) (by decide) rfl) ?_); (try simp only [nA, Nat.reduceBEq, Nat.reduceEqDiff, ↓reduceIte, Nat.reduceAdd, Nat.reduceSub])
  (refine awP (op_fa_ptr rfl rfl rfl fl35_6 (by exact sz4) (by decide) rfl) ?_); (simp only [nA, Nat.reduceBEq, Nat.reduceEqDiff, ↓reduceIte])
  refine awJ (op_store rfl rfl rfl rfl rfl rfl sz4 rfl (bl rfl) rfl) ?_; (simp only [nA, ↓reduceIte])
  refine AWL.nil ?_
  -- END
  exact RQ.of (.inr rfl) rfl .nil (by simp) rfl (one_out rfl)
set_option maxHeartbeats 8000000 in
theorem C81v {x : Ev} {rs os : AV} {s0 s1 : RS} {n : Int} (g0 : Fn Tryd.prog 99 [.own 94 [rdC x rs os s0]] [.ptr 0 0 0 0] [.v (.int .i64 n)] [.own 94 [rdC x rs os s1]]) : Fn Tryd.prog 81 [.own 94 [rdC x rs os s0]] [.ptr 0 0 0 0] [] [.own 94 [rdC { x with device := n } rs os s1]] := by
  refine Spec.body Tryd.func81 rfl Tryd.ntmps81 (by simp) rfl ?_; intro S0 own0 v0 w0 gl
  refine AW.region ?_
  refine awP (op_move rfl rfl) ?_; (try simp only [nA, Nat.reduceBEq, Nat.reduceEqDiff, ↓reduceIte, Nat.reduceAdd, Nat.reduceSub])
  refine awP (op_move rfl rfl) ?_; (simp only [nA, ↓reduceIte])
  refine awJ (op_call1 rfl en99 g0 (by exact rfl) (RL.cons .ptr (RL.nil)) (by exact ⟨_, _, _, rfl, rfl, rfl⟩) (by exact rfl) (by exact rfl) (by exact rfl)) ?_; (try simp only [nA, Nat.reduceBEq, Nat.reduceEqDiff, ↓reduceIte, Nat.reduceAdd, Nat.reduceSub])
  (refine awP (op_nil_slot rfl rfl rfl) ?_); (try simp only [nA, Nat.reduceBEq, Nat.reduceEqDiff, ↓reduceIte, Nat.reduceAdd, Nat.reduceSub])
  (refine awP (op_fa_ptr rfl rfl rfl fl94_1 (by exact sz35) (by decide) rfl) ?_); (try simp only [nA, Nat.reduceBEq, Nat.reduceEqDiff, ↓reduceIte, Nat.reduceAdd, Nat.reduceSub])
  (refine awP (op_fa_ptr rfl rfl rfl fl35_9 (by exact sz3) (by decide) rfl) ?_); (simp only [nA, Nat.reduceBEq, Nat.reduceEqDiff, ↓reduceIte])
  refine awJ (op_store rfl rfl rfl rfl rfl rfl sz3 rfl (bl rfl) rfl) ?_; (simp only [nA, ↓reduceIte])
  refine AWL.nil ?_
  -- END
  exact RQ.of (.inr rfl) rfl .nil (by simp) rfl (one_out rfl)
set_option maxHeartbeats 8000000 in
theorem C82v {x : Ev} {rs os : AV} {s0 s1 : RS} {n : Op} (g0 : Fn Tryd.prog 104 [.own 94 [rdC x rs os s0]] [.ptr 0 0 0 0] [.agg n.av] [.own 94 [rdC x rs os s1]]) : Fn Tryd.prog 82 [.own 94 [rdC x rs os s0]] [.ptr 0 0 0 0] [] [.own 94 [rdC { x with op := n } rs os s1]] := by
  refine Spec.body Tryd.func82 rfl Tryd.ntmps82 (by simp) rfl ?_; intro S0 own0 v0 w0 gl
  refine AW.region ?_
  refine awP (op_move rfl rfl) ?_; (try simp only [nA, Nat.reduceBEq, Nat.reduceEqDiff, ↓reduceIte, Nat.reduceAdd, Nat.reduceSub])
  refine awP (op_move rfl rfl) ?_; (simp only [nA, ↓reduceIte])
  refine awJ (op_call1 rfl en104 g0 (by exact rfl) (RL.cons .ptr (RL.nil)) (by exact ⟨_, _, _, rfl, rfl, rfl⟩) (by exact rfl) (by exact rfl) (by exact rfl)) ?_; (try simp only [nA, Nat.reduceBEq, Nat.reduceEqDiff, ↓reduceIte, Nat.reduceAdd, Nat.reduceSub])
  (refine awP (op_nil_slot rfl rfl rfl) ?_); (try simp only [nA, Nat.reduceBEq, Nat.reduceEqDiff, ↓reduceIte, Nat.reduceAdd, Nat.reduceSub])
  (refine awP (op_fa_ptr rfl rfl rfl fl94_1 (by exact sz35) (by decide) rfl) ?_); (try simp only [nA, Nat.reduceBEq, Nat.reduceEqDiff, ↓reduceIte, Nat.reduceAdd, Nat.reduceSub])
  (refine awP (op_fa_ptr rfl rfl rfl fl35_10 (by exact sz32) (by decide) rfl) ?_); (simp only [nA, Nat.reduceBEq, Nat.reduceEqDiff, ↓reduceIte])
  refine awJ (op_store rfl rfl rfl rfl rfl rfl sz32 rfl (bl rfl) rfl) ?_; (try simp only [nA, Nat.reduceBEq, Nat.reduceEqDiff, ↓reduceIte, Nat.reduceAdd, Nat.reduceSub])
  refine AWL.nil ?_
  -- END
  exact RQ.of (.inr rfl) rfl .nil (by simp) rfl (one_out rfl)
set_option maxHeartbeats 8000000 in
theorem C84v {x : Ev} {rs os : AV} {s0 s1 : RS} {n : Flight} (g0 : Fn Tryd.prog 103 [.own 94 [rdC x rs os s0]] [.ptr 0 0 0 0] [.agg n.av] [.own 94 [rdC x rs os s1]]) : Fn Tryd.prog 84 [.own 94 [rdC x rs os s0]] [.ptr 0 0 0 0] [] [.own 94 [rdC { x with fl := n } rs os s1]] := by
  refine Spec.body Tryd.func84 rfl Tryd.ntmps84 (by simp) rfl ?_; intro S0 own0 v0 w0 gl
  refine AW.region ?_
  refine awP (op_move rfl rfl) ?_; (try simp only [nA, Nat.reduceBEq, Nat.reduceEqDiff, ↓reduceIte, Nat.reduceAdd, Nat.reduceSub])
  refine awP (op_move rfl rfl) ?_; (simp only [nA, ↓reduceIte])
  refine awJ (op_call1 rfl en103 g0 (by exact rfl) (RL.cons .ptr (RL.nil)) (by exact ⟨_, _, _, rfl, rfl, rfl⟩) (by exact rfl) (by exact rfl) (by exact rfl)) ?_; (try simp only [nA, Nat.reduceBEq, Nat.reduceEqDiff, ↓reduceIte, Nat.reduceAdd, Nat.reduceSub])
  (refine awP (op_nil_slot rfl rfl rfl) ?_); (try simp only [nA, Nat.reduceBEq, Nat.reduceEqDiff, ↓reduceIte, Nat.reduceAdd, Nat.reduceSub])
  (refine awP (op_fa_ptr rfl rfl rfl fl94_1 (by exact sz35) (by decide) rfl) ?_); (try simp only [nA, Nat.reduceBEq, Nat.reduceEqDiff, ↓reduceIte, Nat.reduceAdd, Nat.reduceSub])
  (refine awP (op_fa_ptr rfl rfl rfl fl35_12 (by exact sz26) (by decide) rfl) ?_); (simp only [nA, Nat.reduceBEq, Nat.reduceEqDiff, ↓reduceIte])
  refine awJ (op_store rfl rfl rfl rfl rfl rfl sz26 rfl (bl rfl) rfl) ?_; (try simp only [nA, Nat.reduceBEq, Nat.reduceEqDiff, ↓reduceIte, Nat.reduceAdd, Nat.reduceSub])
  refine AWL.nil ?_
  -- END
  exact RQ.of (.inr rfl) rfl .nil (by simp) rfl (one_out rfl)
set_option maxHeartbeats 8000000 in
theorem C80v {x : Ev} {rs os : AV} {s0 s1 s2 s3 : RS} {a b : Int} {f : Flight} (g0 : Fn Tryd.prog 99 [.own 94 [rdC x rs os s0]] [.ptr 0 0 0 0] [.v (.int .i64 a)] [.own 94 [rdC x rs os s1]]) (g1 : Fn Tryd.prog 99 [.own 94 [rdC x rs os s1]] [.ptr 0 0 0 0] [.v (.int .i64 b)] [.own 94 [rdC x rs os s2]]) (g2 : Fn Tryd.prog 103 [.own 94 [rdC x rs os s2]] [.ptr 0 0 0 0] [.agg f.av] [.own 94 [rdC x rs os s3]]) : Fn Tryd.prog 80 [.own 94 [rdC x rs os s0]] [.ptr 0 0 0 0] [] [.own 94 [rdC { x with rev := ⟨a, b, f⟩ } rs os s3]] := by
  refine Spec.body Tryd.func80 rfl Tryd.ntmps80 (by simp) rfl ?_; intro S0 own0 v0 w0 gl
  refine AW.region ?_
  refine awP (op_move rfl rfl) ?_; (try simp only [nA, Nat.reduceBEq, Nat.reduceEqDiff, ↓reduceIte, Nat.reduceAdd, Nat.reduceSub])
  refine awP (op_move rfl rfl) ?_; (simp only [nA, ↓reduceIte])
  refine awJ (op_call1 rfl en99 g0 (by exact rfl) (RL.cons .ptr (RL.nil)) (by exact ⟨_, _, _, rfl, rfl, rfl⟩) (by exact rfl) (by exact rfl) (by exact rfl)) ?_; (try simp only [nA, Nat.reduceBEq, Nat.reduceEqDiff, ↓reduceIte, Nat.reduceAdd, Nat.reduceSub])
  refine awP (op_move rfl rfl) ?_; (simp only [nA, ↓reduceIte])
  refine awJ (op_call1 rfl en99 g1 (by exact rfl) (RL.cons .ptr (RL.nil)) (by exact ⟨_, _, _, rfl, rfl, rfl⟩) (by exact rfl) (by exact rfl) (by exact rfl)) ?_; (try simp only [nA, Nat.reduceBEq, Nat.reduceEqDiff, ↓reduceIte, Nat.reduceAdd, Nat.reduceSub])
  refine awP (op_move rfl rfl) ?_; (simp only [nA, ↓reduceIte])
  refine awJ (op_call1 rfl en103 g2 (by exact rfl) (RL.cons .ptr (RL.nil)) (by exact ⟨_, _, _, rfl, rfl, rfl⟩) (by exact rfl) (by exact rfl) (by exact rfl)) ?_; (try simp only [nA, Nat.reduceBEq, Nat.reduceEqDiff, ↓reduceIte, Nat.reduceAdd, Nat.reduceSub])
  refine awP (op_build2 (xs := [_, _, _, _, _, _]) rfl pl28 ze28 [(0, [_]), (1, [_]), (2, [_, _, _, _])] rfl rfl rfl) ?_; (simp only [nA, ↓reduceIte])
  (refine awP (op_nil_slot rfl rfl rfl) ?_); (try simp only [nA, Nat.reduceBEq, Nat.reduceEqDiff, ↓reduceIte, Nat.reduceAdd, Nat.reduceSub])
  (refine awP (op_fa_ptr rfl rfl rfl fl94_1 (by exact sz35) (by decide) rfl) ?_); (try simp only [nA, Nat.reduceBEq, Nat.reduceEqDiff, ↓reduceIte, Nat.reduceAdd, Nat.reduceSub])
  (refine awP (op_fa_ptr rfl rfl rfl fl35_8 (by exact sz28) (by decide) rfl) ?_); (simp only [nA, Nat.reduceBEq, Nat.reduceEqDiff, ↓reduceIte])
  refine awJ (op_store rfl rfl rfl rfl rfl rfl sz28 rfl (bl rfl) rfl) ?_; (try simp only [nA, Nat.reduceBEq, Nat.reduceEqDiff, ↓reduceIte, Nat.reduceAdd, Nat.reduceSub])
  refine AWL.nil ?_
  -- END
  exact RQ.of (.inr rfl) rfl .nil (by simp) rfl (one_out rfl)
end Go.Proofs.YtfmnaigedgmhoaaDoor
namespace Go.Proofs.YtfmnaigedgmhoaaDoor
open Go.RowKit
set_option linter.unusedSimpArgs false
set_option linter.unusedVariables false
set_option maxRecDepth 100000
theorem rp_flat (ls : List Report) : ∀ r ∈ ls.map Report.av, ∀ c ∈ r, flatA c = true := fun r hr c hc => by
  obtain ⟨l, _, rfl⟩ := List.mem_map.1 hr
  simp only [Report.av, List.mem_cons, List.not_mem_nil, or_false] at hc
  rcases hc with rfl | rfl | rfl <;> rfl
theorem rep_bad {α : Type} {m : M α} {k : Nat} {acc : List α} {s : RS} (h : s.bad = true) : repM m k acc s = (acc, s) := by
  cases k with
  | zero => rfl
  | succ k => exact if_pos h
theorem rep_step {α : Type} {m : M α} {k : Nat} {acc : List α} {s : RS} (h : s.bad = false) : repM m (k + 1) acc s = repM m k (acc ++ [(m s).1]) (m s).2 := by
  show (if s.bad = true then (acc, s) else _) = _
  rw [if_neg (by rw [h]; decide)]
theorem num_used {s : RS} (h : (numE s).2.bad = false) : s.bad = false ∧ (numE s).2.b.length + 4 = s.b.length := by
  obtain ⟨b, bad⟩ := s
  match bad, b with
  | false, a :: b :: c :: d :: r => exact ⟨rfl, rfl⟩
  | true, b => exact absurd (show true = false from h) (by decide)
  | false, [] => exact absurd (show true = false from h) (by decide)
  | false, [_] => exact absurd (show true = false from h) (by decide)
  | false, [_, _] => exact absurd (show true = false from h) (by decide)
  | false, [_, _, _] => exact absurd (show true = false from h) (by decide)
theorem tr_used {s : RS} (h : (trE s).2.bad = false) : s.bad = false := by
  obtain ⟨b, bad⟩ := s
  match bad, b with
  | false, b => rfl
  | true, b => exact absurd (show true = false from h) (by decide)
theorem wd_used {s : RS} (h : (wdE s).2.bad = false) : s.bad = false := by
  cases hb : s.bad with
  | false => rfl
  | true => exact absurd (h.symm.trans ((sim_num.bind sim_tk s).1 hb)) (by decide)
theorem rp_used {s : RS} (h : (rpM rE s).2.bad = false) : (rpM rE s).2.b.length + 4 ≤ s.b.length := by
  have h1 := wd_used (s := (trE (numE s).2).2) h
  have h2 := tr_used h1
  have h3 := (num_used h2).2
  have h4 := wdE_len (trE (numE s).2).2
  have h5 := trE_len (numE s).2
  show (wdE (trE (numE s).2).2).2.b.length + 4 ≤ _
  omega
theorem rp_le (s : RS) : (rpM rE s).2.b.length ≤ s.b.length := Nat.le_trans (wdE_len _) (Nat.le_trans (trE_len _) (numE_len s))
end Go.Proofs.YtfmnaigedgmhoaaDoor
namespace Go.Proofs.YtfmnaigedgmhoaaDoor
open Go.RowKit
set_option linter.unusedSimpArgs false
set_option linter.unusedVariables false
set_option maxRecDepth 100000
theorem numE_top (s : RS) : (numE s).1.toNat ≤ 4294967296 := by
  unfold numE
  split
  · exact Int.toNat_le.2 (Int.le_of_lt (n4_lt _ _ _ _).2)
  exact Nat.zero_le _
set_option maxHeartbeats 8000000 in
theorem C79 {x : Ev} {os : AV} {s : RS} (hl : s.b.length ≤ 1000000) : Fn Tryd.prog 79 [.own 94 [rdC x (.own 66 []) os s]] [.ptr 0 0 0 0] [] [.own 94 [rdC x (.own 66 ((lsM rE (rpM rE) [] s).1.map Report.av)) os (lsM rE (rpM rE) [] s).2]] := by
  refine Spec.body Tryd.func79 rfl Tryd.ntmps79 (by simp) rfl ?_; intro S0 own0 v0 w0 gl
  (refine AW.seq_k ?_; intro K hK)
  refine AW.region ?_
  refine awP (op_move rfl rfl) ?_; (try simp only [nA, Nat.reduceBEq, Nat.reduceEqDiff, ↓reduceIte, Nat.reduceAdd, Nat.reduceSub])
  refine awJ (op_call1 rfl en99 (C99 (x := x) (rs := .own 66 []) (os := os) (s := s) hl) (by exact rfl) (RL.cons .ptr (RL.nil)) (by exact ⟨_, _, _, rfl, rfl, rfl⟩) (by exact rfl) (by exact rfl) (by exact rfl)) ?_; (try simp only [nA, Nat.reduceBEq, Nat.reduceEqDiff, ↓reduceIte, Nat.reduceAdd, Nat.reduceSub])
  refine awP (op_assign rfl rfl) ?_; (simp only [nA])
  refine AWL.nil ?_
  (refine hK _ ?_; clear hK K; (try simp only [nA, Nat.reduceBEq, Nat.reduceEqDiff, ↓reduceIte, Nat.reduceAdd, Nat.reduceSub]))
  refine AW.block ?_
  have hnn := numE_nn s; refine AW.loopI (fun (q : Nat × List Report × RS × Nat) => [(0, .ptr 0 0 0 0), (2, .v (.int .i64 (q.1 : Nat)))]) (fun q => ⟨[(0, .own 94 [rdC x (.own 66 (q.2.1.map Report.av)) os q.2.2.1])], q.2.2.2⟩) (fun q => repM (rpM rE) q.1 q.2.1 q.2.2.1 = repM (rpM rE) (numE s).1.toNat [] (numE s).2 ∧ q.2.1.length + q.2.2.1.b.length ≤ 1000001 ∧ (q.2.2.1.bad = false → q.2.1.length + q.2.2.1.b.length ≤ 1000000) ∧ q.1 ≤ 4294967296) (fun q => q.1) ((numE s).1.toNat, [], (numE s).2, _) ⟨rfl, by have := numE_len s; simp; omega, fun _ => by have := numE_len s; simp; omega, numE_top s⟩ ⟨rfl, by dsimp only; rw [Int.toNat_of_nonneg hnn]; rfl, trivial⟩ rfl ?_; rintro ⟨k, acc, t, ep⟩ ρ ⟨hR, hB1, hB2, hk⟩; dsimp only at hR hB1 hB2 hk ⊢; simp only [updL]
  (refine AW.seq_k ?_; intro K hK)
  (refine AW.seq_k ?_; intro K hK)
  refine AW.region (AWL.quiet ?_)
  refine aqP (op_move rfl rfl) ?_; (simp only [nA, ↓reduceIte])
  refine aqP (op_gtr rfl rfl rfl) ?_; (try simp only [nA, Nat.reduceBEq, Nat.reduceEqDiff, ↓reduceIte, Nat.reduceAdd, Nat.reduceSub])
  refine aqP (op_move rfl rfl) ?_; (simp only [nA])
  refine' aqAnd' [_, _, _, _, _] [8,9,10,11,12] rfl rfl rfl rfl rfl rfl rfl rfl rfl rfl rfl rfl (fun hb => ?_) ?_; rotate_left
  ·
   (try simp only [hcS] at hb)
   refine aqP (op_move rfl rfl) ?_; (simp only [nA, ↓reduceIte])
   (refine aqP (op_nil_slot rfl rfl rfl) ?_); (try simp only [nA, Nat.reduceBEq, Nat.reduceEqDiff, ↓reduceIte, Nat.reduceAdd, Nat.reduceSub])
   (refine aqP (op_fa_ptr rfl rfl rfl fl94_2 (by exact sz4) (by decide) rfl) ?_); (try simp only [nA, Nat.reduceBEq, Nat.reduceEqDiff, ↓reduceIte, Nat.reduceAdd, Nat.reduceSub])
   (refine aqR (op_load_ptr1 rfl rfl rfl rfl ag4 rfl rfl) ?_); (try simp only [nA, Nat.reduceBEq, Nat.reduceEqDiff, ↓reduceIte, Nat.reduceAdd, Nat.reduceSub])
   refine aqP (op_not rfl rfl rfl) ?_; (try simp only [nA, Nat.reduceBEq, Nat.reduceEqDiff, ↓reduceIte, Nat.reduceAdd, Nat.reduceSub])
   (refine aqSeg rfl rfl rfl ?_; repeat (first | exact fun _ _ => rfl | refine upd_out rfl ?_))
  refine AQ.nil ?_
  (refine hK _ ?_; clear hK K; (skip))
  refine AW.cond rfl rfl rfl (fun hc => ?_) (fun hc => ?_)
  ·
   have hc1 := hc; obtain ⟨hk0, hb0⟩ : 0 < k ∧ t.bad = false := (by cases hbb : t.bad <;> rw [hbb] at hc1 <;> simp at hc1 <;> exact ⟨by omega, rfl⟩); obtain ⟨k, rfl⟩ : ∃ k', k = k' + 1 := ⟨k - 1, by omega⟩; rw [rep_step hb0] at hR; have hB := hB2 hb0; have hlt : t.b.length ≤ 1000000 := (by omega)
   refine AW.skip ?_
   (refine hK _ ?_; clear hK K; (skip))
   (refine AW.seq_k ?_; intro K hK)
   refine AW.block ?_
   refine AW.ghE (GhE.unnest (r := 0) (row := rdC x (.own 66 (acc.map Report.av)) os t) 0 10 rfl rfl rfl) ?_; intro u hu; (try simp only [nA, Nat.reduceBEq, Nat.reduceEqDiff, ↓reduceIte, Nat.reduceAdd, Nat.reduceSub])
   have g0 := C99 (x := x) (rs := .v u) (os := os) (s := t) hlt
   have g1 := C102 (x := x) (rs := .v u) (os := os) (s := (numE t).2) (len1 hlt)
   have g2 := C100 (x := x) (rs := .v u) (os := os) (s := (trE (numE t).2).2) (len3 (len1 hlt))
   have hle := rp_le t
   have hus := rp_used (s := t)
   have hr : rpM rE t = (⟨(numE t).1, (trE (numE t).2).1, (wdE (trE (numE t).2).2).1⟩, (wdE (trE (numE t).2).2).2) := rfl
   generalize numE t = p1 at g0 g1 g2 hr
   generalize trE p1.2 = p2 at g1 g2 hr
   generalize wdE p2.2 = p3 at g2 hr
   rw [hr] at hR hle hus
   refine AW.aeo (fun T' => ∃ t', T'.slots[0]? = some (0, .own 94 [rdC x (.v u) os t'])) mix rfl ?_
   refine aePo 0 rfl (fun T' ok => op_move rfl rfl) ⟨_, rfl⟩ (by kernel_rfl) (by kernel_rfl) ?_; (simp only [nA, Nat.reduceBEq, Nat.reduceEqDiff, ↓reduceIte])
   refine aePo 1 rfl (fun T' ok => op_move rfl rfl) ⟨_, rfl⟩ (by kernel_rfl) (by kernel_rfl) ?_; (simp only [nA, Nat.reduceEqDiff, ↓reduceIte])
   refine aePo 2 rfl (fun T' ok => ok.elim fun t' ok => op_nil_slot rfl rfl ok) ⟨_, rfl⟩ (by kernel_rfl) (by kernel_rfl) ?_; (try simp only [nA, Nat.reduceBEq, Nat.reduceEqDiff, ↓reduceIte, Nat.reduceAdd, Nat.reduceSub])
   refine aePo 3 rfl (fun T' ok => ok.elim fun t' ok => op_fa_ptr rfl rfl ok fl94_1 (by exact sz35) (by decide) rfl) ⟨_, rfl⟩ (by kernel_rfl) (by kernel_rfl) ?_; (try simp only [nA, Nat.reduceBEq, Nat.reduceEqDiff, ↓reduceIte, Nat.reduceAdd, Nat.reduceSub])
   refine aePo 4 rfl (fun T' ok => ok.elim fun t' ok => op_fa_ptr rfl rfl ok fl35_7 (by exact sz24) (by decide) rfl) ⟨_, rfl⟩ (by kernel_rfl) (by kernel_rfl) ?_; (simp only [nA, Nat.reduceBEq, Nat.reduceEqDiff, ↓reduceIte])
   refine aeRo 5 rfl (fun T' ok => ok.elim fun t' ok => op_load_ptr1 (row := rdC x (.v u) os t') rfl rfl ok rfl ag24 rfl rfl) ⟨_, rfl⟩ (by kernel_rfl) (by kernel_rfl) ?_; (try simp only [nA, Nat.reduceBEq, Nat.reduceEqDiff, ↓reduceIte, Nat.reduceAdd, Nat.reduceSub])
   refine aePo 6 rfl (fun T' ok => op_move rfl rfl) ⟨_, rfl⟩ (by kernel_rfl) (by kernel_rfl) ?_; (simp only [nA, Nat.reduceEqDiff, ↓reduceIte])
   refine aePo 8 rfl (fun T' ok => op_move rfl rfl) ⟨_, rfl⟩ (by kernel_rfl) (by kernel_rfl) ?_; (simp only [nA, Nat.reduceEqDiff, ↓reduceIte])
   refine aePo 10 rfl (fun T' ok => op_move rfl rfl) ⟨_, rfl⟩ (by kernel_rfl) (by kernel_rfl) ?_; (simp only [nA, Nat.reduceEqDiff, ↓reduceIte])
   refine aeJo 7 rfl (op_call1 rfl en99 g0 (by exact rfl) (RL.cons .ptr (RL.nil)) (by exact ⟨_, _, _, rfl, rfl, rfl⟩) (by exact rfl) (by exact rfl) (by exact rfl)) (by kernel_rfl) ⟨_, rfl⟩ ?_; (try simp only [nA, Nat.reduceBEq, Nat.reduceEqDiff, ↓reduceIte, Nat.reduceAdd, Nat.reduceSub])
   refine aeJo 9 rfl (op_call1 rfl en102 g1 (by exact rfl) (RL.cons .ptr (RL.nil)) (by exact ⟨_, _, _, rfl, rfl, rfl⟩) (by exact rfl) (by exact rfl) (by exact rfl)) (by kernel_rfl) ⟨_, rfl⟩ ?_; (try simp only [nA, Nat.reduceBEq, Nat.reduceEqDiff, ↓reduceIte, Nat.reduceAdd, Nat.reduceSub])
   refine aeJo 11 rfl (op_call1 rfl en100 g2 (by exact rfl) (RL.cons .ptr (RL.nil)) (by exact ⟨_, _, _, rfl, rfl, rfl⟩) (by exact rfl) (by exact rfl) (by exact rfl)) (by kernel_rfl) ⟨_, rfl⟩ ?_; (try simp only [nA, Nat.reduceBEq, Nat.reduceEqDiff, ↓reduceIte, Nat.reduceAdd, Nat.reduceSub])
   refine aePo 12 rfl (fun T' ok => op_build2 (xs := [_, _, _]) rfl pl66 ze66 [(0, [_]), (1, [_]), (2, [_])] rfl rfl rfl) ⟨_, rfl⟩ (by kernel_rfl) (by kernel_rfl) ?_; (simp only [nA, ↓reduceIte])
   refine aeJo 13 rfl (OpJ.frz (op_buildSlice rfl [(0, (⟨p1.1, p2.1, p3.1⟩ : Report).av)] [(⟨p1.1, p2.1, p3.1⟩ : Report).av] Tryd.underlying24 ze66 rfl (by simp) rfl (by simp) rfl (bl rfl) (by simp [maxLen])) (rp_flat [⟨p1.1, p2.1, p3.1⟩]) rfl) (by kernel_rfl) ⟨_, rfl⟩ ?_; (try simp only [nA, Nat.reduceBEq, Nat.reduceEqDiff, ↓reduceIte, Nat.reduceAdd, Nat.reduceSub])
   refine aeJo 14 rfl (OpJ.nm (t := 21) (r := 1) rfl rfl (op_app (rows := [(⟨p1.1, p2.1, p3.1⟩ : Report).av]) rfl rfl rfl rfl (by simp) .ro Tryd.underlying24 ze66 (by decide) (by simp) (by simp; omega) (by decide) (es' := (acc ++ [(⟨p1.1, p2.1, p3.1⟩ : Report)]).map Report.av) (by simp) (n := (acc ++ [(⟨p1.1, p2.1, p3.1⟩ : Report)]).length) (by simp))) (by kernel_rfl) ⟨_, rfl⟩ ?_; (try simp only [nA, Nat.reduceBEq, Nat.reduceEqDiff, ↓reduceIte, Nat.reduceAdd, Nat.reduceSub])
   refine aePo 15 rfl (fun T' ok => ok.elim fun t' ok => op_nil_slot rfl rfl ok) ⟨_, rfl⟩ (by kernel_rfl) (by kernel_rfl) ?_; (try simp only [nA, Nat.reduceBEq, Nat.reduceEqDiff, ↓reduceIte, Nat.reduceAdd, Nat.reduceSub])
   refine aePo 16 rfl (fun T' ok => ok.elim fun t' ok => op_fa_ptr rfl rfl ok fl94_1 (by exact sz35) (by decide) rfl) ⟨_, rfl⟩ (by kernel_rfl) (by kernel_rfl) ?_; (try simp only [nA, Nat.reduceBEq, Nat.reduceEqDiff, ↓reduceIte, Nat.reduceAdd, Nat.reduceSub])
   refine aePo 17 rfl (fun T' ok => ok.elim fun t' ok => op_fa_ptr rfl rfl ok fl35_7 (by exact sz24) (by decide) rfl) ⟨_, rfl⟩ (by kernel_rfl) (by kernel_rfl) ?_; (simp only [nA, Nat.reduceBEq, Nat.reduceEqDiff, ↓reduceIte])
   refine aeLo 18 rfl (op_store_nest (r := 0) (q := 1) rfl rfl rfl rfl (row := rdC x (.v u) os p3.2) rfl sz24 rfl (by decide) (by simp) (by simp) (es2 := [rdC x (.own 66 ((acc ++ [(⟨p1.1, p2.1, p3.1⟩ : Report)]).map Report.av)) os p3.2]) rfl) (by kernel_rfl) (by kernel_rfl) ?_; (try simp only [nA, Nat.reduceBEq, Nat.reduceEqDiff, ↓reduceIte, Nat.reduceAdd, Nat.reduceSub])
   refine aeDoneo (by kernel_rfl) ?_
   (try simp only [thenE, inBlk, Nat.reduceEqDiff, ↓reduceIte])
   (refine hK _ ?_; clear hK K; (skip))
   refine AW.region ?_
   refine awP (op_move rfl rfl) ?_; (simp only [nA, Nat.reduceEqDiff, ↓reduceIte])
   (refine awP (op_subi rfl rfl rfl (by omega)) ?_); (try simp only [nA, Nat.reduceBEq, Nat.reduceEqDiff, ↓reduceIte, Nat.reduceAdd, Nat.reduceSub])
   refine awP (op_assign rfl rfl) ?_; (simp only [nA])
   refine AWL.gh (Gh.drop 1) ?_; (try simp only [nA, Nat.reduceBEq, Nat.reduceEqDiff, ↓reduceIte, Nat.reduceAdd, Nat.reduceSub])
   refine AWL.nil ?_
   refine ⟨(k, acc ++ [(⟨p1.1, p2.1, p3.1⟩ : Report)], p3.2, _), ⟨hR, by dsimp only at hle ⊢; rw [List.length_append]; simp only [List.length_cons, List.length_nil]; omega, fun h => by have := hus h; dsimp only at this ⊢; rw [List.length_append]; simp only [List.length_cons, List.length_nil]; omega, by dsimp only; omega⟩, by dsimp only; omega, ⟨rfl, by dsimp only; exact congrArg (fun z => AV.v (.int .i64 z)) (by omega), trivial⟩, (by rfl), (by rfl)⟩
  have hc1 := hc; have hE : repM (rpM rE) k acc t = (acc, t) := (by cases hbb : t.bad with | true => exact rep_bad hbb | false => (have h0 : k = 0 := (by rw [hbb] at hc1; simp at hc1; omega); subst h0; rfl)); rw [hE] at hR
  refine AW.exit ?_; (try simp only [thenE, inBlk, Nat.reduceEqDiff, ↓reduceIte])
  clear hK K
  show RQ _ _ _ _ _ _; rw [show lsM rE (rpM rE) [] s = (acc, t) from hR.symm]; exact RQ.of (.inr rfl) rfl .nil (by simp) rfl (one_out rfl)
end Go.Proofs.YtfmnaigedgmhoaaDoor
namespace Go.Proofs.YtfmnaigedgmhoaaDoor
open Go.RowKit
set_option linter.unusedSimpArgs false
set_option linter.unusedVariables false
set_option maxRecDepth 100000
theorem op_flat (ls : List Op) : ∀ r ∈ ls.map Op.av, ∀ c ∈ r, flatA c = true := fun r hr c hc => by
  obtain ⟨l, _, rfl⟩ := List.mem_map.1 hr
  simp only [Op.av, List.mem_cons, List.not_mem_nil, or_false] at hc
  rcases hc with rfl | rfl | rfl | rfl | rfl | rfl | rfl | rfl | rfl | rfl <;> rfl
theorem pl_le (s : RS) : (plM rE s).2.b.length ≤ s.b.length := Nat.le_trans (numE_len _) (Nat.le_trans (numE_len _) (numE_len s))
theorem op_le0 (s : RS) : (numE (plM rE (numE (numE (numE (numE (numE s).2).2).2).2).2).2).2.b.length ≤ s.b.length :=
  Nat.le_trans (numE_len _) (Nat.le_trans (pl_le _) (Nat.le_trans (numE_len _) (Nat.le_trans (numE_len _) (Nat.le_trans (numE_len _) (Nat.le_trans (numE_len _) (numE_len s))))))
theorem op_le (s : RS) : (opM rE s).2.b.length ≤ s.b.length := Nat.le_trans (numE_len _) (op_le0 s)
theorem op_used {s : RS} (h : (opM rE s).2.bad = false) : (opM rE s).2.b.length + 4 ≤ s.b.length := by
  have h1 := (num_used (s := (numE (plM rE (numE (numE (numE (numE (numE s).2).2).2).2).2).2).2) h).2
  have h2 := op_le0 s
  show (numE (numE (plM rE (numE (numE (numE (numE (numE s).2).2).2).2).2).2).2).2.b.length + 4 ≤ _
  omega
set_option maxHeartbeats 8000000 in
theorem C83 {x : Ev} {rs : AV} {s : RS} (hl : s.b.length ≤ 1000000) : Fn Tryd.prog 83 [.own 94 [rdC x rs (.own 32 []) s]] [.ptr 0 0 0 0] [] [.own 94 [rdC x rs (.own 32 ((lsM rE (opM rE) [] s).1.map Op.av)) (lsM rE (opM rE) [] s).2]] := by
  refine Spec.body Tryd.func83 rfl Tryd.ntmps83 (by simp) rfl ?_; intro S0 own0 v0 w0 gl
  (refine AW.seq_k ?_; intro K hK)
  refine AW.region ?_
  refine awP (op_move rfl rfl) ?_; (try simp only [nA, Nat.reduceBEq, Nat.reduceEqDiff, ↓reduceIte, Nat.reduceAdd, Nat.reduceSub])
  refine awJ (op_call1 rfl en99 (C99 (x := x) (rs := rs) (os := .own 32 []) (s := s) hl) (by exact rfl) (RL.cons .ptr (RL.nil)) (by exact ⟨_, _, _, rfl, rfl, rfl⟩) (by exact rfl) (by exact rfl) (by exact rfl)) ?_; (try simp only [nA, Nat.reduceBEq, Nat.reduceEqDiff, ↓reduceIte, Nat.reduceAdd, Nat.reduceSub])
  refine awP (op_assign rfl rfl) ?_; (simp only [nA])
  refine AWL.nil ?_
  (refine hK _ ?_; clear hK K; (try simp only [nA, Nat.reduceBEq, Nat.reduceEqDiff, ↓reduceIte, Nat.reduceAdd, Nat.reduceSub]))
  refine AW.block ?_
  have hnn := numE_nn s; refine AW.loopI (fun (q : Nat × List Op × RS × Nat) => [(0, .ptr 0 0 0 0), (2, .v (.int .i64 (q.1 : Nat)))]) (fun q => ⟨[(0, .own 94 [rdC x rs (.own 32 (q.2.1.map Op.av)) q.2.2.1])], q.2.2.2⟩) (fun q => repM (opM rE) q.1 q.2.1 q.2.2.1 = repM (opM rE) (numE s).1.toNat [] (numE s).2 ∧ q.2.1.length + q.2.2.1.b.length ≤ 1000001 ∧ (q.2.2.1.bad = false → q.2.1.length + q.2.2.1.b.length ≤ 1000000) ∧ q.1 ≤ 4294967296) (fun q => q.1) ((numE s).1.toNat, [], (numE s).2, _) ⟨rfl, by have := numE_len s; simp; omega, fun _ => by have := numE_len s; simp; omega, numE_top s⟩ ⟨rfl, by dsimp only; rw [Int.toNat_of_nonneg hnn]; rfl, trivial⟩ rfl ?_; rintro ⟨k, acc, t, ep⟩ ρ ⟨hR, hB1, hB2, hk⟩; dsimp only at hR hB1 hB2 hk ⊢; simp only [updL]
  (refine AW.seq_k ?_; intro K hK)
  (refine AW.seq_k ?_; intro K hK)
  refine AW.region (AWL.quiet ?_)
  refine aqP (op_move rfl rfl) ?_; (simp only [nA, ↓reduceIte])
  refine aqP (op_gtr rfl rfl rfl) ?_; (try simp only [nA, Nat.reduceBEq, Nat.reduceEqDiff, ↓reduceIte, Nat.reduceAdd, Nat.reduceSub])
  refine aqP (op_move rfl rfl) ?_; (simp only [nA])
  refine' aqAnd' [_, _, _, _, _] [8,9,10,11,12] rfl rfl rfl rfl rfl rfl rfl rfl rfl rfl rfl rfl (fun hb => ?_) ?_; rotate_left
  ·
   (try simp only [hcS] at hb)
   refine aqP (op_move rfl rfl) ?_; (simp only [nA, ↓reduceIte])
   (refine aqP (op_nil_slot rfl rfl rfl) ?_); (try simp only [nA, Nat.reduceBEq, Nat.reduceEqDiff, ↓reduceIte, Nat.reduceAdd, Nat.reduceSub])
   (refine aqP (op_fa_ptr rfl rfl rfl fl94_2 (by exact sz4) (by decide) rfl) ?_); (try simp only [nA, Nat.reduceBEq, Nat.reduceEqDiff, ↓reduceIte, Nat.reduceAdd, Nat.reduceSub])
   (refine aqR (op_load_ptr1 rfl rfl rfl rfl ag4 rfl rfl) ?_); (try simp only [nA, Nat.reduceBEq, Nat.reduceEqDiff, ↓reduceIte, Nat.reduceAdd, Nat.reduceSub])
   refine aqP (op_not rfl rfl rfl) ?_; (try simp only [nA, Nat.reduceBEq, Nat.reduceEqDiff, ↓reduceIte, Nat.reduceAdd, Nat.reduceSub])
   (refine aqSeg rfl rfl rfl ?_; repeat (first | exact fun _ _ => rfl | refine upd_out rfl ?_))
  refine AQ.nil ?_
  (refine hK _ ?_; clear hK K; (skip))
  refine AW.cond rfl rfl rfl (fun hc => ?_) (fun hc => ?_)
  ·
   have hc1 := hc; obtain ⟨hk0, hb0⟩ : 0 < k ∧ t.bad = false := (by cases hbb : t.bad <;> rw [hbb] at hc1 <;> simp at hc1 <;> exact ⟨by omega, rfl⟩); obtain ⟨k, rfl⟩ : ∃ k', k = k' + 1 := ⟨k - 1, by omega⟩; rw [rep_step hb0] at hR; have hB := hB2 hb0; have hlt : t.b.length ≤ 1000000 := (by omega)
   refine AW.skip ?_
   (refine hK _ ?_; clear hK K; (skip))
   (refine AW.seq_k ?_; intro K hK)
   refine AW.block ?_
   refine AW.ghE (GhE.unnest (r := 0) (row := rdC x rs (.own 32 (acc.map Op.av)) t) 0 28 rfl rfl rfl) ?_; intro u hu; (try simp only [nA, Nat.reduceBEq, Nat.reduceEqDiff, ↓reduceIte, Nat.reduceAdd, Nat.reduceSub])
   have g0 := C104 (x := x) (rs := rs) (os := .v u) (s := t) hlt
   have hle := op_le t
   have hus := op_used (s := t)
   generalize opM rE t = p1 at g0 hR hle hus
   obtain ⟨o1, t1⟩ := p1
   dsimp only at g0 hR hle hus
   refine AW.aeo (fun T' => ∃ t', T'.slots[0]? = some (0, .own 94 [rdC x rs (.v u) t'])) mix rfl ?_
   refine aePo 0 rfl (fun T' ok => op_move rfl rfl) ⟨_, rfl⟩ (by kernel_rfl) (by kernel_rfl) ?_; (simp only [nA, Nat.reduceBEq, Nat.reduceEqDiff, ↓reduceIte])
   refine aePo 1 rfl (fun T' ok => op_move rfl rfl) ⟨_, rfl⟩ (by kernel_rfl) (by kernel_rfl) ?_; (simp only [nA, Nat.reduceEqDiff, ↓reduceIte])
   refine aePo 2 rfl (fun T' ok => ok.elim fun t' ok => op_nil_slot rfl rfl ok) ⟨_, rfl⟩ (by kernel_rfl) (by kernel_rfl) ?_; (try simp only [nA, Nat.reduceBEq, Nat.reduceEqDiff, ↓reduceIte, Nat.reduceAdd, Nat.reduceSub])
   refine aePo 3 rfl (fun T' ok => ok.elim fun t' ok => op_fa_ptr rfl rfl ok fl94_1 (by exact sz35) (by decide) rfl) ⟨_, rfl⟩ (by kernel_rfl) (by kernel_rfl) ?_; (try simp only [nA, Nat.reduceBEq, Nat.reduceEqDiff, ↓reduceIte, Nat.reduceAdd, Nat.reduceSub])
   refine aePo 4 rfl (fun T' ok => ok.elim fun t' ok => op_fa_ptr rfl rfl ok fl35_11 (by exact sz33) (by decide) rfl) ⟨_, rfl⟩ (by kernel_rfl) (by kernel_rfl) ?_; (simp only [nA, Nat.reduceBEq, Nat.reduceEqDiff, ↓reduceIte])
   refine aeRo 5 rfl (fun T' ok => ok.elim fun t' ok => op_load_ptr1 (row := rdC x rs (.v u) t') rfl rfl ok rfl ag33 rfl rfl) ⟨_, rfl⟩ (by kernel_rfl) (by kernel_rfl) ?_; (try simp only [nA, Nat.reduceBEq, Nat.reduceEqDiff, ↓reduceIte, Nat.reduceAdd, Nat.reduceSub])
   refine aePo 6 rfl (fun T' ok => op_move rfl rfl) ⟨_, rfl⟩ (by kernel_rfl) (by kernel_rfl) ?_; (simp only [nA, Nat.reduceEqDiff, ↓reduceIte])
   refine aeJo 7 rfl (op_call1 rfl en104 g0 (by exact rfl) (RL.cons .ptr (RL.nil)) (by exact ⟨_, _, _, rfl, rfl, rfl⟩) (by exact rfl) (by exact rfl) (by exact rfl)) (by kernel_rfl) ⟨_, rfl⟩ ?_; (try simp only [nA, Nat.reduceBEq, Nat.reduceEqDiff, ↓reduceIte, Nat.reduceAdd, Nat.reduceSub])
   refine aeJo 8 rfl (OpJ.frz (op_buildSlice rfl [(0, Op.av o1)] [Op.av o1] Tryd.underlying33 ze32 rfl (by simp) rfl (by simp) rfl (bl rfl) (by simp [maxLen])) (op_flat [o1]) rfl) (by kernel_rfl) ⟨_, rfl⟩ ?_; (try simp only [nA, Nat.reduceBEq, Nat.reduceEqDiff, ↓reduceIte, Nat.reduceAdd, Nat.reduceSub])
   refine aeJo 9 rfl (OpJ.nm (t := 21) (r := 1) rfl rfl (op_app (rows := [Op.av o1]) rfl rfl rfl rfl (by simp) .ro Tryd.underlying33 ze32 (by decide) (by simp) (by simp; omega) (by decide) (es' := (acc ++ [o1]).map Op.av) (by simp) (n := (acc ++ [o1]).length) (by simp))) (by kernel_rfl) ⟨_, rfl⟩ ?_; (try simp only [nA, Nat.reduceBEq, Nat.reduceEqDiff, ↓reduceIte, Nat.reduceAdd, Nat.reduceSub])
   refine aePo 10 rfl (fun T' ok => ok.elim fun t' ok => op_nil_slot rfl rfl ok) ⟨_, rfl⟩ (by kernel_rfl) (by kernel_rfl) ?_; (try simp only [nA, Nat.reduceBEq, Nat.reduceEqDiff, ↓reduceIte, Nat.reduceAdd, Nat.reduceSub])
   refine aePo 11 rfl (fun T' ok => ok.elim fun t' ok => op_fa_ptr rfl rfl ok fl94_1 (by exact sz35) (by decide) rfl) ⟨_, rfl⟩ (by kernel_rfl) (by kernel_rfl) ?_; (try simp only [nA, Nat.reduceBEq, Nat.reduceEqDiff, ↓reduceIte, Nat.reduceAdd, Nat.reduceSub])
   refine aePo 12 rfl (fun T' ok => ok.elim fun t' ok => op_fa_ptr rfl rfl ok fl35_11 (by exact sz33) (by decide) rfl) ⟨_, rfl⟩ (by kernel_rfl) (by kernel_rfl) ?_; (simp only [nA, Nat.reduceBEq, Nat.reduceEqDiff, ↓reduceIte])
   refine aeLo 13 rfl (op_store_nest (r := 0) (q := 1) rfl rfl rfl rfl (row := rdC x rs (.v u) t1) rfl sz33 rfl (by decide) (by simp) (by simp) (es2 := [rdC x rs (.own 32 ((acc ++ [o1]).map Op.av)) t1]) rfl) (by kernel_rfl) (by kernel_rfl) ?_; (try simp only [nA, Nat.reduceBEq, Nat.reduceEqDiff, ↓reduceIte, Nat.reduceAdd, Nat.reduceSub])
   refine aeDoneo (by kernel_rfl) ?_
   (try simp only [thenE, inBlk, Nat.reduceEqDiff, ↓reduceIte])
   (refine hK _ ?_; clear hK K; (skip))
   refine AW.region ?_
   refine awP (op_move rfl rfl) ?_; (simp only [nA, Nat.reduceEqDiff, ↓reduceIte])
   (refine awP (op_subi rfl rfl rfl (by omega)) ?_); (try simp only [nA, Nat.reduceBEq, Nat.reduceEqDiff, ↓reduceIte, Nat.reduceAdd, Nat.reduceSub])
   refine awP (op_assign rfl rfl) ?_; (simp only [nA])
   refine AWL.gh (Gh.drop 1) ?_; (try simp only [nA, Nat.reduceBEq, Nat.reduceEqDiff, ↓reduceIte, Nat.reduceAdd, Nat.reduceSub])
   refine AWL.nil ?_
   refine ⟨(k, acc ++ [o1], t1, _), ⟨hR, by dsimp only at hle ⊢; rw [List.length_append]; simp only [List.length_cons, List.length_nil]; omega, fun h => by have := hus h; dsimp only at this ⊢; rw [List.length_append]; simp only [List.length_cons, List.length_nil]; omega, by dsimp only; omega⟩, by dsimp only; omega, ⟨rfl, by dsimp only; exact congrArg (fun z => AV.v (.int .i64 z)) (by omega), trivial⟩, (by rfl), (by rfl)⟩
  have hc1 := hc; have hE : repM (opM rE) k acc t = (acc, t) := (by cases hbb : t.bad with | true => exact rep_bad hbb | false => (have h0 : k = 0 := (by rw [hbb] at hc1; simp at hc1; omega); subst h0; rfl)); rw [hE] at hR
  refine AW.exit ?_; (try simp only [thenE, inBlk, Nat.reduceEqDiff, ↓reduceIte])
  clear hK K
  show RQ _ _ _ _ _ _; rw [show lsM rE (opM rE) [] s = (acc, t) from hR.symm]; exact RQ.of (.inr rfl) rfl .nil (by simp) rfl (one_out rfl)
end Go.Proofs.YtfmnaigedgmhoaaDoor
namespace Go.Proofs.YtfmnaigedgmhoaaDoor
open Go.RowKit
set_option linter.unusedSimpArgs false
set_option linter.unusedVariables false
set_option maxRecDepth 100000
set_option maxHeartbeats 8000000 in
theorem C109 {c : UInt8} : Fn Tryd.prog 109 [] [.v (.int .u8 c.toNat)] [.v (.bool (upB c))] [] := by
  refine Spec.body Tryd.func109 rfl Tryd.ntmps109 (by simp) rfl ?_; intro S0 own0 v0 w0 gl
  (refine AW.seq_k ?_; intro K hK)
  refine AW.region ?_
  refine awP (op_assign rfl rfl) ?_
  refine AWL.nil ?_
  (refine hK _ ?_; clear hK K; (try simp only [nA, Nat.reduceBEq, Nat.reduceEqDiff, ↓reduceIte, Nat.reduceAdd, Nat.reduceSub]))
  (refine AW.seq_k ?_; intro K hK)
  refine AW.region (AWL.quiet ?_)
  refine aqP (op_move rfl rfl) ?_
  refine aqP (op_geq rfl rfl rfl) ?_
  refine aqP (op_move rfl rfl) ?_
  refine' aqAnd' [_, _] [6,7] rfl rfl rfl rfl rfl rfl rfl rfl rfl rfl rfl rfl (fun hb => ?_) ?_; rotate_left
  ·
   (try simp only [hcS] at hb)
   refine aqP (op_move rfl rfl) ?_
   refine aqP (op_leq rfl rfl rfl) ?_
   (refine aqSeg rfl rfl rfl ?_; repeat (first | exact fun _ _ => rfl | refine upd_out rfl ?_))
  simp only [nA, ↓reduceIte]
  refine aqP (op_assign rfl rfl) ?_
  refine AQ.nil ?_
  (refine hK _ ?_; clear hK K; (simp only [nA]))
  skip
  refine AW.ret ?_; (try simp only [thenE, inBlk, Nat.reduceEqDiff, ↓reduceIte]); exact RQ.of0 rfl (.tmp (bl rfl) rfl rfl .nil)
set_option maxHeartbeats 8000000 in
theorem C110 {c : UInt8} : Fn Tryd.prog 110 [] [.v (.int .u8 c.toNat)] [.v (.bool (dgB c))] [] := by
  refine Spec.body Tryd.func110 rfl Tryd.ntmps110 (by simp) rfl ?_; intro S0 own0 v0 w0 gl
  (refine AW.seq_k ?_; intro K hK)
  refine AW.region ?_
  refine awP (op_assign rfl rfl) ?_
  refine AWL.nil ?_
  (refine hK _ ?_; clear hK K; (try simp only [nA, Nat.reduceBEq, Nat.reduceEqDiff, ↓reduceIte, Nat.reduceAdd, Nat.reduceSub]))
  (refine AW.seq_k ?_; intro K hK)
  refine AW.region (AWL.quiet ?_)
  refine aqP (op_move rfl rfl) ?_
  refine aqP (op_geq rfl rfl rfl) ?_
  refine aqP (op_move rfl rfl) ?_
  refine' aqAnd' [_, _] [6,7] rfl rfl rfl rfl rfl rfl rfl rfl rfl rfl rfl rfl (fun hb => ?_) ?_; rotate_left
  ·
   (try simp only [hcS] at hb)
   refine aqP (op_move rfl rfl) ?_
   refine aqP (op_leq rfl rfl rfl) ?_
   (refine aqSeg rfl rfl rfl ?_; repeat (first | exact fun _ _ => rfl | refine upd_out rfl ?_))
  simp only [nA, ↓reduceIte]
  refine aqP (op_assign rfl rfl) ?_
  refine AQ.nil ?_
  (refine hK _ ?_; clear hK K; (simp only [nA]))
  skip
  refine AW.ret ?_; (try simp only [thenE, inBlk, Nat.reduceEqDiff, ↓reduceIte]); exact RQ.of0 rfl (.tmp (bl rfl) rfl rfl .nil)
def sufR (s : ByteArray) : Bool := (s.toList == (⟨#[]⟩ : ByteArray).toList) || (decide ((s.size : Int) = 1) && upB (chr s 0))
set_option maxHeartbeats 8000000 in
theorem C97r {s : ByteArray} : Fn Tryd.prog 97 [] [.v (.string s)] [.v (.bool (sufR s))] [] := by
  refine Spec.body Tryd.func97 rfl Tryd.ntmps97 (by simp) rfl ?_; intro S0 own0 v0 w0 gl
  (refine AW.seq_k ?_; intro K hK)
  refine AW.region ?_
  refine awP (op_assign rfl rfl) ?_
  refine AWL.nil ?_
  (refine hK _ ?_; clear hK K; (try simp only [nA, Nat.reduceBEq, Nat.reduceEqDiff, ↓reduceIte, Nat.reduceAdd, Nat.reduceSub]))
  (refine AW.seq_k ?_; intro K hK)
  refine AW.region (AWL.quiet ?_)
  refine aqP (op_move rfl rfl) ?_
  (refine aqP (op_seql rfl rfl rfl) ?_)
  refine aqP (op_move rfl rfl) ?_
  refine' aqOrN' [_, _, _, _, _, _, _, _] [6,7,8,9,10,11,12,13] rfl rfl rfl rfl rfl rfl rfl rfl rfl rfl rfl rfl (fun hb => ?_) ?_; rotate_left
  ·
   (try simp only [hcS] at hb)
   refine aqP (op_move rfl rfl) ?_
   (refine aqP (op_len_str rfl rfl Tryd.underlying9) ?_)
   (refine aqP (op_eql rfl rfl rfl) ?_)
   refine aqP (op_move rfl rfl) ?_
   refine' aqAnd' [_, _, _] [10,11,12] rfl rfl rfl rfl rfl rfl rfl rfl rfl rfl rfl rfl (fun hb => ?_) ?_; rotate_left
   ·
    (try simp only [hcS] at hb)
    refine aqP (op_move rfl rfl) ?_
    refine aqP (op_ix_str 0 rfl rfl rfl Tryd.underlying9 rfl (get_chr (s := s) (i := 0) (by omega))) ?_
    refine aqQ (op_callQ (b := true) rfl en109 (C109) (RL.cons (by exact View.same rfl) (RL.nil)) rfl) ?_; (simp only [nA, ↓reduceIte])
    (refine aqSeg rfl rfl rfl ?_; repeat (first | exact fun _ _ => rfl | refine upd_out rfl ?_))
   simp only [nA, ↓reduceIte]
   (refine aqSeg rfl rfl rfl ?_; repeat (first | exact fun _ _ => rfl | refine upd_out rfl ?_ | refine era_out rfl ?_))
  simp only [nA, ↓reduceIte]
  refine aqP (op_assign rfl rfl) ?_
  refine AQ.nil ?_
  (refine hK _ ?_; clear hK K; (simp only [nA]))
  skip
  refine AW.ret ?_; (try simp only [thenE, inBlk, Nat.reduceEqDiff, ↓reduceIte]); exact RQ.of0 rfl (.tmp (bl rfl) rfl rfl .nil)
def carR (s : ByteArray) : Bool := ((upB (chr s 0) || dgB (chr s 0)) && (upB (chr s 1) || dgB (chr s 1))) && (upB (chr s 0) || upB (chr s 1))
def car0 (s : ByteArray) : Bool := if (s.size : Int) ≠ 2 then false else carR s
set_option maxHeartbeats 8000000 in
theorem C96r {s : ByteArray} : Fn Tryd.prog 96 [] [.v (.string s)] [.v (.bool (car0 s))] [] := by
  refine Spec.body Tryd.func96 rfl Tryd.ntmps96 (by simp) rfl ?_; intro S0 own0 v0 w0 gl
  (refine AW.seq_k ?_; intro K hK)
  refine AW.region ?_
  refine awP (op_assign rfl rfl) ?_
  refine AWL.nil ?_
  (refine hK _ ?_; clear hK K; (try simp only [nA, Nat.reduceBEq, Nat.reduceEqDiff, ↓reduceIte, Nat.reduceAdd, Nat.reduceSub]))
  (refine AW.seq_k ?_; intro K hK)
  (refine AW.seq_k ?_; intro K hK)
  refine AW.region ?_
  refine awP (op_move rfl rfl) ?_
  (refine awP (op_len_str rfl rfl Tryd.underlying9) ?_)
  (refine awP (op_neq rfl rfl rfl) ?_)
  refine AWL.nil ?_
  (refine hK _ ?_; clear hK K; (simp only [nA, ↓reduceIte]))
  refine AW.cond rfl rfl rfl (fun hc => ?_) (fun hc => ?_)
  ·
   (try simp only [hcS] at hc); have hc1 := hc
   (refine AW.seq_k ?_; intro K hK)
   refine AW.region ?_
   refine awP (op_assign rfl rfl) ?_
   refine AWL.nil ?_
   (refine hK _ ?_; clear hK K; (try simp only [nA, Nat.reduceBEq, Nat.reduceEqDiff, ↓reduceIte, Nat.reduceAdd, Nat.reduceSub]))
   skip
   refine AW.ret ?_; (try simp only [thenE, inBlk, Nat.reduceEqDiff, ↓reduceIte]); rw [show car0 s = false by unfold car0; rw [if_pos (by omega)]]; exact RQ.of0 rfl (.tmp (bl rfl) rfl rfl .nil)
  (try simp only [hcS] at hc); have hc1 := hc
  refine AW.skip ?_
  (refine hK _ ?_; clear hK K; (skip))
  (refine AW.seq_k ?_; intro K hK)
  refine AW.quiet mix (by kernel_rfl) ?_
  refine aqP (op_move rfl rfl) ?_
  refine aqP (op_ix_str 0 rfl rfl rfl Tryd.underlying9 rfl (get_chr (s := s) (i := 0) (by omega))) ?_
  refine aqQ (op_callQ (b := true) rfl en109 (C109) (RL.cons (by exact View.same rfl) (RL.nil)) rfl) ?_; (simp only [nA, ↓reduceIte])
  refine aqP (op_move rfl rfl) ?_
  refine aqP (op_ix_str 1 rfl rfl rfl Tryd.underlying9 rfl (get_chr (s := s) (i := 1) (by omega))) ?_
  refine aqQ (op_callQ (b := true) rfl en109 (C109) (RL.cons (by exact View.same rfl) (RL.nil)) rfl) ?_; (simp only [nA, ↓reduceIte])
  refine aqP (op_assign rfl rfl) ?_
  refine aqP (op_assign rfl rfl) ?_
  refine AQ.nil ?_
  (refine hK _ ?_; clear hK K; (simp only [nA, ↓reduceIte]))
  (refine AW.seq_k ?_; intro K hK)
  refine AW.region (AWL.quiet ?_)
  refine aqP (op_move rfl rfl) ?_
  refine aqP (op_move rfl rfl) ?_
  refine' aqOr' [_, _, _] [16,17,18] rfl rfl rfl rfl rfl rfl rfl rfl rfl rfl rfl rfl (fun hb => ?_) ?_; rotate_left
  ·
   (try simp only [hcS] at hb)
   refine aqP (op_move rfl rfl) ?_
   refine aqP (op_ix_str 0 rfl rfl rfl Tryd.underlying9 rfl (get_chr (s := s) (i := 0) (by omega))) ?_
   refine aqQ (op_callQ (b := true) rfl en110 (C110) (RL.cons (by exact View.same rfl) (RL.nil)) rfl) ?_; (simp only [nA, ↓reduceIte])
   (refine aqSeg rfl rfl rfl ?_; repeat (first | exact fun _ _ => rfl | refine upd_out rfl ?_))
  simp only [nA, ↓reduceIte]
  refine aqP (op_move rfl rfl) ?_
  refine' aqAndN' [_, _, _, _, _, _] [21,22,23,24,25,26] rfl rfl rfl rfl rfl rfl rfl rfl rfl rfl rfl rfl (fun hb => ?_) ?_; rotate_left
  ·
   (try simp only [hcS] at hb)
   refine aqP (op_move rfl rfl) ?_
   refine aqP (op_move rfl rfl) ?_
   refine' aqOr' [_, _, _] [23,24,25] rfl rfl rfl rfl rfl rfl rfl rfl rfl rfl rfl rfl (fun hb => ?_) ?_; rotate_left
   ·
    (try simp only [hcS] at hb)
    refine aqP (op_move rfl rfl) ?_
    refine aqP (op_ix_str 1 rfl rfl rfl Tryd.underlying9 rfl (get_chr (s := s) (i := 1) (by omega))) ?_
    refine aqQ (op_callQ (b := true) rfl en110 (C110) (RL.cons (by exact View.same rfl) (RL.nil)) rfl) ?_; (simp only [nA, Nat.reduceEqDiff, ↓reduceIte])
    (refine aqSeg rfl rfl rfl ?_; repeat (first | exact fun _ _ => rfl | refine upd_out rfl ?_))
   simp only [nA, Nat.reduceEqDiff, ↓reduceIte]
   (refine aqSeg rfl rfl rfl ?_; repeat (first | exact fun _ _ => rfl | refine upd_out rfl ?_ | refine era_out rfl ?_))
  simp only [nA]
  refine aqP (op_move rfl rfl) ?_
  refine' aqAndN' [_, _, _, _] [29,30,31,32] rfl rfl rfl rfl rfl rfl rfl rfl rfl rfl rfl rfl (fun hb => ?_) ?_; rotate_left
  ·
   (try simp only [hcS] at hb)
   refine aqP (op_move rfl rfl) ?_
   refine aqP (op_move rfl rfl) ?_
   refine' aqOr' [_] [31] rfl rfl rfl rfl rfl rfl rfl rfl rfl rfl rfl rfl (fun hb => ?_) ?_; rotate_left
   ·
    (try simp only [hcS] at hb)
    refine aqP (op_move rfl rfl) ?_
    (refine aqSeg rfl rfl rfl ?_; repeat (first | exact fun _ _ => rfl | refine upd_out rfl ?_))
   simp only [nA, Nat.reduceEqDiff, ↓reduceIte]
   (refine aqSeg rfl rfl rfl ?_; repeat (first | exact fun _ _ => rfl | refine upd_out rfl ?_ | refine era_out rfl ?_))
  simp only [nA]
  refine aqP (op_assign rfl rfl) ?_
  refine AQ.nil ?_
  (refine hK _ ?_; clear hK K; (simp only [nA]))
  skip
  refine AW.ret ?_; (try simp only [thenE, inBlk, Nat.reduceEqDiff, ↓reduceIte]); rw [show car0 s = carR s by unfold car0; rw [if_neg (by omega)]]; exact RQ.of0 rfl (.tmp (bl rfl) rfl rfl .nil)
theorem bytes_eq (s : ByteArray) : s.toList = s.data.toList := by
  exact ByteArray.toList_eq s
theorem suf_eq (s : ByteArray) : sufR s = lettersB s 0 1 := by
  unfold sufR lettersB
  rw [bytes_eq, bytes_eq]
  have hs := size_len s
  rcases hd : s.data.toList with _ | ⟨a, _ | ⟨b, t⟩⟩
  · rw [hd] at hs
    simp at hs
    simp [← hs]
  · rw [hd] at hs
    simp at hs
    simp [← hs, chr, hd]
  rw [hd] at hs
  simp at hs
  have h1 : ¬ (s.size : Int) = 1 := by omega
  have h2 : ¬ (s.size : Int) ≤ 1 := by omega
  simp [h1, h2]
theorem car_eq (s : ByteArray) : car0 s = carB s := by
  unfold car0 carB
  have hs := size_len s
  by_cases h2 : s.size = 2
  · rw [if_neg (by omega)]
    rcases hd : s.data.toList with _ | ⟨a, _ | ⟨b, _ | ⟨d, t⟩⟩⟩ <;> rw [hd] at hs <;> simp at hs <;> try omega
    unfold carR chr
    rw [hd]
    simp [h2]
  rw [if_pos (by omega)]
  simp [h2]
set_option maxHeartbeats 8000000 in
theorem C97 {s : ByteArray} : Fn Tryd.prog 97 [] [.v (.string s)] [.v (.bool (lettersB s 0 1))] [] := by
  rw [← suf_eq]; exact C97r
set_option maxHeartbeats 8000000 in
theorem C96 {s : ByteArray} : Fn Tryd.prog 96 [] [.v (.string s)] [.v (.bool (carB s))] [] := by
  rw [← car_eq]; exact C96r
set_option maxHeartbeats 8000000 in
theorem C71 {f : Flight} : Fn Tryd.prog 71 [] [.agg f.av] [.v (.bool (flB f))] [] := by
  refine Spec.body Tryd.func71 rfl Tryd.ntmps71 (by simp) rfl ?_; intro S0 own0 v0 w0 gl
  (refine AW.seq_k ?_; intro K hK)
  refine AW.region ?_
  refine awJ (op_box rfl rfl rfl sz26 rfl) ?_; (simp only [nA, Nat.reduceBEq, Nat.reduceEqDiff, ↓reduceIte])
  refine awP (op_assign rfl rfl) ?_
  refine AWL.nil ?_
  (refine hK _ ?_; clear hK K; (try simp only [nA, Nat.reduceBEq, Nat.reduceEqDiff, ↓reduceIte, Nat.reduceAdd, Nat.reduceSub]))
  (refine AW.seq_k ?_; intro K hK)
  refine AW.region (AWL.quiet ?_)
  (refine aqP (op_fa_ptr rfl rfl rfl fl26_0 (by exact sz9) (by decide) rfl) ?_)
  (refine aqR (op_load_ptr1 rfl rfl rfl rfl ag9 rfl rfl) ?_)
  refine aqQ (op_callQ (b := true) rfl en96 (C96) (RL.cons (by exact View.same rfl) (RL.nil)) rfl) ?_; (try simp only [nA, Nat.reduceBEq, Nat.reduceEqDiff, ↓reduceIte, Nat.reduceAdd, Nat.reduceSub])
  refine aqP (op_move rfl rfl) ?_
  refine' aqAnd' [_, _, _] [7,8,9] rfl rfl rfl rfl rfl rfl rfl rfl rfl rfl rfl rfl (fun hb => ?_) ?_; rotate_left
  ·
   (try simp only [hcS] at hb)
   (refine aqP (op_fa_ptr rfl rfl rfl fl26_1 (by exact sz3) (by decide) rfl) ?_)
   (refine aqR (op_load_ptr1 rfl rfl rfl rfl ag3 rfl rfl) ?_)
   refine aqP (op_geq rfl rfl rfl) ?_
   (refine aqSeg rfl rfl rfl ?_; repeat (first | exact fun _ _ => rfl | refine upd_out rfl ?_))
  simp only [nA]
  refine aqP (op_move rfl rfl) ?_
  refine' aqAnd' [_, _, _] [12,13,14] rfl rfl rfl rfl rfl rfl rfl rfl rfl rfl rfl rfl (fun hb => ?_) ?_; rotate_left
  ·
   (try simp only [hcS] at hb)
   (refine aqP (op_fa_ptr rfl rfl rfl fl26_1 (by exact sz3) (by decide) rfl) ?_)
   (refine aqR (op_load_ptr1 rfl rfl rfl rfl ag3 rfl rfl) ?_)
   refine aqP (op_leq rfl rfl rfl) ?_
   (refine aqSeg rfl rfl rfl ?_; repeat (first | exact fun _ _ => rfl | refine upd_out rfl ?_))
  simp only [nA]
  refine aqP (op_move rfl rfl) ?_
  refine' aqAnd' [_, _, _] [17,18,19] rfl rfl rfl rfl rfl rfl rfl rfl rfl rfl rfl rfl (fun hb => ?_) ?_; rotate_left
  ·
   (try simp only [hcS] at hb)
   (refine aqP (op_fa_ptr rfl rfl rfl fl26_2 (by exact sz9) (by decide) rfl) ?_)
   (refine aqR (op_load_ptr1 rfl rfl rfl rfl ag9 rfl rfl) ?_)
   refine aqQ (op_callQ (b := true) rfl en97 (C97) (RL.cons (by exact View.same rfl) (RL.nil)) rfl) ?_; (simp only [nA])
   (refine aqSeg rfl rfl rfl ?_; repeat (first | exact fun _ _ => rfl | refine upd_out rfl ?_))
  simp only [nA]
  refine aqP (op_move rfl rfl) ?_
  refine' aqAnd' [_, _, _] [22,23,24] rfl rfl rfl rfl rfl rfl rfl rfl rfl rfl rfl rfl (fun hb => ?_) ?_; rotate_left
  ·
   (try simp only [hcS] at hb)
   (refine aqP (op_fa_ptr rfl rfl rfl fl26_3 (by exact sz3) (by decide) rfl) ?_)
   (refine aqR (op_load_ptr1 rfl rfl rfl rfl ag3 rfl rfl) ?_)
   refine aqP (op_geq rfl rfl rfl) ?_
   (refine aqSeg rfl rfl rfl ?_; repeat (first | exact fun _ _ => rfl | refine upd_out rfl ?_))
  simp only [nA]
  refine aqP (op_move rfl rfl) ?_
  refine' aqAnd' [_, _, _] [27,28,29] rfl rfl rfl rfl rfl rfl rfl rfl rfl rfl rfl rfl (fun hb => ?_) ?_; rotate_left
  ·
   (try simp only [hcS] at hb)
   (refine aqP (op_fa_ptr rfl rfl rfl fl26_3 (by exact sz3) (by decide) rfl) ?_)
   (refine aqR (op_load_ptr1 rfl rfl rfl rfl ag3 rfl rfl) ?_)
   refine aqP (op_leq rfl rfl rfl) ?_
   (refine aqSeg rfl rfl rfl ?_; repeat (first | exact fun _ _ => rfl | refine upd_out rfl ?_))
  simp only [nA]
  refine aqP (op_assign rfl rfl) ?_
  refine AQ.nil ?_
  (refine hK _ ?_; clear hK K; (simp only [nA]))
  skip
  refine AW.ret ?_; (try simp only [thenE, inBlk, Nat.reduceEqDiff, ↓reduceIte]); exact RQ.of0 rfl (.tmp (bl rfl) rfl rfl .nil)
def plR (p : Plate) : Bool := ((((decide (p.lead ≥ 0) && decide (p.lead ≤ 9)) && decide (p.airline ≥ 1)) && decide (p.airline ≤ 999)) && decide (p.serial ≥ 0)) && decide (p.serial ≤ 999999)
theorem plR_eq (p : Plate) : plR p = plB p := by
  unfold plR plB
  rw [show decide (p.serial ≤ 999999) = decide (p.serial < 1000000) from decide_eq_decide.2 (by omega)]
set_option maxHeartbeats 8000000 in
theorem C68r {p : Plate} : Fn Tryd.prog 68 [] [.agg p.av] [.v (.bool (plR p))] [] := by
  refine Spec.body Tryd.func68 rfl Tryd.ntmps68 (by simp) rfl ?_; intro S0 own0 v0 w0 gl
  (refine AW.seq_k ?_; intro K hK)
  refine AW.region ?_
  refine awJ (op_box rfl rfl rfl sz23 rfl) ?_; (simp only [nA, Nat.reduceBEq, Nat.reduceEqDiff, ↓reduceIte])
  refine awP (op_assign rfl rfl) ?_
  refine AWL.nil ?_
  (refine hK _ ?_; clear hK K; (try simp only [nA, Nat.reduceBEq, Nat.reduceEqDiff, ↓reduceIte, Nat.reduceAdd, Nat.reduceSub]))
  (refine AW.seq_k ?_; intro K hK)
  refine AW.region (AWL.quiet ?_)
  (refine aqP (op_fa_ptr rfl rfl rfl fl23_0 (by exact sz3) (by decide) rfl) ?_)
  (refine aqR (op_load_ptr1 rfl rfl rfl rfl ag3 rfl rfl) ?_)
  refine aqP (op_geq rfl rfl rfl) ?_
  refine aqP (op_move rfl rfl) ?_
  refine' aqAnd' [_, _, _] [7,8,9] rfl rfl rfl rfl rfl rfl rfl rfl rfl rfl rfl rfl (fun hb => ?_) ?_; rotate_left
  ·
   (try simp only [hcS] at hb)
   (refine aqP (op_fa_ptr rfl rfl rfl fl23_0 (by exact sz3) (by decide) rfl) ?_)
   (refine aqR (op_load_ptr1 rfl rfl rfl rfl ag3 rfl rfl) ?_)
   refine aqP (op_leq rfl rfl rfl) ?_
   (refine aqSeg rfl rfl rfl ?_; repeat (first | exact fun _ _ => rfl | refine upd_out rfl ?_))
  simp only [nA]
  refine aqP (op_move rfl rfl) ?_
  refine' aqAnd' [_, _, _] [12,13,14] rfl rfl rfl rfl rfl rfl rfl rfl rfl rfl rfl rfl (fun hb => ?_) ?_; rotate_left
  ·
   (try simp only [hcS] at hb)
   (refine aqP (op_fa_ptr rfl rfl rfl fl23_1 (by exact sz3) (by decide) rfl) ?_)
   (refine aqR (op_load_ptr1 rfl rfl rfl rfl ag3 rfl rfl) ?_)
   refine aqP (op_geq rfl rfl rfl) ?_
   (refine aqSeg rfl rfl rfl ?_; repeat (first | exact fun _ _ => rfl | refine upd_out rfl ?_))
  simp only [nA]
  refine aqP (op_move rfl rfl) ?_
  refine' aqAnd' [_, _, _] [17,18,19] rfl rfl rfl rfl rfl rfl rfl rfl rfl rfl rfl rfl (fun hb => ?_) ?_; rotate_left
  ·
   (try simp only [hcS] at hb)
   (refine aqP (op_fa_ptr rfl rfl rfl fl23_1 (by exact sz3) (by decide) rfl) ?_)
   (refine aqR (op_load_ptr1 rfl rfl rfl rfl ag3 rfl rfl) ?_)
   refine aqP (op_leq rfl rfl rfl) ?_
   (refine aqSeg rfl rfl rfl ?_; repeat (first | exact fun _ _ => rfl | refine upd_out rfl ?_))
  simp only [nA]
  refine aqP (op_move rfl rfl) ?_
  refine' aqAnd' [_, _, _] [22,23,24] rfl rfl rfl rfl rfl rfl rfl rfl rfl rfl rfl rfl (fun hb => ?_) ?_; rotate_left
  ·
   (try simp only [hcS] at hb)
   (refine aqP (op_fa_ptr rfl rfl rfl fl23_2 (by exact sz3) (by decide) rfl) ?_)
   (refine aqR (op_load_ptr1 rfl rfl rfl rfl ag3 rfl rfl) ?_)
   refine aqP (op_geq rfl rfl rfl) ?_
   (refine aqSeg rfl rfl rfl ?_; repeat (first | exact fun _ _ => rfl | refine upd_out rfl ?_))
  simp only [nA]
  refine aqP (op_move rfl rfl) ?_
  refine' aqAnd' [_, _, _] [27,28,29] rfl rfl rfl rfl rfl rfl rfl rfl rfl rfl rfl rfl (fun hb => ?_) ?_; rotate_left
  ·
   (try simp only [hcS] at hb)
   (refine aqP (op_fa_ptr rfl rfl rfl fl23_2 (by exact sz3) (by decide) rfl) ?_)
   (refine aqR (op_load_ptr1 rfl rfl rfl rfl ag3 rfl rfl) ?_)
   refine aqP (op_leq rfl rfl rfl) ?_
   (refine aqSeg rfl rfl rfl ?_; repeat (first | exact fun _ _ => rfl | refine upd_out rfl ?_))
  simp only [nA]
  refine aqP (op_assign rfl rfl) ?_
  refine AQ.nil ?_
  (refine hK _ ?_; clear hK K; (simp only [nA]))
  skip
  refine AW.ret ?_; (try simp only [thenE, inBlk, Nat.reduceEqDiff, ↓reduceIte]); exact RQ.of0 rfl (.tmp (bl rfl) rfl rfl .nil)
set_option maxHeartbeats 8000000 in
theorem C68 {p : Plate} : Fn Tryd.prog 68 [] [.agg p.av] [.v (.bool (plB p))] [] := by
  rw [← plR_eq]; exact C68r
def piR (p : Piece) : Bool := (((plB p.plate && decide (p.weight ≥ 1)) && decide (p.weight ≤ 999)) && decide (p.category ≥ 0)) && decide (p.category ≤ 4)
theorem piR_eq (p : Piece) : piR p = piB p := by unfold piR piB inB; simp only [Bool.and_assoc]
set_option maxHeartbeats 8000000 in
theorem C98r {p : Piece} : Fn Tryd.prog 98 [] [.agg p.av] [.v (.bool (piR p))] [] := by
  refine Spec.body Tryd.func98 rfl Tryd.ntmps98 (by simp) rfl ?_; intro S0 own0 v0 w0 gl
  (refine AW.seq_k ?_; intro K hK)
  refine AW.region ?_
  refine awJ (op_box rfl rfl rfl sz30 rfl) ?_; (simp only [nA, Nat.reduceBEq, Nat.reduceEqDiff, ↓reduceIte])
  refine awP (op_assign rfl rfl) ?_
  refine AWL.nil ?_
  (refine hK _ ?_; clear hK K; (try simp only [nA, Nat.reduceBEq, Nat.reduceEqDiff, ↓reduceIte, Nat.reduceAdd, Nat.reduceSub]))
  (refine AW.seq_k ?_; intro K hK)
  refine AW.region (AWL.quiet ?_)
  (refine aqP (op_fa_ptr rfl rfl rfl fl30_0 (by exact sz23) (by decide) rfl) ?_)
  (refine aqR (op_load_ptr rfl rfl rfl rfl ag23 sz23 (bl rfl) rfl) ?_)
  refine aqQ (op_callQ (b := true) rfl en68 (C68 (p := p.plate)) (RL.cons (by exact View.same rfl) (RL.nil)) rfl) ?_; (try simp only [nA, Nat.reduceBEq, Nat.reduceEqDiff, ↓reduceIte, Nat.reduceAdd, Nat.reduceSub])
  refine aqP (op_move rfl rfl) ?_
  refine' aqAnd' [_, _, _] [7,8,9] rfl rfl rfl rfl rfl rfl rfl rfl rfl rfl rfl rfl (fun hb => ?_) ?_; rotate_left
  ·
   (try simp only [hcS] at hb)
   (refine aqP (op_fa_ptr rfl rfl rfl fl30_1 (by exact sz3) (by decide) rfl) ?_)
   (refine aqR (op_load_ptr1 rfl rfl rfl rfl ag3 rfl rfl) ?_)
   refine aqP (op_geq rfl rfl rfl) ?_
   (refine aqSeg rfl rfl rfl ?_; repeat (first | exact fun _ _ => rfl | refine upd_out rfl ?_))
  simp only [nA]
  refine aqP (op_move rfl rfl) ?_
  refine' aqAnd' [_, _, _] [12,13,14] rfl rfl rfl rfl rfl rfl rfl rfl rfl rfl rfl rfl (fun hb => ?_) ?_; rotate_left
  ·
   (try simp only [hcS] at hb)
   (refine aqP (op_fa_ptr rfl rfl rfl fl30_1 (by exact sz3) (by decide) rfl) ?_)
   (refine aqR (op_load_ptr1 rfl rfl rfl rfl ag3 rfl rfl) ?_)
   refine aqP (op_leq rfl rfl rfl) ?_
   (refine aqSeg rfl rfl rfl ?_; repeat (first | exact fun _ _ => rfl | refine upd_out rfl ?_))
  simp only [nA]
  refine aqP (op_move rfl rfl) ?_
  refine' aqAnd' [_, _, _] [17,18,19] rfl rfl rfl rfl rfl rfl rfl rfl rfl rfl rfl rfl (fun hb => ?_) ?_; rotate_left
  ·
   (try simp only [hcS] at hb)
   (refine aqP (op_fa_ptr rfl rfl rfl fl30_2 (by exact sz3) (by decide) rfl) ?_)
   (refine aqR (op_load_ptr1 rfl rfl rfl rfl ag3 rfl rfl) ?_)
   refine aqP (op_geq rfl rfl rfl) ?_
   (refine aqSeg rfl rfl rfl ?_; repeat (first | exact fun _ _ => rfl | refine upd_out rfl ?_))
  simp only [nA]
  refine aqP (op_move rfl rfl) ?_
  refine' aqAnd' [_, _, _] [22,23,24] rfl rfl rfl rfl rfl rfl rfl rfl rfl rfl rfl rfl (fun hb => ?_) ?_; rotate_left
  ·
   (try simp only [hcS] at hb)
   (refine aqP (op_fa_ptr rfl rfl rfl fl30_2 (by exact sz3) (by decide) rfl) ?_)
   (refine aqR (op_load_ptr1 rfl rfl rfl rfl ag3 rfl rfl) ?_)
   refine aqP (op_leq rfl rfl rfl) ?_
   (refine aqSeg rfl rfl rfl ?_; repeat (first | exact fun _ _ => rfl | refine upd_out rfl ?_))
  simp only [nA]
  refine aqP (op_assign rfl rfl) ?_
  refine AQ.nil ?_
  (refine hK _ ?_; clear hK K; (simp only [nA]))
  skip
  refine AW.ret ?_; (try simp only [thenE, inBlk, Nat.reduceEqDiff, ↓reduceIte]); exact RQ.of0 rfl (.tmp (bl rfl) rfl rfl .nil)
set_option maxHeartbeats 8000000 in
theorem C98 {p : Piece} : Fn Tryd.prog 98 [] [.agg p.av] [.v (.bool (piB p))] [] := by
  rw [← piR_eq]; exact C98r
def opR (o : Op) : Bool := (((((((((decide (o.time ≥ 0) && decide (o.time ≤ 1048576)) && decide (o.device ≥ 1)) && decide (o.device ≤ 6)) && decide (o.seq ≥ 1)) && decide (o.seq ≤ 1048576)) && (decide (o.kind = 1) || decide (o.kind = 2))) && decide (o.cont ≥ 1)) && decide (o.cont ≤ 999))) && piB o.piece
theorem opR_eq (o : Op) : opR o = opB o := by
  unfold opR opB inB
  generalize decide (o.time ≥ 0) = b1
  generalize decide (o.time ≤ 1048576) = b2
  generalize decide (o.device ≥ 1) = b3
  generalize decide (o.device ≤ 6) = b4
  generalize decide (o.seq ≥ 1) = b5
  generalize decide (o.seq ≤ 1048576) = b6
  cases b1 <;> cases b2 <;> cases b3 <;> cases b4 <;> cases b5 <;> cases b6 <;> simp [Bool.and_assoc]
set_option maxHeartbeats 8000000 in
theorem C72r {o : Op} : Fn Tryd.prog 72 [] [.agg o.av] [.v (.bool (opR o))] [] := by
  refine Spec.body Tryd.func72 rfl Tryd.ntmps72 (by simp) rfl ?_; intro S0 own0 v0 w0 gl
  (refine AW.seq_k ?_; intro K hK)
  refine AW.region ?_
  refine awJ (op_box rfl rfl rfl sz32 rfl) ?_; (simp only [nA, Nat.reduceBEq, Nat.reduceEqDiff, ↓reduceIte])
  refine awP (op_assign rfl rfl) ?_
  refine AWL.nil ?_
  (refine hK _ ?_; clear hK K; (try simp only [nA, Nat.reduceBEq, Nat.reduceEqDiff, ↓reduceIte, Nat.reduceAdd, Nat.reduceSub]))
  (refine AW.seq_k ?_; intro K hK)
  refine AW.region (AWL.quiet ?_)
  (refine aqP (op_fa_ptr rfl rfl rfl fl32_0 (by exact sz3) (by decide) rfl) ?_)
  (refine aqR (op_load_ptr1 rfl rfl rfl rfl ag3 rfl rfl) ?_)
  refine aqP (op_geq rfl rfl rfl) ?_
  refine aqP (op_move rfl rfl) ?_
  refine' aqAnd' [_, _, _] [7,8,9] rfl rfl rfl rfl rfl rfl rfl rfl rfl rfl rfl rfl (fun hb => ?_) ?_; rotate_left
  ·
   (try simp only [hcS] at hb)
   (refine aqP (op_fa_ptr rfl rfl rfl fl32_0 (by exact sz3) (by decide) rfl) ?_)
   (refine aqR (op_load_ptr1 rfl rfl rfl rfl ag3 rfl rfl) ?_)
   refine aqP (op_leq rfl rfl rfl) ?_
   (refine aqSeg rfl rfl rfl ?_; repeat (first | exact fun _ _ => rfl | refine upd_out rfl ?_))
  simp only [nA]
  refine aqP (op_move rfl rfl) ?_
  refine' aqAnd' [_, _, _] [12,13,14] rfl rfl rfl rfl rfl rfl rfl rfl rfl rfl rfl rfl (fun hb => ?_) ?_; rotate_left
  ·
   (try simp only [hcS] at hb)
   (refine aqP (op_fa_ptr rfl rfl rfl fl32_1 (by exact sz3) (by decide) rfl) ?_)
   (refine aqR (op_load_ptr1 rfl rfl rfl rfl ag3 rfl rfl) ?_)
   refine aqP (op_geq rfl rfl rfl) ?_
   (refine aqSeg rfl rfl rfl ?_; repeat (first | exact fun _ _ => rfl | refine upd_out rfl ?_))
  simp only [nA]
  refine aqP (op_move rfl rfl) ?_
  refine' aqAnd' [_, _, _] [17,18,19] rfl rfl rfl rfl rfl rfl rfl rfl rfl rfl rfl rfl (fun hb => ?_) ?_; rotate_left
  ·
   (try simp only [hcS] at hb)
   (refine aqP (op_fa_ptr rfl rfl rfl fl32_1 (by exact sz3) (by decide) rfl) ?_)
   (refine aqR (op_load_ptr1 rfl rfl rfl rfl ag3 rfl rfl) ?_)
   refine aqP (op_leq rfl rfl rfl) ?_
   (refine aqSeg rfl rfl rfl ?_; repeat (first | exact fun _ _ => rfl | refine upd_out rfl ?_))
  simp only [nA]
  refine aqP (op_move rfl rfl) ?_
  refine' aqAnd' [_, _, _] [22,23,24] rfl rfl rfl rfl rfl rfl rfl rfl rfl rfl rfl rfl (fun hb => ?_) ?_; rotate_left
  ·
   (try simp only [hcS] at hb)
   (refine aqP (op_fa_ptr rfl rfl rfl fl32_2 (by exact sz3) (by decide) rfl) ?_)
   (refine aqR (op_load_ptr1 rfl rfl rfl rfl ag3 rfl rfl) ?_)
   refine aqP (op_geq rfl rfl rfl) ?_
   (refine aqSeg rfl rfl rfl ?_; repeat (first | exact fun _ _ => rfl | refine upd_out rfl ?_))
  simp only [nA]
  refine aqP (op_move rfl rfl) ?_
  refine' aqAnd' [_, _, _] [27,28,29] rfl rfl rfl rfl rfl rfl rfl rfl rfl rfl rfl rfl (fun hb => ?_) ?_; rotate_left
  ·
   (try simp only [hcS] at hb)
   (refine aqP (op_fa_ptr rfl rfl rfl fl32_2 (by exact sz3) (by decide) rfl) ?_)
   (refine aqR (op_load_ptr1 rfl rfl rfl rfl ag3 rfl rfl) ?_)
   refine aqP (op_leq rfl rfl rfl) ?_
   (refine aqSeg rfl rfl rfl ?_; repeat (first | exact fun _ _ => rfl | refine upd_out rfl ?_))
  simp only [nA]
  refine aqP (op_move rfl rfl) ?_
  refine' aqAndN' [_, _, _, _, _, _, _, _] [32,33,34,35,36,37,38,39] rfl rfl rfl rfl rfl rfl rfl rfl rfl rfl rfl rfl (fun hb => ?_) ?_; rotate_left
  ·
   (try simp only [hcS] at hb)
   (refine aqP (op_fa_ptr rfl rfl rfl fl32_3 (by exact sz3) (by decide) rfl) ?_)
   (refine aqR (op_load_ptr1 rfl rfl rfl rfl ag3 rfl rfl) ?_)
   (refine aqP (op_eql rfl rfl rfl) ?_)
   refine aqP (op_move rfl rfl) ?_
   refine' aqOr' [_, _, _] [36,37,38] rfl rfl rfl rfl rfl rfl rfl rfl rfl rfl rfl rfl (fun hb => ?_) ?_; rotate_left
   ·
    (try simp only [hcS] at hb)
    (refine aqP (op_fa_ptr rfl rfl rfl fl32_3 (by exact sz3) (by decide) rfl) ?_)
    (refine aqR (op_load_ptr1 rfl rfl rfl rfl ag3 rfl rfl) ?_)
    (refine aqP (op_eql rfl rfl rfl) ?_)
    (refine aqSeg rfl rfl rfl ?_; repeat (first | exact fun _ _ => rfl | refine upd_out rfl ?_))
   simp only [nA]
   (refine aqSeg rfl rfl rfl ?_; repeat (first | exact fun _ _ => rfl | refine upd_out rfl ?_ | refine era_out rfl ?_))
  simp only [nA]
  refine aqP (op_move rfl rfl) ?_
  refine' aqAnd' [_, _, _] [42,43,44] rfl rfl rfl rfl rfl rfl rfl rfl rfl rfl rfl rfl (fun hb => ?_) ?_; rotate_left
  ·
   (try simp only [hcS] at hb)
   (refine aqP (op_fa_ptr rfl rfl rfl fl32_4 (by exact sz3) (by decide) rfl) ?_)
   (refine aqR (op_load_ptr1 rfl rfl rfl rfl ag3 rfl rfl) ?_)
   refine aqP (op_geq rfl rfl rfl) ?_
   (refine aqSeg rfl rfl rfl ?_; repeat (first | exact fun _ _ => rfl | refine upd_out rfl ?_))
  simp only [nA]
  refine aqP (op_move rfl rfl) ?_
  refine' aqAnd' [_, _, _] [47,48,49] rfl rfl rfl rfl rfl rfl rfl rfl rfl rfl rfl rfl (fun hb => ?_) ?_; rotate_left
  ·
   (try simp only [hcS] at hb)
   (refine aqP (op_fa_ptr rfl rfl rfl fl32_4 (by exact sz3) (by decide) rfl) ?_)
   (refine aqR (op_load_ptr1 rfl rfl rfl rfl ag3 rfl rfl) ?_)
   refine aqP (op_leq rfl rfl rfl) ?_
   (refine aqSeg rfl rfl rfl ?_; repeat (first | exact fun _ _ => rfl | refine upd_out rfl ?_))
  simp only [nA]
  refine aqP (op_move rfl rfl) ?_
  refine' aqAnd' [_, _, _] [52,53,54] rfl rfl rfl rfl rfl rfl rfl rfl rfl rfl rfl rfl (fun hb => ?_) ?_; rotate_left
  ·
   (try simp only [hcS] at hb)
   (refine aqP (op_fa_ptr rfl rfl rfl fl32_5 (by exact sz30) (by decide) rfl) ?_)
   (refine aqR (op_load_ptr rfl rfl rfl rfl ag30 sz30 (bl rfl) rfl) ?_)
   refine aqQ (op_callQ (b := true) rfl en98 (C98 (p := o.piece)) (RL.cons (by exact View.same rfl) (RL.nil)) rfl) ?_; (simp only [nA])
   (refine aqSeg rfl rfl rfl ?_; repeat (first | exact fun _ _ => rfl | refine upd_out rfl ?_))
  simp only [nA]
  refine aqP (op_assign rfl rfl) ?_
  refine AQ.nil ?_
  (refine hK _ ?_; clear hK K; (simp only [nA]))
  skip
  refine AW.ret ?_; (try simp only [thenE, inBlk, Nat.reduceEqDiff, ↓reduceIte]); exact RQ.of0 rfl (.tmp (bl rfl) rfl rfl .nil)
set_option maxHeartbeats 8000000 in
theorem C72 {o : Op} : Fn Tryd.prog 72 [] [.agg o.av] [.v (.bool (opB o))] [] := by
  rw [← opR_eq]; exact C72r
end Go.Proofs.YtfmnaigedgmhoaaDoor
namespace Go.Proofs.YtfmnaigedgmhoaaDoor
open Go.RowKit
set_option linter.unusedSimpArgs false
set_option linter.unusedVariables false
set_option maxRecDepth 100000
theorem ite_ok {p : Prop} [Decidable p] {b : Bool} {w : World} : (if p then Result.ok (Value.bool b) w else Result.ok (Value.bool false) w) = Result.ok (Value.bool (decide p && b)) w := by
  by_cases h : p <;> simp [h]
theorem ite_no {p : Prop} [Decidable p] {b : Bool} {w : World} : (if p then Result.ok (Value.bool b) w else Result.ok (Value.bool true) w) = Result.ok (Value.bool (!decide p || b)) w := by
  by_cases h : p <;> simp [h]
theorem str_eq (a b : ByteArray) : a.toList = b.toList ↔ a = b := by
  rw [bytes_eq, bytes_eq]
  exact ⟨fun h => bytes_ext h, fun h => by rw [h]⟩
def plEq (p q : Plate) : Bool := (p.lead == q.lead) && ((p.airline == q.airline) && ((p.serial == q.serial)))
abbrev Plate.vs (p : Plate) : List Value := [.int .i64 p.lead, .int .i64 p.airline, .int .i64 p.serial]
theorem run_eql23 (p q : Plate) (w : World) : (binOp .eql 23 (.agg p.vs.toArray) (.agg q.vs.toArray)).run Tryd.prog w = .ok (.bool (plEq p q)) w := by
  obtain ⟨a, b, c⟩ := p
  obtain ⟨a', b', c'⟩ := q
  unfold binOp
  simp only [Op.equal]
  rw [Sem.run_bind, show Op.maxDepth = 9998 + 1 + 1 from rfl, run_equalIn_struct w _ 23 _ _ fo23 st23]
  unfold Program.fieldsOf; rw [Tryd.underlying23]
  simp only [Op.eqFields]
  go_simp
  simp only [ite_ok]
  unfold plEq
  simp [Bool.and_assoc, Bool.beq_eq_decide_eq]
theorem run_tyeql23 (p q : Operand) (x y : Array Value) (w : World) : (eqGuard .eql 23 p q (.agg x) (.agg y)).run Tryd.prog w = .ok () w := by
  unfold eqGuard
  simp [ty23, run_program]
theorem run_neq23 (p q : Plate) (w : World) : (binOp .neq 23 (.agg p.vs.toArray) (.agg q.vs.toArray)).run Tryd.prog w = .ok (.bool (!plEq p q)) w := by
  obtain ⟨a, b, c⟩ := p
  obtain ⟨a', b', c'⟩ := q
  unfold binOp
  simp only [Op.equal]
  rw [Sem.run_bind, show Op.maxDepth = 9998 + 1 + 1 from rfl, run_equalIn_struct w _ 23 _ _ fo23 st23]
  unfold Program.fieldsOf; rw [Tryd.underlying23]
  simp only [Op.eqFields]
  go_simp
  simp only [ite_no]
  unfold plEq
  simp [Bool.and_assoc, Bool.beq_eq_decide_eq]
theorem run_tyneq23 (p q : Operand) (x y : Array Value) (w : World) : (eqGuard .neq 23 p q (.agg x) (.agg y)).run Tryd.prog w = .ok () w := by
  unfold eqGuard
  simp [ty23, run_program]
theorem plEq_iff (p q : Plate) : plEq p q = true ↔ p = q := by
  obtain ⟨a, b, c⟩ := p
  obtain ⟨a', b', c'⟩ := q
  unfold plEq
  simp only [Bool.and_eq_true, beq_iff_eq, str_eq, Plate.mk.injEq, and_assoc]
theorem st26 : Tryd.prog.stoodInHeld 26 = false := by kernel_rfl
theorem fo26 : Tryd.prog.underlying 26 = some (.struct (Tryd.prog.fieldsOf 26)) := by
  unfold Program.fieldsOf; rw [Tryd.underlying26]
theorem ty26 : Tryd.prog.eqGuardType Tryd.prog.depth 26 = false := by kernel_rfl
def flEq (p q : Flight) : Bool := (p.carrier.toList == q.carrier.toList) && ((p.number == q.number) && ((p.suffix.toList == q.suffix.toList) && ((p.day == q.day))))
abbrev Flight.vs (p : Flight) : List Value := [.string p.carrier, .int .i64 p.number, .string p.suffix, .int .i64 p.day]
theorem run_eql26 (p q : Flight) (w : World) : (binOp .eql 26 (.agg p.vs.toArray) (.agg q.vs.toArray)).run Tryd.prog w = .ok (.bool (flEq p q)) w := by
  obtain ⟨a, b, c, d⟩ := p
  obtain ⟨a', b', c', d'⟩ := q
  unfold binOp
  simp only [Op.equal]
  rw [Sem.run_bind, show Op.maxDepth = 9998 + 1 + 1 from rfl, run_equalIn_struct w _ 26 _ _ fo26 st26]
  unfold Program.fieldsOf; rw [Tryd.underlying26]
  simp only [Op.eqFields]
  go_simp
  simp only [ite_ok]
  unfold flEq
  simp [Bool.and_assoc, Bool.beq_eq_decide_eq]
theorem run_tyeql26 (p q : Operand) (x y : Array Value) (w : World) : (eqGuard .eql 26 p q (.agg x) (.agg y)).run Tryd.prog w = .ok () w := by
  unfold eqGuard
  simp [ty26, run_program]
theorem run_neq26 (p q : Flight) (w : World) : (binOp .neq 26 (.agg p.vs.toArray) (.agg q.vs.toArray)).run Tryd.prog w = .ok (.bool (!flEq p q)) w := by
  obtain ⟨a, b, c, d⟩ := p
  obtain ⟨a', b', c', d'⟩ := q
  unfold binOp
  simp only [Op.equal]
  rw [Sem.run_bind, show Op.maxDepth = 9998 + 1 + 1 from rfl, run_equalIn_struct w _ 26 _ _ fo26 st26]
  unfold Program.fieldsOf; rw [Tryd.underlying26]
  simp only [Op.eqFields]
  go_simp
  simp only [ite_no]
  unfold flEq
  simp [Bool.and_assoc, Bool.beq_eq_decide_eq]
theorem run_tyneq26 (p q : Operand) (x y : Array Value) (w : World) : (eqGuard .neq 26 p q (.agg x) (.agg y)).run Tryd.prog w = .ok () w := by
  unfold eqGuard
  simp [ty26, run_program]
theorem flEq_iff (p q : Flight) : flEq p q = true ↔ p = q := by
  obtain ⟨a, b, c, d⟩ := p
  obtain ⟨a', b', c', d'⟩ := q
  unfold flEq
  simp only [Bool.and_eq_true, beq_iff_eq, str_eq, Flight.mk.injEq, and_assoc]
theorem st28 : Tryd.prog.stoodInHeld 28 = false := by kernel_rfl
theorem fo28 : Tryd.prog.underlying 28 = some (.struct (Tryd.prog.fieldsOf 28)) := by
  unfold Program.fieldsOf; rw [Tryd.underlying28]
theorem ty28 : Tryd.prog.eqGuardType Tryd.prog.depth 28 = false := by kernel_rfl
def rvEq (p q : Rev) : Bool := (p.kind == q.kind) && ((p.amount == q.amount) && ((p.fl.carrier.toList == q.fl.carrier.toList) && ((p.fl.number == q.fl.number) && ((p.fl.suffix.toList == q.fl.suffix.toList) && ((p.fl.day == q.fl.day))))))
abbrev Rev.vs (p : Rev) : List Value := [.int .i64 p.kind, .int .i64 p.amount, .string p.fl.carrier, .int .i64 p.fl.number, .string p.fl.suffix, .int .i64 p.fl.day]
theorem run_eql28 (p q : Rev) (w : World) : (binOp .eql 28 (.agg p.vs.toArray) (.agg q.vs.toArray)).run Tryd.prog w = .ok (.bool (rvEq p q)) w := by
  obtain ⟨a, b, ⟨c, d, e, f⟩⟩ := p
  obtain ⟨a', b', ⟨c', d', e', f'⟩⟩ := q
  unfold binOp
  simp only [Op.equal]
  rw [Sem.run_bind, show Op.maxDepth = 9997 + 1 + 1 + 1 from rfl, run_equalIn_struct w _ 28 _ _ fo28 st28]
  unfold Program.fieldsOf; rw [Tryd.underlying28]
  simp only [Op.eqFields]
  go_simp
  simp only [ite_ok]
  unfold rvEq
  simp [Bool.and_assoc, Bool.beq_eq_decide_eq]
theorem run_tyeql28 (p q : Operand) (x y : Array Value) (w : World) : (eqGuard .eql 28 p q (.agg x) (.agg y)).run Tryd.prog w = .ok () w := by
  unfold eqGuard
  simp [ty28, run_program]
theorem run_neq28 (p q : Rev) (w : World) : (binOp .neq 28 (.agg p.vs.toArray) (.agg q.vs.toArray)).run Tryd.prog w = .ok (.bool (!rvEq p q)) w := by
  obtain ⟨a, b, ⟨c, d, e, f⟩⟩ := p
  obtain ⟨a', b', ⟨c', d', e', f'⟩⟩ := q
  unfold binOp
  simp only [Op.equal]
  rw [Sem.run_bind, show Op.maxDepth = 9997 + 1 + 1 + 1 from rfl, run_equalIn_struct w _ 28 _ _ fo28 st28]
  unfold Program.fieldsOf; rw [Tryd.underlying28]
  simp only [Op.eqFields]
  go_simp
  simp only [ite_no]
  unfold rvEq
  simp [Bool.and_assoc, Bool.beq_eq_decide_eq]
theorem run_tyneq28 (p q : Operand) (x y : Array Value) (w : World) : (eqGuard .neq 28 p q (.agg x) (.agg y)).run Tryd.prog w = .ok () w := by
  unfold eqGuard
  simp [ty28, run_program]
theorem rvEq_iff (p q : Rev) : rvEq p q = true ↔ p = q := by
  obtain ⟨a, b, ⟨c, d, e, f⟩⟩ := p
  obtain ⟨a', b', ⟨c', d', e', f'⟩⟩ := q
  unfold rvEq
  simp only [Bool.and_eq_true, beq_iff_eq, str_eq, Rev.mk.injEq, Flight.mk.injEq, and_assoc]
theorem st32 : Tryd.prog.stoodInHeld 32 = false := by kernel_rfl
theorem fo32 : Tryd.prog.underlying 32 = some (.struct (Tryd.prog.fieldsOf 32)) := by
  unfold Program.fieldsOf; rw [Tryd.underlying32]
theorem ty32 : Tryd.prog.eqGuardType Tryd.prog.depth 32 = false := by kernel_rfl
def opEq (p q : Op) : Bool := (p.time == q.time) && ((p.device == q.device) && ((p.seq == q.seq) && ((p.kind == q.kind) && ((p.cont == q.cont) && ((p.piece.plate.lead == q.piece.plate.lead) && ((p.piece.plate.airline == q.piece.plate.airline) && ((p.piece.plate.serial == q.piece.plate.serial) && ((p.piece.weight == q.piece.weight) && ((p.piece.category == q.piece.category))))))))))
abbrev Op.vs (p : Op) : List Value := [.int .i64 p.time, .int .i64 p.device, .int .i64 p.seq, .int .i64 p.kind, .int .i64 p.cont, .int .i64 p.piece.plate.lead, .int .i64 p.piece.plate.airline, .int .i64 p.piece.plate.serial, .int .i64 p.piece.weight, .int .i64 p.piece.category]
theorem run_eql32 (p q : Op) (w : World) : (binOp .eql 32 (.agg p.vs.toArray) (.agg q.vs.toArray)).run Tryd.prog w = .ok (.bool (opEq p q)) w := by
  obtain ⟨a, b, c, d, e, ⟨⟨f, g, h⟩, i, j⟩⟩ := p
  obtain ⟨a', b', c', d', e', ⟨⟨f', g', h'⟩, i', j'⟩⟩ := q
  unfold binOp
  simp only [Op.equal]
  rw [Sem.run_bind, show Op.maxDepth = 9996 + 1 + 1 + 1 + 1 from rfl, run_equalIn_struct w _ 32 _ _ fo32 st32]
  unfold Program.fieldsOf; rw [Tryd.underlying32]
  simp only [Op.eqFields]
  go_simp
  simp only [ite_ok]
  unfold opEq
  simp [Bool.and_assoc, Bool.beq_eq_decide_eq]
theorem run_tyeql32 (p q : Operand) (x y : Array Value) (w : World) : (eqGuard .eql 32 p q (.agg x) (.agg y)).run Tryd.prog w = .ok () w := by
  unfold eqGuard
  simp [ty32, run_program]
theorem run_neq32 (p q : Op) (w : World) : (binOp .neq 32 (.agg p.vs.toArray) (.agg q.vs.toArray)).run Tryd.prog w = .ok (.bool (!opEq p q)) w := by
  obtain ⟨a, b, c, d, e, ⟨⟨f, g, h⟩, i, j⟩⟩ := p
  obtain ⟨a', b', c', d', e', ⟨⟨f', g', h'⟩, i', j'⟩⟩ := q
  unfold binOp
  simp only [Op.equal]
  rw [Sem.run_bind, show Op.maxDepth = 9996 + 1 + 1 + 1 + 1 from rfl, run_equalIn_struct w _ 32 _ _ fo32 st32]
  unfold Program.fieldsOf; rw [Tryd.underlying32]
  simp only [Op.eqFields]
  go_simp
  simp only [ite_no]
  unfold opEq
  simp [Bool.and_assoc, Bool.beq_eq_decide_eq]
theorem run_tyneq32 (p q : Operand) (x y : Array Value) (w : World) : (eqGuard .neq 32 p q (.agg x) (.agg y)).run Tryd.prog w = .ok () w := by
  unfold eqGuard
  simp [ty32, run_program]
theorem opEq_iff (p q : Op) : opEq p q = true ↔ p = q := by
  obtain ⟨a, b, c, d, e, ⟨⟨f, g, h⟩, i, j⟩⟩ := p
  obtain ⟨a', b', c', d', e', ⟨⟨f', g', h'⟩, i', j'⟩⟩ := q
  unfold opEq
  simp only [Bool.and_eq_true, beq_iff_eq, str_eq, Op.mk.injEq, Piece.mk.injEq, Plate.mk.injEq, and_assoc]
theorem st66 : Tryd.prog.stoodInHeld 66 = false := by kernel_rfl
theorem fo66 : Tryd.prog.underlying 66 = some (.struct (Tryd.prog.fieldsOf 66)) := by
  unfold Program.fieldsOf; rw [Tryd.underlying66]
theorem ty66 : Tryd.prog.eqGuardType Tryd.prog.depth 66 = false := by kernel_rfl
def rpEq (p q : Report) : Bool := (p.device == q.device) && ((p.seen == q.seen) && ((p.read.toList == q.read.toList)))
abbrev Report.vs (p : Report) : List Value := [.int .i64 p.device, .bool p.seen, .string p.read]
theorem run_neq66 (p q : Report) (w : World) : (binOp .neq 66 (.agg p.vs.toArray) (.agg q.vs.toArray)).run Tryd.prog w = .ok (.bool (!rpEq p q)) w := by
  obtain ⟨a, b, c⟩ := p
  obtain ⟨a', b', c'⟩ := q
  unfold binOp
  simp only [Op.equal]
  rw [Sem.run_bind, show Op.maxDepth = 9998 + 1 + 1 from rfl, run_equalIn_struct w _ 66 _ _ fo66 st66]
  unfold Program.fieldsOf; rw [Tryd.underlying66]
  simp only [Op.eqFields]
  go_simp
  simp only [ite_no]
  unfold rpEq
  simp [Bool.and_assoc, Bool.beq_eq_decide_eq]
theorem run_tyneq66 (p q : Operand) (x y : Array Value) (w : World) : (eqGuard .neq 66 p q (.agg x) (.agg y)).run Tryd.prog w = .ok () w := by
  unfold eqGuard
  simp [ty66, run_program]
theorem rpEq_iff (p q : Report) : rpEq p q = true ↔ p = q := by
  obtain ⟨a, b, c⟩ := p
  obtain ⟨a', b', c'⟩ := q
  unfold rpEq
  simp only [Bool.and_eq_true, beq_iff_eq, str_eq, Report.mk.injEq, and_assoc]
section
variable {S0 : Nat → Prop} {own0 : List Nat} {v0 : List Value} {w0 : World} {gl : Glb Tryd.prog (fun k => S0 k ∧ k ∉ own0) w0} {o : Oper} {ev : Operand → AV} {T : Sl} {yt : TypeId} {y z : Operand}
theorem op_eqP23 {p q : Plate} (ho : o.op = .binOp .eql 23 y z yt) (hy : ev y = .agg p.av) (hz : ev z = .agg q.av) : OpP ⟨Tryd.prog, S0, own0, v0, w0, gl⟩ o ev T (.v (.bool (plEq p q))) :=
  op_bin_agg (xs := p.vs) (ys := q.vs) ho hy hz (fun w => run_tyeql23 _ _ _ _ w) (fun w => run_eql23 p q w) rfl
theorem op_neqP23 {p q : Plate} (ho : o.op = .binOp .neq 23 y z yt) (hy : ev y = .agg p.av) (hz : ev z = .agg q.av) : OpP ⟨Tryd.prog, S0, own0, v0, w0, gl⟩ o ev T (.v (.bool (!plEq p q))) :=
  op_bin_agg (xs := p.vs) (ys := q.vs) ho hy hz (fun w => run_tyneq23 _ _ _ _ w) (fun w => run_neq23 p q w) rfl
theorem op_eq26 {p q : Flight} (ho : o.op = .binOp .eql 26 y z yt) (hy : ev y = .agg p.av) (hz : ev z = .agg q.av) : OpP ⟨Tryd.prog, S0, own0, v0, w0, gl⟩ o ev T (.v (.bool (flEq p q))) :=
  op_bin_agg (xs := p.vs) (ys := q.vs) ho hy hz (fun w => run_tyeql26 _ _ _ _ w) (fun w => run_eql26 p q w) rfl
theorem op_neq26 {p q : Flight} (ho : o.op = .binOp .neq 26 y z yt) (hy : ev y = .agg p.av) (hz : ev z = .agg q.av) : OpP ⟨Tryd.prog, S0, own0, v0, w0, gl⟩ o ev T (.v (.bool (!flEq p q))) :=
  op_bin_agg (xs := p.vs) (ys := q.vs) ho hy hz (fun w => run_tyneq26 _ _ _ _ w) (fun w => run_neq26 p q w) rfl
theorem op_eq28 {p q : Rev} (ho : o.op = .binOp .eql 28 y z yt) (hy : ev y = .agg p.av) (hz : ev z = .agg q.av) : OpP ⟨Tryd.prog, S0, own0, v0, w0, gl⟩ o ev T (.v (.bool (rvEq p q))) :=
  op_bin_agg (xs := p.vs) (ys := q.vs) ho hy hz (fun w => run_tyeql28 _ _ _ _ w) (fun w => run_eql28 p q w) rfl
theorem op_neq28 {p q : Rev} (ho : o.op = .binOp .neq 28 y z yt) (hy : ev y = .agg p.av) (hz : ev z = .agg q.av) : OpP ⟨Tryd.prog, S0, own0, v0, w0, gl⟩ o ev T (.v (.bool (!rvEq p q))) :=
  op_bin_agg (xs := p.vs) (ys := q.vs) ho hy hz (fun w => run_tyneq28 _ _ _ _ w) (fun w => run_neq28 p q w) rfl
theorem op_eq32 {p q : Op} (ho : o.op = .binOp .eql 32 y z yt) (hy : ev y = .agg p.av) (hz : ev z = .agg q.av) : OpP ⟨Tryd.prog, S0, own0, v0, w0, gl⟩ o ev T (.v (.bool (opEq p q))) :=
  op_bin_agg (xs := p.vs) (ys := q.vs) ho hy hz (fun w => run_tyeql32 _ _ _ _ w) (fun w => run_eql32 p q w) rfl
theorem op_neq32 {p q : Op} (ho : o.op = .binOp .neq 32 y z yt) (hy : ev y = .agg p.av) (hz : ev z = .agg q.av) : OpP ⟨Tryd.prog, S0, own0, v0, w0, gl⟩ o ev T (.v (.bool (!opEq p q))) :=
  op_bin_agg (xs := p.vs) (ys := q.vs) ho hy hz (fun w => run_tyneq32 _ _ _ _ w) (fun w => run_neq32 p q w) rfl
theorem op_neq66 {p q : Report} (ho : o.op = .binOp .neq 66 y z yt) (hy : ev y = .agg p.av) (hz : ev z = .agg q.av) : OpP ⟨Tryd.prog, S0, own0, v0, w0, gl⟩ o ev T (.v (.bool (!rpEq p q))) :=
  op_bin_agg (xs := p.vs) (ys := q.vs) ho hy hz (fun w => run_tyneq66 _ _ _ _ w) (fun w => run_neq66 p q w) rfl
end
end Go.Proofs.YtfmnaigedgmhoaaDoor
namespace Go.Proofs.YtfmnaigedgmhoaaDoor
open Go.RowKit
set_option linter.unusedSimpArgs false
set_option linter.unusedVariables false
set_option maxRecDepth 100000
instance : Inhabited Op := ⟨⟨0, 0, 0, 0, 0, default⟩⟩
instance : Inhabited Report := ⟨⟨0, false, emptyS⟩⟩
theorem all_range_no {n i : Nat} {f : Nat → Bool} (h : i < n) (hf : f i = false) : (List.range n).all f = false := by
  rw [List.all_eq_false]
  exact ⟨i, List.mem_range.2 h, by rw [hf]; simp⟩
theorem all_range_yes {n i : Nat} {f : Nat → Bool} (h : ¬ i < n) (hf : ∀ k, k < i → f k = true) : (List.range n).all f = true := by
  rw [List.all_eq_true]
  intro k hk
  exact hf k (by have := List.mem_range.1 hk; omega)
theorem all_b_step {f : Nat → Bool} {i : Nat} (h : ∀ k, k < i → f k = true) (h2 : f i = true) : ∀ k, k < i + 1 → f k = true := fun k hk => by
  by_cases e : k = i
  · rw [e, h2]
  exact h k (by omega)
theorem all_f_step {f : Nat → Bool} {i : Nat} (h : ∀ k, k < i → f k = false) (h2 : f i = false) : ∀ k, k < i + 1 → f k = false := fun k hk => by
  by_cases e : k = i
  · rw [e, h2]
  exact h k (by omega)
def idxI {α : Type} (p : α → Bool) (l : List α) : Int := if l.findIdx p < l.length then (l.findIdx p : Int) else -1
theorem getD_of {α : Type} [Inhabited α] {l : List α} {i : Nat} (h : i < l.length) : l.getD i default = l[i] := by
  rw [List.getD_eq_getElem?_getD, List.getElem?_eq_getElem h]; rfl
theorem idx_yes {α : Type} [Inhabited α] {p : α → Bool} {l : List α} {i : Nat} (hi : i < l.length) (hn : ∀ k, k < i → p (l.getD k default) = false) (hp : p (l.getD i default) = true) : idxI p l = i := by
  have e : l.findIdx p = i := (List.findIdx_eq hi).2 ⟨by rw [← getD_of hi]; exact hp, fun j hj => by
    have := hn j hj
    rw [getD_of (by omega)] at this
    exact this⟩
  unfold idxI
  rw [e, if_pos hi]
theorem idx_no {α : Type} [Inhabited α] {p : α → Bool} {l : List α} {i : Nat} (hi : ¬ i < l.length) (hn : ∀ k, k < i → p (l.getD k default) = false) : idxI p l = -1 := by
  unfold idxI
  rw [if_neg]
  intro h
  have := List.findIdx_getElem (w := h)
  have h2 := hn (l.findIdx p) (by omega)
  rw [getD_of h] at h2
  rw [h2] at this
  cases this
def listEq {α : Type} [Inhabited α] (eq : α → α → Bool) (a b : List α) : Bool := decide ((a.length : Int) = b.length) && (List.range a.length).all fun i => eq (a.getD i default) (b.getD i default)
theorem le_ne {α : Type} [Inhabited α] {eq : α → α → Bool} {a b : List α} (h : (!decide ((a.length : Int) = b.length)) = true) : listEq eq a b = false := by
  unfold listEq
  rw [show decide ((a.length : Int) = b.length) = false by simpa using h, Bool.false_and]
theorem le_no {α : Type} [Inhabited α] {eq : α → α → Bool} {a b : List α} {i : Nat} (hi : i < a.length) (h : (!eq (a.getD i default) (b.getD i default)) = true) : listEq eq a b = false := by
  unfold listEq
  rw [all_range_no hi (by simpa using h), Bool.and_false]
theorem le_yes {α : Type} [Inhabited α] {eq : α → α → Bool} {a b : List α} {i : Nat} (he : (!decide ((a.length : Int) = b.length)) = false) (hi : ¬ i < a.length) (h : ∀ k, k < i → eq (a.getD k default) (b.getD k default) = true) : listEq eq a b = true := by
  unfold listEq
  rw [all_range_yes hi h, Bool.and_true]
  simpa using he
theorem listEq_iff {α : Type} [Inhabited α] {eq : α → α → Bool} (he : ∀ x y, eq x y = true ↔ x = y) (a b : List α) : listEq eq a b = true ↔ a = b := by
  unfold listEq
  rw [Bool.and_eq_true, decide_eq_true_eq, List.all_eq_true]
  constructor
  · rintro ⟨h1, h2⟩
    refine List.ext_getElem (by omega) fun i hi hj => ?_
    have := (he _ _).1 (h2 i (List.mem_range.2 hi))
    rw [getD_of hi, getD_of hj] at this
    exact this
  rintro rfl
  exact ⟨rfl, fun i _ => (he _ _).2 rfl⟩
set_option maxHeartbeats 8000000 in
theorem C41 {a b : List Report} (h1 : a.length ≤ 1000000) : Fn Tryd.prog 41 [] [.ro (a.map Report.av), .ro (b.map Report.av)] [.v (.bool (listEq rpEq a b))] [] := by
  refine Spec.body Tryd.func41 rfl Tryd.ntmps41 (by simp) rfl ?_; intro S0 own0 v0 w0 gl
  (refine AW.seq_k ?_; intro K hK)
  refine AW.region ?_
  refine awP (op_assign rfl rfl) ?_
  refine AWL.nil ?_
  (refine hK _ ?_; clear hK K; (try simp only [nA, Nat.reduceBEq, Nat.reduceEqDiff, ↓reduceIte, Nat.reduceAdd, Nat.reduceSub]))
  (refine AW.seq_k ?_; intro K hK)
  (refine AW.seq_k ?_; intro K hK)
  refine AW.region ?_
  refine awP (op_move rfl rfl) ?_
  refine awP (op_len_ro (n := a.length) rfl rfl Tryd.underlying24 (.inr (.inl ⟨_, rfl, by simp⟩))) ?_
  refine awP (op_move rfl rfl) ?_
  refine awP (op_len_ro (n := b.length) rfl rfl Tryd.underlying24 (.inr (.inl ⟨_, rfl, by simp⟩))) ?_
  (refine awP (op_neq rfl rfl rfl) ?_)
  refine AWL.nil ?_
  (refine hK _ ?_; clear hK K; (simp only [nA, ↓reduceIte]))
  refine AW.cond rfl rfl rfl (fun hc => ?_) (fun hc => ?_)
  ·
   have hc1 := hc
   (refine AW.seq_k ?_; intro K hK)
   refine AW.region ?_
   refine awP (op_assign rfl rfl) ?_
   refine AWL.nil ?_
   (refine hK _ ?_; clear hK K; (try simp only [nA, Nat.reduceBEq, Nat.reduceEqDiff, ↓reduceIte, Nat.reduceAdd, Nat.reduceSub]))
   skip
   refine AW.ret ?_; (try simp only [thenE, inBlk, Nat.reduceEqDiff, ↓reduceIte]); rw [le_ne hc1]; exact RQ.of0 rfl (.tmp (bl rfl) rfl rfl .nil)
  have hc1 := hc; have hle : a.length = b.length := (by have e : (a.length : Int) = b.length := (by simpa using hc1); omega)
  refine AW.skip ?_
  (refine hK _ ?_; clear hK K; (skip))
  (refine AW.seq_k ?_; intro K hK)
  (refine AW.seq_k ?_; intro K hK)
  refine AW.region ?_
  refine awP (op_move rfl rfl) ?_
  refine awP (op_len_ro (n := a.length) rfl rfl Tryd.underlying24 (.inr (.inl ⟨_, rfl, by simp⟩))) ?_
  refine awP (op_move rfl rfl) ?_
  refine AWL.nil ?_
  (refine hK _ ?_; clear hK K; (simp only [nA, ↓reduceIte]))
  refine AW.block ?_
  refine AW.loopI (fun i => [(0, .ro (a.map Report.av)), (1, .ro (b.map Report.av)), (12, .v (.int .i64 a.length)), (13, .v (.int .i64 (i : Nat)))]) (fun i => ⟨[], 1⟩) (fun i => i ≤ a.length ∧ ∀ k, k < i → rpEq (a.getD k default) (b.getD k default) = true) (fun i => a.length - i) 0 (by simp) ⟨rfl, rfl, rfl, rfl, trivial⟩ rfl ?_; intro i ρ hi; simp only [updL]
  (refine AW.seq_k ?_; intro K hK)
  refine AW.region ?_
  refine awP (op_lss rfl rfl rfl) ?_
  refine AWL.nil ?_
  (refine hK _ ?_; clear hK K; (try simp only [nA, Nat.reduceBEq, Nat.reduceEqDiff, ↓reduceIte, Nat.reduceAdd, Nat.reduceSub]))
  (refine AW.seq_k ?_; intro K hK)
  refine AW.cond rfl rfl rfl (fun hc => ?_) (fun hc => ?_)
  ·
   have hc2 := hc; have hlt : i < a.length := (by simpa using hc2)
   refine AW.skip ?_
   (refine hK _ ?_; clear hK K; (skip))
   (refine AW.seq_k ?_; intro K hK)
   refine AW.block ?_
   (refine AW.seq_k ?_; intro K hK)
   refine AW.region ?_
   refine awP (op_move rfl rfl) ?_
   refine awP (op_assign rfl rfl) ?_
   refine AWL.nil ?_
   (refine hK _ ?_; clear hK K; (simp only [nA, ↓reduceIte]))
   (refine AW.seq_k ?_; intro K hK)
   refine AW.quiet mix (by kernel_rfl) ?_
   refine aqP (op_move rfl rfl) ?_
   refine aqP (op_move rfl rfl) ?_
   refine aqP (op_ia_ro i rfl (.inl rfl) rfl Tryd.underlying24 rfl (get_mapD (by omega)) (by exact sz66) (bl rfl)) ?_
   (refine aqR (op_load_rop rfl rfl ag66 sz66 (bl rfl) (by decide) rfl) ?_)
   refine aqP (op_move rfl rfl) ?_
   refine aqP (op_move rfl rfl) ?_
   refine aqP (op_ia_ro i rfl (.inl rfl) rfl Tryd.underlying24 rfl (get_mapD (by omega)) (by exact sz66) (bl rfl)) ?_
   (refine aqR (op_load_rop rfl rfl ag66 sz66 (bl rfl) (by decide) rfl) ?_)
   refine aqP (op_neq66 (p := a.getD i default) (q := b.getD i default) rfl rfl rfl) ?_; (simp only [nA, ↓reduceIte])
   refine AQ.nil ?_
   (refine hK _ ?_; clear hK K; (skip))
   refine AW.cond rfl rfl rfl (fun hc => ?_) (fun hc => ?_)
   ·
    have hc3 := hc
    (refine AW.seq_k ?_; intro K hK)
    refine AW.region ?_
    refine awP (op_assign rfl rfl) ?_
    refine AWL.nil ?_
    (refine hK _ ?_; clear hK K; (try simp only [nA, Nat.reduceBEq, Nat.reduceEqDiff, ↓reduceIte, Nat.reduceAdd, Nat.reduceSub]))
    skip
    refine AW.ret ?_; (try simp only [thenE, inBlk, Nat.reduceEqDiff, ↓reduceIte]); rw [le_no hlt hc3]; exact RQ.of0 rfl (.tmp (bl rfl) rfl rfl .nil)
   have hc3 := hc
   refine AW.skip ?_
   (try simp only [thenE, inBlk, Nat.reduceEqDiff, ↓reduceIte])
   (refine hK _ ?_; clear hK K; (skip))
   refine AW.region ?_
   (refine awP (op_addi rfl rfl rfl (by omega)) ?_)
   refine awP (op_move rfl rfl) ?_
   skip
   refine AWL.nil ?_
   refine ⟨i + 1, ⟨by omega, all_b_step hi.2 (by simpa using hc3)⟩, by omega, ⟨rfl, rfl, rfl, rfl, trivial⟩, (by rfl), (by rfl)⟩
  have hc2 := hc; have hnl : ¬ i < a.length := (by simpa using hc2)
  refine AW.exit ?_; (try simp only [thenE, inBlk, Nat.reduceEqDiff, ↓reduceIte])
  clear hK K
  (refine hK _ ?_; clear hK K; (skip))
  (refine AW.seq_k ?_; intro K hK)
  refine AW.region ?_
  refine awP (op_assign rfl rfl) ?_
  refine AWL.nil ?_
  (refine hK _ ?_; clear hK K; (try simp only [nA, Nat.reduceBEq, Nat.reduceEqDiff, ↓reduceIte, Nat.reduceAdd, Nat.reduceSub]))
  skip
  refine AW.ret ?_; (try simp only [thenE, inBlk, Nat.reduceEqDiff, ↓reduceIte]); rw [le_yes hc1 hnl hi.2]; exact RQ.of0 rfl (.tmp (bl rfl) rfl rfl .nil)
set_option maxHeartbeats 8000000 in
theorem C42 {a b : List Op} (h1 : a.length ≤ 1000000) : Fn Tryd.prog 42 [] [.ro (a.map Op.av), .ro (b.map Op.av)] [.v (.bool (listEq opEq a b))] [] := by
  refine Spec.body Tryd.func42 rfl Tryd.ntmps42 (by simp) rfl ?_; intro S0 own0 v0 w0 gl
  (refine AW.seq_k ?_; intro K hK)
  refine AW.region ?_
  refine awP (op_assign rfl rfl) ?_
  refine AWL.nil ?_
  (refine hK _ ?_; clear hK K; (try simp only [nA, Nat.reduceBEq, Nat.reduceEqDiff, ↓reduceIte, Nat.reduceAdd, Nat.reduceSub]))
  (refine AW.seq_k ?_; intro K hK)
  (refine AW.seq_k ?_; intro K hK)
  refine AW.region ?_
  refine awP (op_move rfl rfl) ?_
  refine awP (op_len_ro (n := a.length) rfl rfl Tryd.underlying33 (.inr (.inl ⟨_, rfl, by simp⟩))) ?_
  refine awP (op_move rfl rfl) ?_
  refine awP (op_len_ro (n := b.length) rfl rfl Tryd.underlying33 (.inr (.inl ⟨_, rfl, by simp⟩))) ?_
  (refine awP (op_neq rfl rfl rfl) ?_)
  refine AWL.nil ?_
  (refine hK _ ?_; clear hK K; (simp only [nA, ↓reduceIte]))
  refine AW.cond rfl rfl rfl (fun hc => ?_) (fun hc => ?_)
  ·
   have hc1 := hc
   (refine AW.seq_k ?_; intro K hK)
   refine AW.region ?_
   refine awP (op_assign rfl rfl) ?_
   refine AWL.nil ?_
   (refine hK _ ?_; clear hK K; (try simp only [nA, Nat.reduceBEq, Nat.reduceEqDiff, ↓reduceIte, Nat.reduceAdd, Nat.reduceSub]))
   skip
   refine AW.ret ?_; (try simp only [thenE, inBlk, Nat.reduceEqDiff, ↓reduceIte]); rw [le_ne hc1]; exact RQ.of0 rfl (.tmp (bl rfl) rfl rfl .nil)
  have hc1 := hc; have hle : a.length = b.length := (by have e : (a.length : Int) = b.length := (by simpa using hc1); omega)
  refine AW.skip ?_
  (refine hK _ ?_; clear hK K; (skip))
  (refine AW.seq_k ?_; intro K hK)
  (refine AW.seq_k ?_; intro K hK)
  refine AW.region ?_
  refine awP (op_move rfl rfl) ?_
  refine awP (op_len_ro (n := a.length) rfl rfl Tryd.underlying33 (.inr (.inl ⟨_, rfl, by simp⟩))) ?_
  refine awP (op_move rfl rfl) ?_
  refine AWL.nil ?_
  (refine hK _ ?_; clear hK K; (simp only [nA, ↓reduceIte]))
  refine AW.block ?_
  refine AW.loopI (fun i => [(0, .ro (a.map Op.av)), (1, .ro (b.map Op.av)), (12, .v (.int .i64 a.length)), (13, .v (.int .i64 (i : Nat)))]) (fun i => ⟨[], 1⟩) (fun i => i ≤ a.length ∧ ∀ k, k < i → opEq (a.getD k default) (b.getD k default) = true) (fun i => a.length - i) 0 (by simp) ⟨rfl, rfl, rfl, rfl, trivial⟩ rfl ?_; intro i ρ hi; simp only [updL]
  (refine AW.seq_k ?_; intro K hK)
  refine AW.region ?_
  refine awP (op_lss rfl rfl rfl) ?_
  refine AWL.nil ?_
  (refine hK _ ?_; clear hK K; (try simp only [nA, Nat.reduceBEq, Nat.reduceEqDiff, ↓reduceIte, Nat.reduceAdd, Nat.reduceSub]))
  (refine AW.seq_k ?_; intro K hK)
  refine AW.cond rfl rfl rfl (fun hc => ?_) (fun hc => ?_)
  ·
   have hc2 := hc; have hlt : i < a.length := (by simpa using hc2)
   refine AW.skip ?_
   (refine hK _ ?_; clear hK K; (skip))
   (refine AW.seq_k ?_; intro K hK)
   refine AW.block ?_
   (refine AW.seq_k ?_; intro K hK)
   refine AW.region ?_
   refine awP (op_move rfl rfl) ?_
   refine awP (op_assign rfl rfl) ?_
   refine AWL.nil ?_
   (refine hK _ ?_; clear hK K; (simp only [nA, ↓reduceIte]))
   (refine AW.seq_k ?_; intro K hK)
   refine AW.quiet mix (by kernel_rfl) ?_
   refine aqP (op_move rfl rfl) ?_
   refine aqP (op_move rfl rfl) ?_
   refine aqP (op_ia_ro i rfl (.inl rfl) rfl Tryd.underlying33 rfl (get_mapD (by omega)) (by exact sz32) (bl rfl)) ?_
   (refine aqR (op_load_rop rfl rfl ag32 sz32 (bl rfl) (by decide) rfl) ?_)
   refine aqP (op_move rfl rfl) ?_
   refine aqP (op_move rfl rfl) ?_
   refine aqP (op_ia_ro i rfl (.inl rfl) rfl Tryd.underlying33 rfl (get_mapD (by omega)) (by exact sz32) (bl rfl)) ?_
   (refine aqR (op_load_rop rfl rfl ag32 sz32 (bl rfl) (by decide) rfl) ?_)
   refine aqP (op_neq32 (p := a.getD i default) (q := b.getD i default) rfl rfl rfl) ?_; (simp only [nA, ↓reduceIte])
   refine AQ.nil ?_
   (refine hK _ ?_; clear hK K; (skip))
   refine AW.cond rfl rfl rfl (fun hc => ?_) (fun hc => ?_)
   ·
    have hc3 := hc
    (refine AW.seq_k ?_; intro K hK)
    refine AW.region ?_
    refine awP (op_assign rfl rfl) ?_
    refine AWL.nil ?_
    (refine hK _ ?_; clear hK K; (try simp only [nA, Nat.reduceBEq, Nat.reduceEqDiff, ↓reduceIte, Nat.reduceAdd, Nat.reduceSub]))
    skip
    refine AW.ret ?_; (try simp only [thenE, inBlk, Nat.reduceEqDiff, ↓reduceIte]); rw [le_no hlt hc3]; exact RQ.of0 rfl (.tmp (bl rfl) rfl rfl .nil)
   have hc3 := hc
   refine AW.skip ?_
   (try simp only [thenE, inBlk, Nat.reduceEqDiff, ↓reduceIte])
   (refine hK _ ?_; clear hK K; (skip))
   refine AW.region ?_
   (refine awP (op_addi rfl rfl rfl (by omega)) ?_)
   refine awP (op_move rfl rfl) ?_
   skip
   refine AWL.nil ?_
   refine ⟨i + 1, ⟨by omega, all_b_step hi.2 (by simpa using hc3)⟩, by omega, ⟨rfl, rfl, rfl, rfl, trivial⟩, (by rfl), (by rfl)⟩
  have hc2 := hc; have hnl : ¬ i < a.length := (by simpa using hc2)
  refine AW.exit ?_; (try simp only [thenE, inBlk, Nat.reduceEqDiff, ↓reduceIte])
  clear hK K
  (refine hK _ ?_; clear hK K; (skip))
  (refine AW.seq_k ?_; intro K hK)
  refine AW.region ?_
  refine awP (op_assign rfl rfl) ?_
  refine AWL.nil ?_
  (refine hK _ ?_; clear hK K; (try simp only [nA, Nat.reduceBEq, Nat.reduceEqDiff, ↓reduceIte, Nat.reduceAdd, Nat.reduceSub]))
  skip
  refine AW.ret ?_; (try simp only [thenE, inBlk, Nat.reduceEqDiff, ↓reduceIte]); rw [le_yes hc1 hnl hi.2]; exact RQ.of0 rfl (.tmp (bl rfl) rfl rfl .nil)
set_option maxHeartbeats 8000000 in
theorem C43 {a b : List Op} (h1 : a.length ≤ 1000000) : Fn Tryd.prog 43 [] [.ro (a.map Op.av), .ro (b.map Op.av)] [.v (.bool (listEq opEq a b))] [] := by
  refine Spec.body Tryd.func43 rfl Tryd.ntmps43 (by simp) rfl ?_; intro S0 own0 v0 w0 gl
  (refine AW.seq_k ?_; intro K hK)
  refine AW.region ?_
  refine awP (op_assign rfl rfl) ?_
  refine AWL.nil ?_
  (refine hK _ ?_; clear hK K; (try simp only [nA, Nat.reduceBEq, Nat.reduceEqDiff, ↓reduceIte, Nat.reduceAdd, Nat.reduceSub]))
  (refine AW.seq_k ?_; intro K hK)
  (refine AW.seq_k ?_; intro K hK)
  refine AW.region ?_
  refine awP (op_move rfl rfl) ?_
  refine awP (op_len_ro (n := a.length) rfl rfl Tryd.underlying33 (.inr (.inl ⟨_, rfl, by simp⟩))) ?_
  refine awP (op_move rfl rfl) ?_
  refine awP (op_len_ro (n := b.length) rfl rfl Tryd.underlying33 (.inr (.inl ⟨_, rfl, by simp⟩))) ?_
  (refine awP (op_neq rfl rfl rfl) ?_)
  refine AWL.nil ?_
  (refine hK _ ?_; clear hK K; (simp only [nA, ↓reduceIte]))
  refine AW.cond rfl rfl rfl (fun hc => ?_) (fun hc => ?_)
  ·
   have hc1 := hc
   (refine AW.seq_k ?_; intro K hK)
   refine AW.region ?_
   refine awP (op_assign rfl rfl) ?_
   refine AWL.nil ?_
   (refine hK _ ?_; clear hK K; (try simp only [nA, Nat.reduceBEq, Nat.reduceEqDiff, ↓reduceIte, Nat.reduceAdd, Nat.reduceSub]))
   skip
   refine AW.ret ?_; (try simp only [thenE, inBlk, Nat.reduceEqDiff, ↓reduceIte]); rw [le_ne hc1]; exact RQ.of0 rfl (.tmp (bl rfl) rfl rfl .nil)
  have hc1 := hc; have hle : a.length = b.length := (by have e : (a.length : Int) = b.length := (by simpa using hc1); omega)
  refine AW.skip ?_
  (refine hK _ ?_; clear hK K; (skip))
  (refine AW.seq_k ?_; intro K hK)
  (refine AW.seq_k ?_; intro K hK)
  refine AW.region ?_
  refine awP (op_assign rfl rfl) ?_
  refine AWL.nil ?_
  (refine hK _ ?_; clear hK K; (try simp only [nA, Nat.reduceBEq, Nat.reduceEqDiff, ↓reduceIte, Nat.reduceAdd, Nat.reduceSub]))
  refine AW.block ?_
  refine AW.loopI (fun i => [(0, .ro (a.map Op.av)), (1, .ro (b.map Op.av)), (5, .v (.int .i64 (i : Nat)))]) (fun i => ⟨[], 1⟩) (fun i => i ≤ a.length ∧ ∀ k, k < i → opEq (a.getD k default) (b.getD k default) = true) (fun i => a.length - i) 0 (by simp) ⟨rfl, rfl, rfl, trivial⟩ rfl ?_; intro i ρ hi; simp only [updL]
  (refine AW.seq_k ?_; intro K hK)
  (refine AW.seq_k ?_; intro K hK)
  refine AW.region ?_
  refine awP (op_move rfl rfl) ?_
  refine awP (op_move rfl rfl) ?_
  refine awP (op_len_ro (n := a.length) rfl rfl Tryd.underlying33 (.inr (.inl ⟨_, rfl, by simp⟩))) ?_
  refine awP (op_lss rfl rfl rfl) ?_
  refine AWL.nil ?_
  (refine hK _ ?_; clear hK K; (simp only [nA, ↓reduceIte]))
  refine AW.cond rfl rfl rfl (fun hc => ?_) (fun hc => ?_)
  ·
   have hc2 := hc; have hlt : i < a.length := (by simpa using hc2)
   refine AW.skip ?_
   (refine hK _ ?_; clear hK K; (skip))
   (refine AW.seq_k ?_; intro K hK)
   refine AW.block ?_
   (refine AW.seq_k ?_; intro K hK)
   refine AW.quiet mix (by kernel_rfl) ?_
   refine aqP (op_move rfl rfl) ?_
   refine aqP (op_move rfl rfl) ?_
   refine aqP (op_ia_ro i rfl (.inl rfl) rfl Tryd.underlying33 rfl (get_mapD (by omega)) (by exact sz32) (bl rfl)) ?_
   (refine aqR (op_load_rop rfl rfl ag32 sz32 (bl rfl) (by decide) rfl) ?_)
   refine aqP (op_move rfl rfl) ?_
   refine aqP (op_move rfl rfl) ?_
   refine aqP (op_ia_ro i rfl (.inl rfl) rfl Tryd.underlying33 rfl (get_mapD (by omega)) (by exact sz32) (bl rfl)) ?_
   (refine aqR (op_load_rop rfl rfl ag32 sz32 (bl rfl) (by decide) rfl) ?_)
   refine aqP (op_neq32 (p := a.getD i default) (q := b.getD i default) rfl rfl rfl) ?_; (simp only [nA, ↓reduceIte])
   refine AQ.nil ?_
   (refine hK _ ?_; clear hK K; (skip))
   refine AW.cond rfl rfl rfl (fun hc => ?_) (fun hc => ?_)
   ·
    have hc3 := hc
    (refine AW.seq_k ?_; intro K hK)
    refine AW.region ?_
    refine awP (op_assign rfl rfl) ?_
    refine AWL.nil ?_
    (refine hK _ ?_; clear hK K; (try simp only [nA, Nat.reduceBEq, Nat.reduceEqDiff, ↓reduceIte, Nat.reduceAdd, Nat.reduceSub]))
    skip
    refine AW.ret ?_; (try simp only [thenE, inBlk, Nat.reduceEqDiff, ↓reduceIte]); rw [le_no hlt hc3]; exact RQ.of0 rfl (.tmp (bl rfl) rfl rfl .nil)
   have hc3 := hc
   refine AW.skip ?_
   (try simp only [thenE, inBlk, Nat.reduceEqDiff, ↓reduceIte])
   (refine hK _ ?_; clear hK K; (skip))
   refine AW.region ?_
   refine awP (op_move rfl rfl) ?_
   (refine awP (op_addi rfl rfl rfl (by omega)) ?_)
   refine awP (op_assign rfl rfl) ?_
   skip
   refine AWL.nil ?_
   refine ⟨i + 1, ⟨by omega, all_b_step hi.2 (by simpa using hc3)⟩, by omega, ⟨rfl, rfl, rfl, trivial⟩, (by rfl), (by rfl)⟩
  have hc2 := hc; have hnl : ¬ i < a.length := (by simpa using hc2)
  refine AW.exit ?_; (try simp only [thenE, inBlk, Nat.reduceEqDiff, ↓reduceIte])
  clear hK K
  (refine hK _ ?_; clear hK K; (skip))
  (refine AW.seq_k ?_; intro K hK)
  refine AW.region ?_
  refine awP (op_assign rfl rfl) ?_
  refine AWL.nil ?_
  (refine hK _ ?_; clear hK K; (try simp only [nA, Nat.reduceBEq, Nat.reduceEqDiff, ↓reduceIte, Nat.reduceAdd, Nat.reduceSub]))
  skip
  refine AW.ret ?_; (try simp only [thenE, inBlk, Nat.reduceEqDiff, ↓reduceIte]); rw [le_yes hc1 hnl hi.2]; exact RQ.of0 rfl (.tmp (bl rfl) rfl rfl .nil)
end Go.Proofs.YtfmnaigedgmhoaaDoor
namespace Go.Proofs.YtfmnaigedgmhoaaDoor
open Go.RowKit
set_option linter.unusedSimpArgs false
set_option linter.unusedVariables false
set_option maxRecDepth 100000
def sameE (a b : Ev) : Bool := (((((((((((decide (a.kind = b.kind) && decide (a.time = b.time)) && (a.text.toList == b.text.toList)) && plEq a.plate b.plate) && decide (a.node = b.node)) && decide (a.image = b.image)) && (a.clear == b.clear)) && listEq rpEq a.reports b.reports) && rvEq a.rev b.rev) && decide (a.device = b.device)) && opEq a.op b.op) && listEq opEq a.ops b.ops) && flEq a.fl b.fl
set_option maxHeartbeats 8000000 in
theorem C17r {a b : Ev} (h1 : a.reports.length ≤ 1000000) (h2 : a.ops.length ≤ 1000000) : Fn Tryd.prog 17 [] [.agg a.av, .agg b.av] [.v (.bool (sameE a b))] [] := by
  refine Spec.body Tryd.func17 rfl Tryd.ntmps17 (by simp) rfl ?_; intro S0 own0 v0 w0 gl
  (refine AW.seq_k ?_; intro K hK)
  refine AW.region ?_
  refine awJ (op_box rfl rfl rfl sz35 rfl) ?_; (simp only [nA, Nat.reduceBEq, Nat.reduceEqDiff, ↓reduceIte])
  refine awJ (op_box rfl rfl rfl sz35 rfl) ?_; (simp only [nA, Nat.reduceBEq, Nat.reduceEqDiff, ↓reduceIte])
  refine awP (op_assign rfl rfl) ?_
  refine AWL.nil ?_
  (refine hK _ ?_; clear hK K; (try simp only [nA, Nat.reduceBEq, Nat.reduceEqDiff, ↓reduceIte, Nat.reduceAdd, Nat.reduceSub]))
  (refine AW.seq_k ?_; intro K hK)
  refine AW.region (AWL.quiet ?_)
  (refine aqP (op_fa_ptr rfl rfl rfl fl35_0 (by exact sz3) (by decide) rfl) ?_)
  (refine aqR (op_load_ptr1 rfl rfl rfl rfl ag3 rfl rfl) ?_)
  (refine aqP (op_fa_ptr rfl rfl rfl fl35_0 (by exact sz3) (by decide) rfl) ?_)
  (refine aqR (op_load_ptr1 rfl rfl rfl rfl ag3 rfl rfl) ?_)
  (refine aqP (op_eql rfl rfl rfl) ?_)
  refine aqP (op_move rfl rfl) ?_
  refine' aqAnd' [_, _, _, _, _] [11,12,13,14,15] rfl rfl rfl rfl rfl rfl rfl rfl rfl rfl rfl rfl (fun hb => ?_) ?_; rotate_left
  ·
   (try simp only [hcS] at hb)
   (refine aqP (op_fa_ptr rfl rfl rfl fl35_1 (by exact sz3) (by decide) rfl) ?_)
   (refine aqR (op_load_ptr1 rfl rfl rfl rfl ag3 rfl rfl) ?_)
   (refine aqP (op_fa_ptr rfl rfl rfl fl35_1 (by exact sz3) (by decide) rfl) ?_)
   (refine aqR (op_load_ptr1 rfl rfl rfl rfl ag3 rfl rfl) ?_)
   (refine aqP (op_eql rfl rfl rfl) ?_)
   (refine aqSeg rfl rfl rfl ?_; repeat (first | exact fun _ _ => rfl | refine upd_out rfl ?_))
  simp only [nA]
  refine aqP (op_move rfl rfl) ?_
  refine' aqAnd' [_, _, _, _, _] [18,19,20,21,22] rfl rfl rfl rfl rfl rfl rfl rfl rfl rfl rfl rfl (fun hb => ?_) ?_; rotate_left
  ·
   (try simp only [hcS] at hb)
   (refine aqP (op_fa_ptr rfl rfl rfl fl35_2 (by exact sz9) (by decide) rfl) ?_)
   (refine aqR (op_load_ptr1 rfl rfl rfl rfl ag9 rfl rfl) ?_)
   (refine aqP (op_fa_ptr rfl rfl rfl fl35_2 (by exact sz9) (by decide) rfl) ?_)
   (refine aqR (op_load_ptr1 rfl rfl rfl rfl ag9 rfl rfl) ?_)
   (refine aqP (op_seql rfl rfl rfl) ?_)
   (refine aqSeg rfl rfl rfl ?_; repeat (first | exact fun _ _ => rfl | refine upd_out rfl ?_))
  simp only [nA]
  refine aqP (op_move rfl rfl) ?_
  refine' aqAnd' [_, _, _, _, _] [25,26,27,28,29] rfl rfl rfl rfl rfl rfl rfl rfl rfl rfl rfl rfl (fun hb => ?_) ?_; rotate_left
  ·
   (try simp only [hcS] at hb)
   (refine aqP (op_fa_ptr rfl rfl rfl fl35_3 (by exact sz23) (by decide) rfl) ?_)
   (refine aqR (op_load_ptr rfl rfl rfl rfl ag23 sz23 (bl rfl) rfl) ?_)
   (refine aqP (op_fa_ptr rfl rfl rfl fl35_3 (by exact sz23) (by decide) rfl) ?_)
   (refine aqR (op_load_ptr rfl rfl rfl rfl ag23 sz23 (bl rfl) rfl) ?_)
   refine aqP (op_eqP23 (p := a.plate) (q := b.plate) rfl rfl rfl) ?_; (simp only [nA])
   (refine aqSeg rfl rfl rfl ?_; repeat (first | exact fun _ _ => rfl | refine upd_out rfl ?_))
  simp only [nA]
  refine aqP (op_move rfl rfl) ?_
  refine' aqAnd' [_, _, _, _, _] [32,33,34,35,36] rfl rfl rfl rfl rfl rfl rfl rfl rfl rfl rfl rfl (fun hb => ?_) ?_; rotate_left
  ·
   (try simp only [hcS] at hb)
   (refine aqP (op_fa_ptr rfl rfl rfl fl35_4 (by exact sz3) (by decide) rfl) ?_)
   (refine aqR (op_load_ptr1 rfl rfl rfl rfl ag3 rfl rfl) ?_)
   (refine aqP (op_fa_ptr rfl rfl rfl fl35_4 (by exact sz3) (by decide) rfl) ?_)
   (refine aqR (op_load_ptr1 rfl rfl rfl rfl ag3 rfl rfl) ?_)
   (refine aqP (op_eql rfl rfl rfl) ?_)
   (refine aqSeg rfl rfl rfl ?_; repeat (first | exact fun _ _ => rfl | refine upd_out rfl ?_))
  simp only [nA]
  refine aqP (op_move rfl rfl) ?_
  refine' aqAnd' [_, _, _, _, _] [39,40,41,42,43] rfl rfl rfl rfl rfl rfl rfl rfl rfl rfl rfl rfl (fun hb => ?_) ?_; rotate_left
  ·
   (try simp only [hcS] at hb)
   (refine aqP (op_fa_ptr rfl rfl rfl fl35_5 (by exact sz3) (by decide) rfl) ?_)
   (refine aqR (op_load_ptr1 rfl rfl rfl rfl ag3 rfl rfl) ?_)
   (refine aqP (op_fa_ptr rfl rfl rfl fl35_5 (by exact sz3) (by decide) rfl) ?_)
   (refine aqR (op_load_ptr1 rfl rfl rfl rfl ag3 rfl rfl) ?_)
   (refine aqP (op_eql rfl rfl rfl) ?_)
   (refine aqSeg rfl rfl rfl ?_; repeat (first | exact fun _ _ => rfl | refine upd_out rfl ?_))
  simp only [nA]
  refine aqP (op_move rfl rfl) ?_
  refine' aqAnd' [_, _, _, _, _] [46,47,48,49,50] rfl rfl rfl rfl rfl rfl rfl rfl rfl rfl rfl rfl (fun hb => ?_) ?_; rotate_left
  ·
   (try simp only [hcS] at hb)
   (refine aqP (op_fa_ptr rfl rfl rfl fl35_6 (by exact sz4) (by decide) rfl) ?_)
   (refine aqR (op_load_ptr1 rfl rfl rfl rfl ag4 rfl rfl) ?_)
   (refine aqP (op_fa_ptr rfl rfl rfl fl35_6 (by exact sz4) (by decide) rfl) ?_)
   (refine aqR (op_load_ptr1 rfl rfl rfl rfl ag4 rfl rfl) ?_)
   (refine aqP (op_beql rfl rfl rfl Tryd.underlying4) ?_)
   (refine aqSeg rfl rfl rfl ?_; repeat (first | exact fun _ _ => rfl | refine upd_out rfl ?_))
  simp only [nA]
  refine aqP (op_move rfl rfl) ?_
  refine' aqAnd' [_, _, _, _, _] [53,54,55,56,57] rfl rfl rfl rfl rfl rfl rfl rfl rfl rfl rfl rfl (fun hb => ?_) ?_; rotate_left
  ·
   (try simp only [hcS] at hb)
   (refine aqP (op_fa_ptr rfl rfl rfl fl35_7 (by exact sz24) (by decide) rfl) ?_)
   (refine aqR (op_load_ptr1 rfl rfl rfl rfl ag24 rfl rfl) ?_)
   (refine aqP (op_fa_ptr rfl rfl rfl fl35_7 (by exact sz24) (by decide) rfl) ?_)
   (refine aqR (op_load_ptr1 rfl rfl rfl rfl ag24 rfl rfl) ?_)
   refine aqQ (op_callQ (b := true) rfl en41 (C41 (a := a.reports) (b := b.reports) h1) (RL.cons (by exact View.same rfl) (RL.cons (by exact View.same rfl) (RL.nil))) rfl) ?_; (simp only [nA])
   (refine aqSeg rfl rfl rfl ?_; repeat (first | exact fun _ _ => rfl | refine upd_out rfl ?_))
  simp only [nA]
  refine aqP (op_move rfl rfl) ?_
  refine' aqAnd' [_, _, _, _, _] [60,61,62,63,64] rfl rfl rfl rfl rfl rfl rfl rfl rfl rfl rfl rfl (fun hb => ?_) ?_; rotate_left
  ·
   (try simp only [hcS] at hb)
   (refine aqP (op_fa_ptr rfl rfl rfl fl35_8 (by exact sz28) (by decide) rfl) ?_)
   (refine aqR (op_load_ptr rfl rfl rfl rfl ag28 sz28 (bl rfl) rfl) ?_)
   (refine aqP (op_fa_ptr rfl rfl rfl fl35_8 (by exact sz28) (by decide) rfl) ?_)
   (refine aqR (op_load_ptr rfl rfl rfl rfl ag28 sz28 (bl rfl) rfl) ?_)
   refine aqP (op_eq28 (p := a.rev) (q := b.rev) rfl rfl rfl) ?_; (simp only [nA])
   (refine aqSeg rfl rfl rfl ?_; repeat (first | exact fun _ _ => rfl | refine upd_out rfl ?_))
  simp only [nA]
  refine aqP (op_move rfl rfl) ?_
  refine' aqAnd' [_, _, _, _, _] [67,68,69,70,71] rfl rfl rfl rfl rfl rfl rfl rfl rfl rfl rfl rfl (fun hb => ?_) ?_; rotate_left
  ·
   (try simp only [hcS] at hb)
   (refine aqP (op_fa_ptr rfl rfl rfl fl35_9 (by exact sz3) (by decide) rfl) ?_)
   (refine aqR (op_load_ptr1 rfl rfl rfl rfl ag3 rfl rfl) ?_)
   (refine aqP (op_fa_ptr rfl rfl rfl fl35_9 (by exact sz3) (by decide) rfl) ?_)
   (refine aqR (op_load_ptr1 rfl rfl rfl rfl ag3 rfl rfl) ?_)
   (refine aqP (op_eql rfl rfl rfl) ?_)
   (refine aqSeg rfl rfl rfl ?_; repeat (first | exact fun _ _ => rfl | refine upd_out rfl ?_))
  simp only [nA]
  refine aqP (op_move rfl rfl) ?_
  refine' aqAnd' [_, _, _, _, _] [74,75,76,77,78] rfl rfl rfl rfl rfl rfl rfl rfl rfl rfl rfl rfl (fun hb => ?_) ?_; rotate_left
  ·
   (try simp only [hcS] at hb)
   (refine aqP (op_fa_ptr rfl rfl rfl fl35_10 (by exact sz32) (by decide) rfl) ?_)
   (refine aqR (op_load_ptr rfl rfl rfl rfl ag32 sz32 (bl rfl) rfl) ?_)
   (refine aqP (op_fa_ptr rfl rfl rfl fl35_10 (by exact sz32) (by decide) rfl) ?_)
   (refine aqR (op_load_ptr rfl rfl rfl rfl ag32 sz32 (bl rfl) rfl) ?_)
   refine aqP (op_eq32 (p := a.op) (q := b.op) rfl rfl rfl) ?_; (simp only [nA])
   (refine aqSeg rfl rfl rfl ?_; repeat (first | exact fun _ _ => rfl | refine upd_out rfl ?_))
  simp only [nA]
  refine aqP (op_move rfl rfl) ?_
  refine' aqAnd' [_, _, _, _, _] [81,82,83,84,85] rfl rfl rfl rfl rfl rfl rfl rfl rfl rfl rfl rfl (fun hb => ?_) ?_; rotate_left
  ·
   (try simp only [hcS] at hb)
   (refine aqP (op_fa_ptr rfl rfl rfl fl35_11 (by exact sz33) (by decide) rfl) ?_)
   (refine aqR (op_load_ptr1 rfl rfl rfl rfl ag33 rfl rfl) ?_)
   (refine aqP (op_fa_ptr rfl rfl rfl fl35_11 (by exact sz33) (by decide) rfl) ?_)
   (refine aqR (op_load_ptr1 rfl rfl rfl rfl ag33 rfl rfl) ?_)
   refine aqQ (op_callQ (b := true) rfl en42 (C42 (a := a.ops) (b := b.ops) h2) (RL.cons (by exact View.same rfl) (RL.cons (by exact View.same rfl) (RL.nil))) rfl) ?_; (simp only [nA])
   (refine aqSeg rfl rfl rfl ?_; repeat (first | exact fun _ _ => rfl | refine upd_out rfl ?_))
  simp only [nA]
  refine aqP (op_move rfl rfl) ?_
  refine' aqAnd' [_, _, _, _, _] [88,89,90,91,92] rfl rfl rfl rfl rfl rfl rfl rfl rfl rfl rfl rfl (fun hb => ?_) ?_; rotate_left
  ·
   (try simp only [hcS] at hb)
   (refine aqP (op_fa_ptr rfl rfl rfl fl35_12 (by exact sz26) (by decide) rfl) ?_)
   (refine aqR (op_load_ptr rfl rfl rfl rfl ag26 sz26 (bl rfl) rfl) ?_)
   (refine aqP (op_fa_ptr rfl rfl rfl fl35_12 (by exact sz26) (by decide) rfl) ?_)
   (refine aqR (op_load_ptr rfl rfl rfl rfl ag26 sz26 (bl rfl) rfl) ?_)
   refine aqP (op_eq26 (p := a.fl) (q := b.fl) rfl rfl rfl) ?_; (simp only [nA])
   (refine aqSeg rfl rfl rfl ?_; repeat (first | exact fun _ _ => rfl | refine upd_out rfl ?_))
  simp only [nA]
  refine aqP (op_assign rfl rfl) ?_
  refine AQ.nil ?_
  (refine hK _ ?_; clear hK K; (simp only [nA]))
  skip
  refine AW.ret ?_; (try simp only [thenE, inBlk, Nat.reduceEqDiff, ↓reduceIte]); exact RQ.of0 rfl (.tmp (bl rfl) rfl rfl .nil)
theorem sameE_eq (a b : Ev) : sameE a b = sameB a b := by
  have e : sameE a b = true ↔ a = b := by
    obtain ⟨a1, a2, a3, a4, a5, a6, a7, a8, a9, a10, a11, a12, a13⟩ := a
    obtain ⟨b1, b2, b3, b4, b5, b6, b7, b8, b9, b10, b11, b12, b13⟩ := b
    unfold sameE
    simp only [Bool.and_eq_true, decide_eq_true_eq, beq_iff_eq, str_eq, plEq_iff, flEq_iff, rvEq_iff, opEq_iff, listEq_iff rpEq_iff, listEq_iff opEq_iff, Ev.mk.injEq, and_assoc]
  unfold sameB
  rw [Bool.eq_iff_iff, e]
  exact (@decide_eq_true_iff _ (Classical.propDecidable _)).symm
set_option maxHeartbeats 8000000 in
theorem C17 {a b : Ev} (h1 : a.reports.length ≤ 1000000) (h2 : a.ops.length ≤ 1000000) : Fn Tryd.prog 17 [] [.agg a.av, .agg b.av] [.v (.bool (sameB a b))] [] := by
  rw [← sameE_eq]; exact C17r h1 h2
def headNe (a b : Ev) : Bool := ((((((((((((!decide (a.kind = b.kind)) || !decide (a.time = b.time)) || !(a.text.toList == b.text.toList)) || !plEq a.plate b.plate) || !decide (a.node = b.node)) || !decide (a.image = b.image)) || (a.clear != b.clear)) || !rvEq a.rev b.rev) || !decide (a.device = b.device)) || !opEq a.op b.op) || !flEq a.fl b.fl) || !decide ((a.reports.length : Int) = (b.reports.length : Int))) || !listEq opEq a.ops b.ops
def sameR (a b : Ev) : Bool := !headNe a b && (List.range a.reports.length).all fun i => rpEq (a.reports.getD i default) (b.reports.getD i default)
theorem sameR_eq (a b : Ev) : sameR a b = sameB a b := by
  rw [← sameE_eq]
  unfold sameR headNe sameE
  have e : listEq rpEq a.reports b.reports = (decide ((a.reports.length : Int) = (b.reports.length : Int)) && (List.range a.reports.length).all fun i => rpEq (a.reports.getD i default) (b.reports.getD i default)) := rfl
  rw [e]
  simp only [bne, Bool.not_or, Bool.not_not]
  ac_rfl
set_option maxHeartbeats 8000000 in
theorem C18r {a b : Ev} (h1 : a.reports.length ≤ 1000000) (h2 : a.ops.length ≤ 1000000) : Fn Tryd.prog 18 [] [.agg a.av, .agg b.av] [.v (.bool (sameR a b))] [] := by
  refine Spec.body Tryd.func18 rfl Tryd.ntmps18 (by simp) rfl ?_; intro S0 own0 v0 w0 gl
  (refine AW.seq_k ?_; intro K hK)
  refine AW.region ?_
  refine awJ (op_box rfl rfl rfl sz35 rfl) ?_; (simp only [nA, Nat.reduceBEq, Nat.reduceEqDiff, ↓reduceIte])
  refine awJ (op_box rfl rfl rfl sz35 rfl) ?_; (simp only [nA, Nat.reduceBEq, Nat.reduceEqDiff, ↓reduceIte])
  refine awP (op_assign rfl rfl) ?_
  refine AWL.nil ?_
  (refine hK _ ?_; clear hK K; (try simp only [nA, Nat.reduceBEq, Nat.reduceEqDiff, ↓reduceIte, Nat.reduceAdd, Nat.reduceSub]))
  (refine AW.seq_k ?_; intro K hK)
  (refine AW.seq_k ?_; intro K hK)
  refine AW.region (AWL.quiet ?_)
  (refine aqP (op_fa_ptr rfl rfl rfl fl35_0 (by exact sz3) (by decide) rfl) ?_)
  (refine aqR (op_load_ptr1 rfl rfl rfl rfl ag3 rfl rfl) ?_)
  (refine aqP (op_fa_ptr rfl rfl rfl fl35_0 (by exact sz3) (by decide) rfl) ?_)
  (refine aqR (op_load_ptr1 rfl rfl rfl rfl ag3 rfl rfl) ?_)
  (refine aqP (op_neq rfl rfl rfl) ?_)
  refine aqP (op_move rfl rfl) ?_
  refine' aqOr' [_, _, _, _, _] [12,13,14,15,16] rfl rfl rfl rfl rfl rfl rfl rfl rfl rfl rfl rfl (fun hb => ?_) ?_; rotate_left
  ·
   (try simp only [hcS] at hb)
   (refine aqP (op_fa_ptr rfl rfl rfl fl35_1 (by exact sz3) (by decide) rfl) ?_)
   (refine aqR (op_load_ptr1 rfl rfl rfl rfl ag3 rfl rfl) ?_)
   (refine aqP (op_fa_ptr rfl rfl rfl fl35_1 (by exact sz3) (by decide) rfl) ?_)
   (refine aqR (op_load_ptr1 rfl rfl rfl rfl ag3 rfl rfl) ?_)
   (refine aqP (op_neq rfl rfl rfl) ?_)
   (refine aqSeg rfl rfl rfl ?_; repeat (first | exact fun _ _ => rfl | refine upd_out rfl ?_))
  simp only [nA]
  refine aqP (op_move rfl rfl) ?_
  refine' aqOr' [_, _, _, _, _] [19,20,21,22,23] rfl rfl rfl rfl rfl rfl rfl rfl rfl rfl rfl rfl (fun hb => ?_) ?_; rotate_left
  ·
   (try simp only [hcS] at hb)
   (refine aqP (op_fa_ptr rfl rfl rfl fl35_2 (by exact sz9) (by decide) rfl) ?_)
   (refine aqR (op_load_ptr1 rfl rfl rfl rfl ag9 rfl rfl) ?_)
   (refine aqP (op_fa_ptr rfl rfl rfl fl35_2 (by exact sz9) (by decide) rfl) ?_)
   (refine aqR (op_load_ptr1 rfl rfl rfl rfl ag9 rfl rfl) ?_)
   (refine aqP (op_sneq rfl rfl rfl) ?_)
   (refine aqSeg rfl rfl rfl ?_; repeat (first | exact fun _ _ => rfl | refine upd_out rfl ?_))
  simp only [nA]
  refine aqP (op_move rfl rfl) ?_
  refine' aqOr' [_, _, _, _, _] [26,27,28,29,30] rfl rfl rfl rfl rfl rfl rfl rfl rfl rfl rfl rfl (fun hb => ?_) ?_; rotate_left
  ·
   (try simp only [hcS] at hb)
   (refine aqP (op_fa_ptr rfl rfl rfl fl35_3 (by exact sz23) (by decide) rfl) ?_)
   (refine aqR (op_load_ptr rfl rfl rfl rfl ag23 sz23 (bl rfl) rfl) ?_)
   (refine aqP (op_fa_ptr rfl rfl rfl fl35_3 (by exact sz23) (by decide) rfl) ?_)
   (refine aqR (op_load_ptr rfl rfl rfl rfl ag23 sz23 (bl rfl) rfl) ?_)
   refine aqP (op_neqP23 (p := a.plate) (q := b.plate) rfl rfl rfl) ?_; (simp only [nA])
   (refine aqSeg rfl rfl rfl ?_; repeat (first | exact fun _ _ => rfl | refine upd_out rfl ?_))
  simp only [nA]
  refine aqP (op_move rfl rfl) ?_
  refine' aqOr' [_, _, _, _, _] [33,34,35,36,37] rfl rfl rfl rfl rfl rfl rfl rfl rfl rfl rfl rfl (fun hb => ?_) ?_; rotate_left
  ·
   (try simp only [hcS] at hb)
   (refine aqP (op_fa_ptr rfl rfl rfl fl35_4 (by exact sz3) (by decide) rfl) ?_)
   (refine aqR (op_load_ptr1 rfl rfl rfl rfl ag3 rfl rfl) ?_)
   (refine aqP (op_fa_ptr rfl rfl rfl fl35_4 (by exact sz3) (by decide) rfl) ?_)
   (refine aqR (op_load_ptr1 rfl rfl rfl rfl ag3 rfl rfl) ?_)
   (refine aqP (op_neq rfl rfl rfl) ?_)
   (refine aqSeg rfl rfl rfl ?_; repeat (first | exact fun _ _ => rfl | refine upd_out rfl ?_))
  simp only [nA]
  refine aqP (op_move rfl rfl) ?_
  refine' aqOr' [_, _, _, _, _] [40,41,42,43,44] rfl rfl rfl rfl rfl rfl rfl rfl rfl rfl rfl rfl (fun hb => ?_) ?_; rotate_left
  ·
   (try simp only [hcS] at hb)
   (refine aqP (op_fa_ptr rfl rfl rfl fl35_5 (by exact sz3) (by decide) rfl) ?_)
   (refine aqR (op_load_ptr1 rfl rfl rfl rfl ag3 rfl rfl) ?_)
   (refine aqP (op_fa_ptr rfl rfl rfl fl35_5 (by exact sz3) (by decide) rfl) ?_)
   (refine aqR (op_load_ptr1 rfl rfl rfl rfl ag3 rfl rfl) ?_)
   (refine aqP (op_neq rfl rfl rfl) ?_)
   (refine aqSeg rfl rfl rfl ?_; repeat (first | exact fun _ _ => rfl | refine upd_out rfl ?_))
  simp only [nA]
  refine aqP (op_move rfl rfl) ?_
  refine' aqOr' [_, _, _, _, _] [47,48,49,50,51] rfl rfl rfl rfl rfl rfl rfl rfl rfl rfl rfl rfl (fun hb => ?_) ?_; rotate_left
  ·
   (try simp only [hcS] at hb)
   (refine aqP (op_fa_ptr rfl rfl rfl fl35_6 (by exact sz4) (by decide) rfl) ?_)
   (refine aqR (op_load_ptr1 rfl rfl rfl rfl ag4 rfl rfl) ?_)
   (refine aqP (op_fa_ptr rfl rfl rfl fl35_6 (by exact sz4) (by decide) rfl) ?_)
   (refine aqR (op_load_ptr1 rfl rfl rfl rfl ag4 rfl rfl) ?_)
   (refine aqP (op_bneq rfl rfl rfl Tryd.underlying4) ?_)
   (refine aqSeg rfl rfl rfl ?_; repeat (first | exact fun _ _ => rfl | refine upd_out rfl ?_))
  simp only [nA]
  refine aqP (op_move rfl rfl) ?_
  refine' aqOr' [_, _, _, _, _] [54,55,56,57,58] rfl rfl rfl rfl rfl rfl rfl rfl rfl rfl rfl rfl (fun hb => ?_) ?_; rotate_left
  ·
   (try simp only [hcS] at hb)
   (refine aqP (op_fa_ptr rfl rfl rfl fl35_8 (by exact sz28) (by decide) rfl) ?_)
   (refine aqR (op_load_ptr rfl rfl rfl rfl ag28 sz28 (bl rfl) rfl) ?_)
   (refine aqP (op_fa_ptr rfl rfl rfl fl35_8 (by exact sz28) (by decide) rfl) ?_)
   (refine aqR (op_load_ptr rfl rfl rfl rfl ag28 sz28 (bl rfl) rfl) ?_)
   refine aqP (op_neq28 (p := a.rev) (q := b.rev) rfl rfl rfl) ?_; (simp only [nA])
   (refine aqSeg rfl rfl rfl ?_; repeat (first | exact fun _ _ => rfl | refine upd_out rfl ?_))
  simp only [nA]
  refine aqP (op_move rfl rfl) ?_
  refine' aqOr' [_, _, _, _, _] [61,62,63,64,65] rfl rfl rfl rfl rfl rfl rfl rfl rfl rfl rfl rfl (fun hb => ?_) ?_; rotate_left
  ·
   (try simp only [hcS] at hb)
   (refine aqP (op_fa_ptr rfl rfl rfl fl35_9 (by exact sz3) (by decide) rfl) ?_)
   (refine aqR (op_load_ptr1 rfl rfl rfl rfl ag3 rfl rfl) ?_)
   (refine aqP (op_fa_ptr rfl rfl rfl fl35_9 (by exact sz3) (by decide) rfl) ?_)
   (refine aqR (op_load_ptr1 rfl rfl rfl rfl ag3 rfl rfl) ?_)
   (refine aqP (op_neq rfl rfl rfl) ?_)
   (refine aqSeg rfl rfl rfl ?_; repeat (first | exact fun _ _ => rfl | refine upd_out rfl ?_))
  simp only [nA]
  refine aqP (op_move rfl rfl) ?_
  refine' aqOr' [_, _, _, _, _] [68,69,70,71,72] rfl rfl rfl rfl rfl rfl rfl rfl rfl rfl rfl rfl (fun hb => ?_) ?_; rotate_left
  ·
   (try simp only [hcS] at hb)
   (refine aqP (op_fa_ptr rfl rfl rfl fl35_10 (by exact sz32) (by decide) rfl) ?_)
   (refine aqR (op_load_ptr rfl rfl rfl rfl ag32 sz32 (bl rfl) rfl) ?_)
   (refine aqP (op_fa_ptr rfl rfl rfl fl35_10 (by exact sz32) (by decide) rfl) ?_)
   (refine aqR (op_load_ptr rfl rfl rfl rfl ag32 sz32 (bl rfl) rfl) ?_)
   refine aqP (op_neq32 (p := a.op) (q := b.op) rfl rfl rfl) ?_; (simp only [nA])
   (refine aqSeg rfl rfl rfl ?_; repeat (first | exact fun _ _ => rfl | refine upd_out rfl ?_))
  simp only [nA]
  refine aqP (op_move rfl rfl) ?_
  refine' aqOr' [_, _, _, _, _] [75,76,77,78,79] rfl rfl rfl rfl rfl rfl rfl rfl rfl rfl rfl rfl (fun hb => ?_) ?_; rotate_left
  ·
   (try simp only [hcS] at hb)
   (refine aqP (op_fa_ptr rfl rfl rfl fl35_12 (by exact sz26) (by decide) rfl) ?_)
   (refine aqR (op_load_ptr rfl rfl rfl rfl ag26 sz26 (bl rfl) rfl) ?_)
   (refine aqP (op_fa_ptr rfl rfl rfl fl35_12 (by exact sz26) (by decide) rfl) ?_)
   (refine aqR (op_load_ptr rfl rfl rfl rfl ag26 sz26 (bl rfl) rfl) ?_)
   refine aqP (op_neq26 (p := a.fl) (q := b.fl) rfl rfl rfl) ?_; (simp only [nA])
   (refine aqSeg rfl rfl rfl ?_; repeat (first | exact fun _ _ => rfl | refine upd_out rfl ?_))
  simp only [nA]
  refine aqP (op_move rfl rfl) ?_
  refine' aqOr' [_, _, _, _, _, _, _] [82,83,84,85,86,87,88] rfl rfl rfl rfl rfl rfl rfl rfl rfl rfl rfl rfl (fun hb => ?_) ?_; rotate_left
  ·
   (try simp only [hcS] at hb)
   (refine aqP (op_fa_ptr rfl rfl rfl fl35_7 (by exact sz24) (by decide) rfl) ?_)
   (refine aqR (op_load_ptr1 rfl rfl rfl rfl ag24 rfl rfl) ?_)
   refine aqP (op_len_ro (n := a.reports.length) rfl rfl Tryd.underlying24 (.inr (.inl ⟨_, rfl, by simp⟩))) ?_
   (refine aqP (op_fa_ptr rfl rfl rfl fl35_7 (by exact sz24) (by decide) rfl) ?_)
   (refine aqR (op_load_ptr1 rfl rfl rfl rfl ag24 rfl rfl) ?_)
   refine aqP (op_len_ro (n := b.reports.length) rfl rfl Tryd.underlying24 (.inr (.inl ⟨_, rfl, by simp⟩))) ?_
   (refine aqP (op_neq rfl rfl rfl) ?_)
   (refine aqSeg rfl rfl rfl ?_; repeat (first | exact fun _ _ => rfl | refine upd_out rfl ?_))
  simp only [nA]
  refine aqP (op_move rfl rfl) ?_
  refine' aqOr' [_, _, _, _, _, _] [91,92,93,94,95,96] rfl rfl rfl rfl rfl rfl rfl rfl rfl rfl rfl rfl (fun hb => ?_) ?_; rotate_left
  ·
   (try simp only [hcS] at hb)
   (refine aqP (op_fa_ptr rfl rfl rfl fl35_11 (by exact sz33) (by decide) rfl) ?_)
   (refine aqR (op_load_ptr1 rfl rfl rfl rfl ag33 rfl rfl) ?_)
   (refine aqP (op_fa_ptr rfl rfl rfl fl35_11 (by exact sz33) (by decide) rfl) ?_)
   (refine aqR (op_load_ptr1 rfl rfl rfl rfl ag33 rfl rfl) ?_)
   refine aqQ (op_callQ (b := true) rfl en43 (C43 (a := a.ops) (b := b.ops) h2) (RL.cons (by exact View.same rfl) (RL.cons (by exact View.same rfl) (RL.nil))) rfl) ?_; (simp only [nA])
   refine aqP (op_not rfl rfl rfl) ?_
   (refine aqSeg rfl rfl rfl ?_; repeat (first | exact fun _ _ => rfl | refine upd_out rfl ?_))
  simp only [nA]
  refine AQ.nil ?_
  (refine hK _ ?_; clear hK K; (skip))
  refine AW.cond rfl rfl rfl (fun hc => ?_) (fun hc => ?_)
  ·
   have hc1 := hc
   (refine AW.seq_k ?_; intro K hK)
   refine AW.region ?_
   refine awP (op_assign rfl rfl) ?_
   refine AWL.nil ?_
   (refine hK _ ?_; clear hK K; (try simp only [nA, Nat.reduceBEq, Nat.reduceEqDiff, ↓reduceIte, Nat.reduceAdd, Nat.reduceSub]))
   skip
   refine AW.ret ?_; (try simp only [thenE, inBlk, Nat.reduceEqDiff, ↓reduceIte]); rw [show sameR a b = false by unfold sameR; rw [show headNe a b = true from hc1]; rfl]; exact RQ.of0 rfl (.tmp (bl rfl) rfl rfl .nil)
  have hc1 := hc; have hle : a.reports.length = b.reports.length := (by have h : headNe a b = false := hc1; unfold headNe at h; simp only [Bool.or_eq_false_iff] at h; have h2 := h.1.2; have e : (a.reports.length : Int) = b.reports.length := (by simpa using h2); omega)
  refine AW.skip ?_
  (refine hK _ ?_; clear hK K; (skip))
  (refine AW.seq_k ?_; intro K hK)
  (refine AW.seq_k ?_; intro K hK)
  refine AW.region ?_
  refine awP (op_assign rfl rfl) ?_
  refine AWL.nil ?_
  (refine hK _ ?_; clear hK K; (try simp only [nA, Nat.reduceBEq, Nat.reduceEqDiff, ↓reduceIte, Nat.reduceAdd, Nat.reduceSub]))
  refine AW.block ?_
  refine AW.loopI (fun i => [(2, .ptr 0 1 0 0), (3, .ptr 1 2 0 0), (5, .v (.int .i64 (i : Nat)))]) (fun i => ⟨[(1, .own 35 [a.av]), (2, .own 35 [b.av])], 3⟩) (fun i => i ≤ a.reports.length ∧ ∀ k, k < i → rpEq (a.reports.getD k default) (b.reports.getD k default) = true) (fun i => a.reports.length - i) 0 (by simp) ⟨rfl, rfl, rfl, trivial⟩ rfl ?_; intro i ρ hi; simp only [updL]
  (refine AW.seq_k ?_; intro K hK)
  (refine AW.seq_k ?_; intro K hK)
  refine AW.region ?_
  refine awP (op_move rfl rfl) ?_
  (refine awP (op_fa_ptr rfl rfl rfl fl35_7 (by exact sz24) (by decide) rfl) ?_)
  (refine awR (op_load_ptr1 rfl rfl rfl rfl ag24 rfl rfl) ?_)
  refine awP (op_len_ro (n := a.reports.length) rfl rfl Tryd.underlying24 (.inr (.inl ⟨_, rfl, by simp⟩))) ?_
  refine awP (op_lss rfl rfl rfl) ?_
  refine AWL.nil ?_
  (refine hK _ ?_; clear hK K; (simp only [nA, ↓reduceIte]))
  refine AW.cond rfl rfl rfl (fun hc => ?_) (fun hc => ?_)
  ·
   have hc2 := hc; have hlt : i < a.reports.length := (by simpa using hc2)
   refine AW.skip ?_
   (refine hK _ ?_; clear hK K; (skip))
   (refine AW.seq_k ?_; intro K hK)
   refine AW.block ?_
   (refine AW.seq_k ?_; intro K hK)
   refine AW.quiet mix (by kernel_rfl) ?_
   (refine aqP (op_fa_ptr rfl rfl rfl fl35_7 (by exact sz24) (by decide) rfl) ?_)
   (refine aqR (op_load_ptr1 rfl rfl rfl rfl ag24 rfl rfl) ?_)
   refine aqP (op_move rfl rfl) ?_
   refine aqP (op_ia_ro i rfl (.inl rfl) rfl Tryd.underlying24 rfl (get_mapD (by omega)) (by exact sz66) (bl rfl)) ?_
   (refine aqR (op_load_rop rfl rfl ag66 sz66 (bl rfl) (by decide) rfl) ?_)
   (refine aqP (op_fa_ptr rfl rfl rfl fl35_7 (by exact sz24) (by decide) rfl) ?_)
   (refine aqR (op_load_ptr1 rfl rfl rfl rfl ag24 rfl rfl) ?_)
   refine aqP (op_move rfl rfl) ?_
   refine aqP (op_ia_ro i rfl (.inl rfl) rfl Tryd.underlying24 rfl (get_mapD (by omega)) (by exact sz66) (bl rfl)) ?_
   (refine aqR (op_load_rop rfl rfl ag66 sz66 (bl rfl) (by decide) rfl) ?_)
   refine aqP (op_neq66 (p := a.reports.getD i default) (q := b.reports.getD i default) rfl rfl rfl) ?_; (simp only [nA, ↓reduceIte])
   refine AQ.nil ?_
   (refine hK _ ?_; clear hK K; (skip))
   refine AW.cond rfl rfl rfl (fun hc => ?_) (fun hc => ?_)
   ·
    have hc3 := hc
    (refine AW.seq_k ?_; intro K hK)
    refine AW.region ?_
    refine awP (op_assign rfl rfl) ?_
    refine AWL.nil ?_
    (refine hK _ ?_; clear hK K; (try simp only [nA, Nat.reduceBEq, Nat.reduceEqDiff, ↓reduceIte, Nat.reduceAdd, Nat.reduceSub]))
    skip
    refine AW.ret ?_; (try simp only [thenE, inBlk, Nat.reduceEqDiff, ↓reduceIte]); rw [show sameR a b = false by unfold sameR; rw [all_range_no hlt (by simpa using hc3), Bool.and_false]]; exact RQ.of0 rfl (.tmp (bl rfl) rfl rfl .nil)
   have hc3 := hc
   refine AW.skip ?_
   (try simp only [thenE, inBlk, Nat.reduceEqDiff, ↓reduceIte])
   (refine hK _ ?_; clear hK K; (skip))
   refine AW.region ?_
   refine awP (op_move rfl rfl) ?_
   (refine awP (op_addi rfl rfl rfl (by omega)) ?_)
   refine awP (op_assign rfl rfl) ?_
   skip
   refine AWL.nil ?_
   refine ⟨i + 1, ⟨by omega, all_b_step hi.2 (by simpa using hc3)⟩, by omega, ⟨rfl, rfl, rfl, trivial⟩, (by rfl), (by rfl)⟩
  have hc2 := hc; have hnl : ¬ i < a.reports.length := (by simpa using hc2)
  refine AW.exit ?_; (try simp only [thenE, inBlk, Nat.reduceEqDiff, ↓reduceIte])
  clear hK K
  (refine hK _ ?_; clear hK K; (skip))
  (refine AW.seq_k ?_; intro K hK)
  refine AW.region ?_
  refine awP (op_assign rfl rfl) ?_
  refine AWL.nil ?_
  (refine hK _ ?_; clear hK K; (try simp only [nA, Nat.reduceBEq, Nat.reduceEqDiff, ↓reduceIte, Nat.reduceAdd, Nat.reduceSub]))
  skip
  refine AW.ret ?_; (try simp only [thenE, inBlk, Nat.reduceEqDiff, ↓reduceIte]); rw [show sameR a b = true by unfold sameR; rw [show headNe a b = false from hc1, all_range_yes hnl hi.2]; rfl]; exact RQ.of0 rfl (.tmp (bl rfl) rfl rfl .nil)
set_option maxHeartbeats 8000000 in
theorem C18 {a b : Ev} (h1 : a.reports.length ≤ 1000000) (h2 : a.ops.length ≤ 1000000) : Fn Tryd.prog 18 [] [.agg a.av, .agg b.av] [.v (.bool (sameB a b))] [] := by
  rw [← sameR_eq]; exact C18r h1 h2
end Go.Proofs.YtfmnaigedgmhoaaDoor
namespace Go.Proofs.YtfmnaigedgmhoaaDoor
open Go.RowKit
set_option linter.unusedSimpArgs false
set_option linter.unusedVariables false
set_option maxRecDepth 100000
def fldI (k : Int) : List Int := (fieldsL k).map fun n => ((n : Nat) : Int)
theorem fldI_row {k : Int} (h : 1 ≤ k ∧ k ≤ 14) : gRows[k.toNat]? = some (fldI k) := by
  rcases kind_cases h with rfl | rfl | rfl | rfl | rfl | rfl | rfl | rfl | rfl | rfl | rfl | rfl | rfl | rfl <;> rfl
theorem fields_bd (k : Int) : ∀ p ∈ fieldsL k, p ≤ 11 := by
  rcases fields_len k with e | ⟨p, e⟩ | ⟨_, e⟩ | ⟨_, e⟩ | ⟨_, e⟩ | ⟨_, e⟩ | ⟨_, e⟩ | ⟨_, e⟩ <;> rw [e]
  · intro p hp; cases hp
  · intro q hq
    obtain rfl : q = p := by simpa using hq
    have h2 : q ∈ fieldsL k := by rw [e]; simp
    by_cases hk : 1 ≤ k ∧ k ≤ 14
    · rcases kind_cases hk with rfl | rfl | rfl | rfl | rfl | rfl | rfl | rfl | rfl | rfl | rfl | rfl | rfl | rfl <;> simp [fieldsL] at h2 <;> omega
    have : fieldsL k = [] := by unfold fieldsL; repeat rw [if_neg (by omega)]
    rw [this] at h2; cases h2
  all_goals decide
theorem fldI_bd {k : Int} {i : Nat} (h : i < (fldI k).length) : 0 ≤ (fldI k).getD i default ∧ (fldI k).getD i default ≤ 11 := by
  rw [getD_of h]
  obtain ⟨n, hn, e⟩ := List.mem_map.1 (List.getElem_mem h)
  have := fields_bd k n hn
  omega
theorem fldI_len (k : Int) : (fldI k).length ≤ 2 := by
  unfold fldI
  rw [List.length_map]
  rcases fields_len k with e | ⟨p, e⟩ | ⟨_, e⟩ | ⟨_, e⟩ | ⟨_, e⟩ | ⟨_, e⟩ | ⟨_, e⟩ | ⟨_, e⟩ <;> rw [e] <;> simp
def clrI (z : Ev) (l : List Int) (x : Ev) : Ev := l.foldl (fun y p => setP p.toNat z y) x
theorem clr_step {z x y : Ev} {l : List Int} {i p : Nat} (h : i < l.length) (hy : y = clrI z (l.take i) x) (hp : l.getD i default = (p : Int)) : setP p z y = clrI z (l.take (i + 1)) x := by
  unfold clrI at *
  rw [List.take_add_one, List.getElem?_eq_getElem h, List.foldl_append, ← hy]
  rw [getD_of h] at hp
  simp [hp]
theorem clr_kind (z : Ev) : ∀ (l : List Int) (x : Ev), (clrI z l x).kind = x.kind
  | [], _ => rfl
  | p :: l, x => (clr_kind z l _).trans set_kind
theorem set_back : ∀ (p : Nat) (x z : Ev), setP p x (setP p z x) = x
  | 0, _, _ => rfl
  | 1, _, _ => rfl
  | 2, _, _ => rfl
  | 3, _, _ => rfl
  | 4, _, _ => rfl
  | 5, _, _ => rfl
  | 6, _, _ => rfl
  | 7, _, _ => rfl
  | 8, _, _ => rfl
  | 9, _, _ => rfl
  | 10, _, _ => rfl
  | 11, _, _ => rfl
  | _ + 12, _, _ => rfl
theorem spare_iff (x : Ev) : clrI (ev0 x.kind) (fldI x.kind) x = ev0 x.kind ↔ x = onlyV x := by
  have two : ∀ p q, p ≠ q → fieldsL x.kind = [p, q] → (clrI (ev0 x.kind) (fldI x.kind) x = ev0 x.kind ↔ x = onlyV x) := fun p q hpq e => by
    unfold onlyV fldI
    rw [e]
    generalize ev0 x.kind = z
    show setP q z (setP p z x) = z ↔ x = setP q x (setP p x z)
    constructor
    · intro h
      have h2 : setP q x (setP p x (setP q z (setP p z x))) = x := by rw [set_set hpq, set_back, set_back]
      rw [h] at h2
      exact h2.symm
    intro h
    have h2 : setP q z (setP p z (setP q x (setP p x z))) = z := by rw [set_set hpq, set_back, set_back]
    rw [← h] at h2
    exact h2
  rcases fields_len x.kind with e | ⟨p, e⟩ | ⟨_, e⟩ | ⟨_, e⟩ | ⟨_, e⟩ | ⟨_, e⟩ | ⟨_, e⟩ | ⟨_, e⟩
  · unfold onlyV fldI
    rw [e]
    exact Iff.rfl
  · unfold onlyV fldI
    rw [e]
    generalize ev0 x.kind = z
    show setP p z x = z ↔ x = setP p x z
    constructor
    · intro h
      have h2 := set_back p x z
      rw [h] at h2
      exact h2.symm
    intro h
    have h2 := set_back p z x
    rw [← h] at h2
    exact h2
  · exact two _ _ (by decide) e
  · exact two _ _ (by decide) e
  · exact two _ _ (by decide) e
  · exact two _ _ (by decide) e
  · exact two _ _ (by decide) e
  exact two _ _ (by decide) e
theorem le_rs (y : Ev) : RL Le1 [evC y (.v (.slice none 0 0)) (.ro (y.ops.map Op.av))].flatten [({ y with reports := [] } : Ev).av].flatten := by
  repeat (first | exact RL.nil | refine RL.cons Le1.same ?_ | refine RL.cons Le1.nil ?_)
theorem le_os (y : Ev) : RL Le1 [evC y (.ro (y.reports.map Report.av)) (.v (.slice none 0 0))].flatten [({ y with ops := [] } : Ev).av].flatten := by
  repeat (first | exact RL.nil | refine RL.cons Le1.same ?_ | refine RL.cons Le1.nil ?_)
theorem le_ev0 (k : Int) : RL Le1 (evC (ev0 k) (.v (.slice none 0 0)) (.v (.slice none 0 0))) (ev0 k).av := by
  repeat (first | exact RL.nil | refine RL.cons Le1.same ?_ | refine RL.cons Le1.nil ?_)
theorem clr_len (z : Ev) (hz : z.reports = [] ∧ z.ops = []) : ∀ (l : List Int) (x : Ev), (clrI z l x).reports.length ≤ x.reports.length ∧ (clrI z l x).ops.length ≤ x.ops.length
  | [], _ => ⟨Nat.le_refl _, Nat.le_refl _⟩
  | p :: l, x => by
    have h := clr_len z hz l (setP p.toNat z x)
    have h2 : (setP p.toNat z x).reports.length ≤ x.reports.length ∧ (setP p.toNat z x).ops.length ≤ x.ops.length := by
      unfold setP
      split <;> simp [hz.1, hz.2]
    exact ⟨Nat.le_trans h.1 h2.1, Nat.le_trans h.2 h2.2⟩
set_option maxHeartbeats 8000000 in
theorem C38r {x : Ev} (hk : 1 ≤ x.kind ∧ x.kind ≤ 14) (h1 : x.reports.length ≤ 1000000) (h2 : x.ops.length ≤ 1000000) : Fn Tryd.prog 38 [] [.agg x.av] [.v (.bool (sameB (clrI (ev0 x.kind) (fldI x.kind) x) (ev0 x.kind)))] [] := by
  refine Spec.body Tryd.func38 rfl Tryd.ntmps38 (by simp) rfl ?_; intro S0 own0 v0 w0 gl
  (refine AW.seq_k ?_; intro K hK)
  refine AW.region ?_
  refine awJ (op_box rfl rfl rfl sz35 rfl) ?_; (simp only [nA, Nat.reduceBEq, Nat.reduceEqDiff, ↓reduceIte])
  refine awP (op_assign rfl rfl) ?_
  refine AWL.nil ?_
  (refine hK _ ?_; clear hK K; (try simp only [nA, Nat.reduceBEq, Nat.reduceEqDiff, ↓reduceIte, Nat.reduceAdd, Nat.reduceSub]))
  (refine AW.seq_k ?_; intro K hK)
  (refine AW.seq_k ?_; intro K hK)
  refine AW.region ?_
  (refine awP (op_fa_ptr rfl rfl rfl fl35_0 (by exact sz3) (by decide) rfl) ?_)
  (refine awR (op_load_ptr1 rfl rfl rfl rfl ag3 rfl rfl) ?_)
  refine awP (op_ia_glob x.kind.toNat rfl rfl Tryd.underlying79 (by omega) (fldI_row hk) (by exact sz78)) ?_
  (refine awR (op_load_rop1 rfl rfl ag78) ?_)
  refine awP (op_len_ro (n := (fldI x.kind).length) rfl rfl Tryd.underlying78 (.inr (.inl ⟨_, rfl, by simp⟩))) ?_
  refine awP (op_move rfl rfl) ?_
  refine AWL.nil ?_
  (refine hK _ ?_; clear hK K; (try simp only [nA, Nat.reduceBEq, Nat.reduceEqDiff, ↓reduceIte, Nat.reduceAdd, Nat.reduceSub]))
  refine AW.block ?_
  refine AW.loopI (fun (q : Nat × Ev) => [(1, .ptr 0 1 0 0), (8, .ro ((fldI x.kind).map fun n => [.v (.int .i64 n)])), (9, .v (.int .i64 (fldI x.kind).length)), (10, .v (.int .i64 (q.1 : Nat)))]) (fun q => ⟨[(1, .own 35 [q.2.av])], 2⟩) (fun q => q.1 ≤ (fldI x.kind).length ∧ q.2 = clrI (ev0 x.kind) ((fldI x.kind).take q.1) x) (fun q => (fldI x.kind).length - q.1) (0, x) ⟨by simp, rfl⟩ ⟨rfl, rfl, rfl, rfl, trivial⟩ rfl ?_; rintro ⟨i, y⟩ ρ ⟨hi, hy⟩; dsimp only at hi hy ⊢; simp only [updL]; have hyk : y.kind = x.kind := (by rw [hy]; exact clr_kind _ _ _); have hyl := clr_len (ev0 x.kind) ⟨rfl, rfl⟩ ((fldI x.kind).take i) x; rw [← hy] at hyl
  (refine AW.seq_k ?_; intro K hK)
  refine AW.region ?_
  refine awP (op_lss rfl rfl rfl) ?_
  refine AWL.nil ?_
  (refine hK _ ?_; clear hK K; (try simp only [nA, Nat.reduceBEq, Nat.reduceEqDiff, ↓reduceIte, Nat.reduceAdd, Nat.reduceSub]))
  (refine AW.seq_k ?_; intro K hK)
  refine AW.cond rfl rfl rfl (fun hc => ?_) (fun hc => ?_)
  ·
   have hc1 := hc; have hlt : i < (fldI x.kind).length := (by simpa using hc1); have hpb := fldI_bd hlt; have hfl := fldI_len x.kind
   refine AW.skip ?_
   (refine hK _ ?_; clear hK K; (skip))
   (refine AW.seq_k ?_; intro K hK)
   refine AW.block ?_
   (refine AW.seq_k ?_; intro K hK)
   refine AW.region ?_
   refine awP (op_ia_ro i rfl (.inl rfl) rfl Tryd.underlying78 rfl (get_mapD (by omega)) (by exact sz80) (bl rfl)) ?_
   (refine awR (op_load_rop1 rfl rfl ag80) ?_)
   refine awP (op_assign rfl rfl) ?_
   refine AWL.nil ?_
   (refine hK _ ?_; clear hK K; (simp only [nA]))
   (refine AW.seq_k ?_; intro K hK)
   refine AW.region ?_
   refine awP (op_move rfl rfl) ?_
   refine AWL.nil ?_
   (refine hK _ ?_; clear hK K; (simp only [nA]))
   refine AW.block ?_
   (refine AW.seq_k ?_; intro K hK)
   refine AW.region ?_
   (refine awP (op_eql rfl rfl rfl) ?_)
   refine awP (op_assign rfl rfl) ?_
   refine AWL.nil ?_
   (refine hK _ ?_; clear hK K; (simp only [nA]))
   refine AW.cond rfl rfl rfl (fun hc => ?_) (fun hc => ?_)
   ·
    have hc2 := hc; have hp : (fldI x.kind).getD i default = 0 := (by simpa using hc2)
    refine AW.region ?_
    (refine awP (op_fa_ptr rfl rfl rfl fl35_1 (by exact sz3) (by decide) rfl) ?_)
    refine awJ (op_store rfl rfl rfl rfl rfl rfl sz3 rfl (bl rfl) rfl) ?_; (try simp only [nA, Nat.reduceBEq, Nat.reduceEqDiff, ↓reduceIte, Nat.reduceAdd, Nat.reduceSub])
    refine AWL.nil ?_
    (try simp only [thenE, inBlk, Nat.reduceEqDiff, ↓reduceIte])
    (try simp only [thenE, inBlk, Nat.reduceEqDiff, ↓reduceIte])
    (refine hK _ ?_; clear hK K; (skip))
    refine AW.region ?_
    (refine awP (op_addi rfl rfl rfl (by omega)) ?_)
    refine awP (op_move rfl rfl) ?_
    skip
    refine AWL.nil ?_
    refine ⟨(i + 1, setP 0 (ev0 x.kind) y), ⟨by dsimp only; omega, clr_step hlt hy hp⟩, by dsimp only; omega, ⟨rfl, rfl, rfl, by dsimp only; exact congrArg (fun z => AV.v (.int .i64 z)) (by omega), trivial⟩, (by rfl), (by rfl)⟩
   have hc2 := hc
   (refine AW.seq_k ?_; intro K hK)
   refine AW.region ?_
   (refine awP (op_eql rfl rfl rfl) ?_)
   refine awP (op_assign rfl rfl) ?_
   refine AWL.nil ?_
   (refine hK _ ?_; clear hK K; (simp only [nA]))
   refine AW.cond rfl rfl rfl (fun hc => ?_) (fun hc => ?_)
   ·
    have hc3 := hc; have hp : (fldI x.kind).getD i default = 1 := (by simpa using hc3)
    refine AW.region ?_
    (refine awP (op_fa_ptr rfl rfl rfl fl35_2 (by exact sz9) (by decide) rfl) ?_)
    refine awJ (op_store rfl rfl rfl rfl rfl rfl sz9 rfl (bl rfl) rfl) ?_; (try simp only [nA, Nat.reduceBEq, Nat.reduceEqDiff, ↓reduceIte, Nat.reduceAdd, Nat.reduceSub])
    refine AWL.nil ?_
    (try simp only [thenE, inBlk, Nat.reduceEqDiff, ↓reduceIte])
    (try simp only [thenE, inBlk, Nat.reduceEqDiff, ↓reduceIte])
    (refine hK _ ?_; clear hK K; (skip))
    refine AW.region ?_
    (refine awP (op_addi rfl rfl rfl (by omega)) ?_)
    refine awP (op_move rfl rfl) ?_
    skip
    refine AWL.nil ?_
    refine ⟨(i + 1, setP 1 (ev0 x.kind) y), ⟨by dsimp only; omega, clr_step hlt hy hp⟩, by dsimp only; omega, ⟨rfl, rfl, rfl, by dsimp only; exact congrArg (fun z => AV.v (.int .i64 z)) (by omega), trivial⟩, (by rfl), (by rfl)⟩
   have hc3 := hc
   (refine AW.seq_k ?_; intro K hK)
   refine AW.region ?_
   (refine awP (op_eql rfl rfl rfl) ?_)
   refine awP (op_assign rfl rfl) ?_
   refine AWL.nil ?_
   (refine hK _ ?_; clear hK K; (simp only [nA]))
   refine AW.cond rfl rfl rfl (fun hc => ?_) (fun hc => ?_)
   ·
    have hc4 := hc; have hp : (fldI x.kind).getD i default = 2 := (by simpa using hc4)
    refine AW.region ?_
    refine awP (op_build2 (xs := [.v (.int .i64 0), .v (.int .i64 0), .v (.int .i64 0)]) rfl pl23 ze23 [] rfl rfl rfl) ?_
    (refine awP (op_fa_ptr rfl rfl rfl fl35_3 (by exact sz23) (by decide) rfl) ?_)
    refine awJ (op_store rfl rfl rfl rfl rfl rfl sz23 rfl (bl rfl) rfl) ?_; (try simp only [nA, Nat.reduceBEq, Nat.reduceEqDiff, ↓reduceIte, Nat.reduceAdd, Nat.reduceSub])
    refine AWL.nil ?_
    (try simp only [thenE, inBlk, Nat.reduceEqDiff, ↓reduceIte])
    (try simp only [thenE, inBlk, Nat.reduceEqDiff, ↓reduceIte])
    (refine hK _ ?_; clear hK K; (skip))
    refine AW.region ?_
    (refine awP (op_addi rfl rfl rfl (by omega)) ?_)
    refine awP (op_move rfl rfl) ?_
    skip
    refine AWL.nil ?_
    refine ⟨(i + 1, setP 2 (ev0 x.kind) y), ⟨by dsimp only; omega, clr_step hlt hy hp⟩, by dsimp only; omega, ⟨rfl, rfl, rfl, by dsimp only; exact congrArg (fun z => AV.v (.int .i64 z)) (by omega), trivial⟩, (by rfl), (by rfl)⟩
   have hc4 := hc
   (refine AW.seq_k ?_; intro K hK)
   refine AW.region ?_
   (refine awP (op_eql rfl rfl rfl) ?_)
   refine awP (op_assign rfl rfl) ?_
   refine AWL.nil ?_
   (refine hK _ ?_; clear hK K; (simp only [nA]))
   refine AW.cond rfl rfl rfl (fun hc => ?_) (fun hc => ?_)
   ·
    have hc5 := hc; have hp : (fldI x.kind).getD i default = 3 := (by simpa using hc5)
    refine AW.region ?_
    (refine awP (op_fa_ptr rfl rfl rfl fl35_4 (by exact sz3) (by decide) rfl) ?_)
    refine awJ (op_store rfl rfl rfl rfl rfl rfl sz3 rfl (bl rfl) rfl) ?_; (try simp only [nA, Nat.reduceBEq, Nat.reduceEqDiff, ↓reduceIte, Nat.reduceAdd, Nat.reduceSub])
    refine AWL.nil ?_
    (try simp only [thenE, inBlk, Nat.reduceEqDiff, ↓reduceIte])
    (try simp only [thenE, inBlk, Nat.reduceEqDiff, ↓reduceIte])
    (refine hK _ ?_; clear hK K; (skip))
    refine AW.region ?_
    (refine awP (op_addi rfl rfl rfl (by omega)) ?_)
    refine awP (op_move rfl rfl) ?_
    skip
    refine AWL.nil ?_
    refine ⟨(i + 1, setP 3 (ev0 x.kind) y), ⟨by dsimp only; omega, clr_step hlt hy hp⟩, by dsimp only; omega, ⟨rfl, rfl, rfl, by dsimp only; exact congrArg (fun z => AV.v (.int .i64 z)) (by omega), trivial⟩, (by rfl), (by rfl)⟩
   have hc5 := hc
   (refine AW.seq_k ?_; intro K hK)
   refine AW.region ?_
   (refine awP (op_eql rfl rfl rfl) ?_)
   refine awP (op_assign rfl rfl) ?_
   refine AWL.nil ?_
   (refine hK _ ?_; clear hK K; (simp only [nA]))
   refine AW.cond rfl rfl rfl (fun hc => ?_) (fun hc => ?_)
   ·
    have hc6 := hc; have hp : (fldI x.kind).getD i default = 4 := (by simpa using hc6)
    refine AW.region ?_
    (refine awP (op_fa_ptr rfl rfl rfl fl35_5 (by exact sz3) (by decide) rfl) ?_)
    refine awJ (op_store rfl rfl rfl rfl rfl rfl sz3 rfl (bl rfl) rfl) ?_; (try simp only [nA, Nat.reduceBEq, Nat.reduceEqDiff, ↓reduceIte, Nat.reduceAdd, Nat.reduceSub])
    refine AWL.nil ?_
    (try simp only [thenE, inBlk, Nat.reduceEqDiff, ↓reduceIte])
    (try simp only [thenE, inBlk, Nat.reduceEqDiff, ↓reduceIte])
    (refine hK _ ?_; clear hK K; (skip))
    refine AW.region ?_
    (refine awP (op_addi rfl rfl rfl (by omega)) ?_)
    refine awP (op_move rfl rfl) ?_
    skip
    refine AWL.nil ?_
    refine ⟨(i + 1, setP 4 (ev0 x.kind) y), ⟨by dsimp only; omega, clr_step hlt hy hp⟩, by dsimp only; omega, ⟨rfl, rfl, rfl, by dsimp only; exact congrArg (fun z => AV.v (.int .i64 z)) (by omega), trivial⟩, (by rfl), (by rfl)⟩
   have hc6 := hc
   (refine AW.seq_k ?_; intro K hK)
   refine AW.region ?_
   (refine awP (op_eql rfl rfl rfl) ?_)
   refine awP (op_assign rfl rfl) ?_
   refine AWL.nil ?_
   (refine hK _ ?_; clear hK K; (simp only [nA]))
   refine AW.cond rfl rfl rfl (fun hc => ?_) (fun hc => ?_)
   ·
    have hc7 := hc; have hp : (fldI x.kind).getD i default = 5 := (by simpa using hc7)
    refine AW.region ?_
    (refine awP (op_fa_ptr rfl rfl rfl fl35_6 (by exact sz4) (by decide) rfl) ?_)
    refine awJ (op_store rfl rfl rfl rfl rfl rfl sz4 rfl (bl rfl) rfl) ?_; (try simp only [nA, Nat.reduceBEq, Nat.reduceEqDiff, ↓reduceIte, Nat.reduceAdd, Nat.reduceSub])
    refine AWL.nil ?_
    (try simp only [thenE, inBlk, Nat.reduceEqDiff, ↓reduceIte])
    (try simp only [thenE, inBlk, Nat.reduceEqDiff, ↓reduceIte])
    (refine hK _ ?_; clear hK K; (skip))
    refine AW.region ?_
    (refine awP (op_addi rfl rfl rfl (by omega)) ?_)
    refine awP (op_move rfl rfl) ?_
    skip
    refine AWL.nil ?_
    refine ⟨(i + 1, setP 5 (ev0 x.kind) y), ⟨by dsimp only; omega, clr_step hlt hy hp⟩, by dsimp only; omega, ⟨rfl, rfl, rfl, by dsimp only; exact congrArg (fun z => AV.v (.int .i64 z)) (by omega), trivial⟩, (by rfl), (by rfl)⟩
   have hc7 := hc
   (refine AW.seq_k ?_; intro K hK)
   refine AW.region ?_
   (refine awP (op_eql rfl rfl rfl) ?_)
   refine awP (op_assign rfl rfl) ?_
   refine AWL.nil ?_
   (refine hK _ ?_; clear hK K; (simp only [nA]))
   refine AW.cond rfl rfl rfl (fun hc => ?_) (fun hc => ?_)
   ·
    have hc8 := hc; have hp : (fldI x.kind).getD i default = 6 := (by simpa using hc8)
    refine AW.region ?_
    (refine awP (op_fa_ptr rfl rfl rfl fl35_7 (by exact sz24) (by decide) rfl) ?_)
    refine awJ (op_store rfl rfl rfl rfl rfl rfl sz24 rfl (bl rfl) rfl) ?_; (try simp only [nA, Nat.reduceBEq, Nat.reduceEqDiff, ↓reduceIte, Nat.reduceAdd, Nat.reduceSub]); refine AWL.gh (Gh.slot (r := 0) (es' := [({ y with reports := [] } : Ev).av]) rfl rfl (le_rs y)) ?_; (try simp only [nA, Nat.reduceBEq, Nat.reduceEqDiff, ↓reduceIte, Nat.reduceAdd, Nat.reduceSub])
    refine AWL.nil ?_
    (try simp only [thenE, inBlk, Nat.reduceEqDiff, ↓reduceIte])
    (try simp only [thenE, inBlk, Nat.reduceEqDiff, ↓reduceIte])
    (refine hK _ ?_; clear hK K; (skip))
    refine AW.region ?_
    (refine awP (op_addi rfl rfl rfl (by omega)) ?_)
    refine awP (op_move rfl rfl) ?_
    skip
    refine AWL.nil ?_
    refine ⟨(i + 1, setP 6 (ev0 x.kind) y), ⟨by dsimp only; omega, clr_step hlt hy hp⟩, by dsimp only; omega, ⟨rfl, rfl, rfl, by dsimp only; exact congrArg (fun z => AV.v (.int .i64 z)) (by omega), trivial⟩, (by rfl), (by rfl)⟩
   have hc8 := hc
   (refine AW.seq_k ?_; intro K hK)
   refine AW.region ?_
   (refine awP (op_eql rfl rfl rfl) ?_)
   refine awP (op_assign rfl rfl) ?_
   refine AWL.nil ?_
   (refine hK _ ?_; clear hK K; (simp only [nA]))
   refine AW.cond rfl rfl rfl (fun hc => ?_) (fun hc => ?_)
   ·
    have hc9 := hc; have hp : (fldI x.kind).getD i default = 7 := (by simpa using hc9)
    refine AW.region ?_
    refine awP (op_build2 (xs := [.v (.int .i64 0), .v (.int .i64 0), .v (.string ⟨#[]⟩), .v (.int .i64 0), .v (.string ⟨#[]⟩), .v (.int .i64 0)]) rfl pl28 ze28 [] rfl rfl rfl) ?_
    (refine awP (op_fa_ptr rfl rfl rfl fl35_8 (by exact sz28) (by decide) rfl) ?_)
    refine awJ (op_store rfl rfl rfl rfl rfl rfl sz28 rfl (bl rfl) rfl) ?_; (try simp only [nA, Nat.reduceBEq, Nat.reduceEqDiff, ↓reduceIte, Nat.reduceAdd, Nat.reduceSub])
    refine AWL.nil ?_
    (try simp only [thenE, inBlk, Nat.reduceEqDiff, ↓reduceIte])
    (try simp only [thenE, inBlk, Nat.reduceEqDiff, ↓reduceIte])
    (refine hK _ ?_; clear hK K; (skip))
    refine AW.region ?_
    (refine awP (op_addi rfl rfl rfl (by omega)) ?_)
    refine awP (op_move rfl rfl) ?_
    skip
    refine AWL.nil ?_
    refine ⟨(i + 1, setP 7 (ev0 x.kind) y), ⟨by dsimp only; omega, clr_step hlt hy hp⟩, by dsimp only; omega, ⟨rfl, rfl, rfl, by dsimp only; exact congrArg (fun z => AV.v (.int .i64 z)) (by omega), trivial⟩, (by rfl), (by rfl)⟩
   have hc9 := hc
   (refine AW.seq_k ?_; intro K hK)
   refine AW.region ?_
   (refine awP (op_eql rfl rfl rfl) ?_)
   refine awP (op_assign rfl rfl) ?_
   refine AWL.nil ?_
   (refine hK _ ?_; clear hK K; (simp only [nA]))
   refine AW.cond rfl rfl rfl (fun hc => ?_) (fun hc => ?_)
   ·
    have hc10 := hc; have hp : (fldI x.kind).getD i default = 8 := (by simpa using hc10)
    refine AW.region ?_
    (refine awP (op_fa_ptr rfl rfl rfl fl35_9 (by exact sz3) (by decide) rfl) ?_)
    refine awJ (op_store rfl rfl rfl rfl rfl rfl sz3 rfl (bl rfl) rfl) ?_; (try simp only [nA, Nat.reduceBEq, Nat.reduceEqDiff, ↓reduceIte, Nat.reduceAdd, Nat.reduceSub])
    refine AWL.nil ?_
    (try simp only [thenE, inBlk, Nat.reduceEqDiff, ↓reduceIte])
    (try simp only [thenE, inBlk, Nat.reduceEqDiff, ↓reduceIte])
    (refine hK _ ?_; clear hK K; (skip))
    refine AW.region ?_
    (refine awP (op_addi rfl rfl rfl (by omega)) ?_)
    refine awP (op_move rfl rfl) ?_
    skip
    refine AWL.nil ?_
    refine ⟨(i + 1, setP 8 (ev0 x.kind) y), ⟨by dsimp only; omega, clr_step hlt hy hp⟩, by dsimp only; omega, ⟨rfl, rfl, rfl, by dsimp only; exact congrArg (fun z => AV.v (.int .i64 z)) (by omega), trivial⟩, (by rfl), (by rfl)⟩
   have hc10 := hc
   (refine AW.seq_k ?_; intro K hK)
   refine AW.region ?_
   (refine awP (op_eql rfl rfl rfl) ?_)
   refine awP (op_assign rfl rfl) ?_
   refine AWL.nil ?_
   (refine hK _ ?_; clear hK K; (simp only [nA]))
   refine AW.cond rfl rfl rfl (fun hc => ?_) (fun hc => ?_)
   ·
    have hc11 := hc; have hp : (fldI x.kind).getD i default = 9 := (by simpa using hc11)
    refine AW.region ?_
    refine awP (op_build2 (xs := [.v (.int .i64 0), .v (.int .i64 0), .v (.int .i64 0), .v (.int .i64 0), .v (.int .i64 0), .v (.int .i64 0), .v (.int .i64 0), .v (.int .i64 0), .v (.int .i64 0), .v (.int .i64 0)]) rfl pl32 ze32 [] rfl rfl rfl) ?_
    (refine awP (op_fa_ptr rfl rfl rfl fl35_10 (by exact sz32) (by decide) rfl) ?_)
    refine awJ (op_store rfl rfl rfl rfl rfl rfl sz32 rfl (bl rfl) rfl) ?_; (try simp only [nA, Nat.reduceBEq, Nat.reduceEqDiff, ↓reduceIte, Nat.reduceAdd, Nat.reduceSub])
    refine AWL.nil ?_
    (try simp only [thenE, inBlk, Nat.reduceEqDiff, ↓reduceIte])
    (try simp only [thenE, inBlk, Nat.reduceEqDiff, ↓reduceIte])
    (refine hK _ ?_; clear hK K; (skip))
    refine AW.region ?_
    (refine awP (op_addi rfl rfl rfl (by omega)) ?_)
    refine awP (op_move rfl rfl) ?_
    skip
    refine AWL.nil ?_
    refine ⟨(i + 1, setP 9 (ev0 x.kind) y), ⟨by dsimp only; omega, clr_step hlt hy hp⟩, by dsimp only; omega, ⟨rfl, rfl, rfl, by dsimp only; exact congrArg (fun z => AV.v (.int .i64 z)) (by omega), trivial⟩, (by rfl), (by rfl)⟩
   have hc11 := hc
   (refine AW.seq_k ?_; intro K hK)
   refine AW.region ?_
   (refine awP (op_eql rfl rfl rfl) ?_)
   refine awP (op_assign rfl rfl) ?_
   refine AWL.nil ?_
   (refine hK _ ?_; clear hK K; (simp only [nA]))
   refine AW.cond rfl rfl rfl (fun hc => ?_) (fun hc => ?_)
   ·
    have hc12 := hc; have hp : (fldI x.kind).getD i default = 10 := (by simpa using hc12)
    refine AW.region ?_
    (refine awP (op_fa_ptr rfl rfl rfl fl35_11 (by exact sz33) (by decide) rfl) ?_)
    refine awJ (op_store rfl rfl rfl rfl rfl rfl sz33 rfl (bl rfl) rfl) ?_; (try simp only [nA, Nat.reduceBEq, Nat.reduceEqDiff, ↓reduceIte, Nat.reduceAdd, Nat.reduceSub]); refine AWL.gh (Gh.slot (r := 0) (es' := [({ y with ops := [] } : Ev).av]) rfl rfl (le_os y)) ?_; (try simp only [nA, Nat.reduceBEq, Nat.reduceEqDiff, ↓reduceIte, Nat.reduceAdd, Nat.reduceSub])
    refine AWL.nil ?_
    (try simp only [thenE, inBlk, Nat.reduceEqDiff, ↓reduceIte])
    (try simp only [thenE, inBlk, Nat.reduceEqDiff, ↓reduceIte])
    (refine hK _ ?_; clear hK K; (skip))
    refine AW.region ?_
    (refine awP (op_addi rfl rfl rfl (by omega)) ?_)
    refine awP (op_move rfl rfl) ?_
    skip
    refine AWL.nil ?_
    refine ⟨(i + 1, setP 10 (ev0 x.kind) y), ⟨by dsimp only; omega, clr_step hlt hy hp⟩, by dsimp only; omega, ⟨rfl, rfl, rfl, by dsimp only; exact congrArg (fun z => AV.v (.int .i64 z)) (by omega), trivial⟩, (by rfl), (by rfl)⟩
   have hc12 := hc
   (refine AW.seq_k ?_; intro K hK)
   refine AW.region ?_
   (refine awP (op_eql rfl rfl rfl) ?_)
   refine awP (op_assign rfl rfl) ?_
   refine AWL.nil ?_
   (refine hK _ ?_; clear hK K; (simp only [nA]))
   refine AW.cond rfl rfl rfl (fun hc => ?_) (fun hc => ?_)
   ·
    have hc13 := hc; have hp : (fldI x.kind).getD i default = 11 := (by simpa using hc13)
    refine AW.region ?_
    refine awP (op_build2 (xs := [.v (.string ⟨#[]⟩), .v (.int .i64 0), .v (.string ⟨#[]⟩), .v (.int .i64 0)]) rfl pl26 ze26 [] rfl rfl rfl) ?_
    (refine awP (op_fa_ptr rfl rfl rfl fl35_12 (by exact sz26) (by decide) rfl) ?_)
    refine awJ (op_store rfl rfl rfl rfl rfl rfl sz26 rfl (bl rfl) rfl) ?_; (try simp only [nA, Nat.reduceBEq, Nat.reduceEqDiff, ↓reduceIte, Nat.reduceAdd, Nat.reduceSub])
    refine AWL.nil ?_
    (try simp only [thenE, inBlk, Nat.reduceEqDiff, ↓reduceIte])
    (try simp only [thenE, inBlk, Nat.reduceEqDiff, ↓reduceIte])
    (refine hK _ ?_; clear hK K; (skip))
    refine AW.region ?_
    (refine awP (op_addi rfl rfl rfl (by omega)) ?_)
    refine awP (op_move rfl rfl) ?_
    skip
    refine AWL.nil ?_
    refine ⟨(i + 1, setP 11 (ev0 x.kind) y), ⟨by dsimp only; omega, clr_step hlt hy hp⟩, by dsimp only; omega, ⟨rfl, rfl, rfl, by dsimp only; exact congrArg (fun z => AV.v (.int .i64 z)) (by omega), trivial⟩, (by rfl), (by rfl)⟩
   have hc13 := hc
   refine AW.skip ?_
   (try simp only [thenE, inBlk, Nat.reduceEqDiff, ↓reduceIte])
   (try simp only [thenE, inBlk, Nat.reduceEqDiff, ↓reduceIte])
   (refine hK _ ?_; clear hK K; (skip))
   refine AW.region ?_
   (refine awP (op_addi rfl rfl rfl (by omega)) ?_)
   refine awP (op_move rfl rfl) ?_
   skip
   refine AWL.nil ?_
   exfalso; simp only [decide_eq_false_iff_not] at hc2 hc3 hc4 hc5 hc6 hc7 hc8 hc9 hc10 hc11 hc12 hc13; omega
  have hc1 := hc; have hnl : ¬ i < (fldI x.kind).length := (by simpa using hc1); rw [List.take_of_length_le (by omega)] at hy
  refine AW.exit ?_; (try simp only [thenE, inBlk, Nat.reduceEqDiff, ↓reduceIte])
  clear hK K
  (refine hK _ ?_; clear hK K; (skip))
  (refine AW.seq_k ?_; intro K hK)
  refine AW.region ?_
  (refine awR (op_load_ptr rfl rfl rfl rfl ag35 sz35 (bl rfl) rfl) ?_)
  (refine awP (op_fa_ptr rfl rfl rfl fl35_0 (by exact sz3) (by decide) rfl) ?_)
  (refine awR (op_load_ptr1 rfl rfl rfl rfl ag3 rfl rfl) ?_)
  refine awP (op_build2 (xs := [_, .v (.int .i64 0), .v (.string ⟨#[]⟩), .v (.int .i64 0), .v (.int .i64 0), .v (.int .i64 0), .v (.int .i64 0), .v (.int .i64 0), .v (.bool false), .v (.slice none 0 0), .v (.int .i64 0), .v (.int .i64 0), .v (.string ⟨#[]⟩), .v (.int .i64 0), .v (.string ⟨#[]⟩), .v (.int .i64 0), .v (.int .i64 0), .v (.int .i64 0), .v (.int .i64 0), .v (.int .i64 0), .v (.int .i64 0), .v (.int .i64 0), .v (.int .i64 0), .v (.int .i64 0), .v (.int .i64 0), .v (.int .i64 0), .v (.int .i64 0), .v (.slice none 0 0), .v (.string ⟨#[]⟩), .v (.int .i64 0), .v (.string ⟨#[]⟩), .v (.int .i64 0)]) rfl pl35 ze35 [(0, [_])] rfl rfl rfl) ?_
  refine AWL.gh (Gh.tmp 59 (cs' := (ev0 y.kind).av) (bl rfl) rfl (le_ev0 _)) ?_; (simp only [nA]); refine awJ (OpQ.j (op_callQ (b := true) rfl en17 (C17 (a := y) (b := ev0 y.kind) (by omega) (by omega)) (RL.cons (by exact View.same rfl) (RL.cons (by exact View.same rfl) (RL.nil))) rfl)) ?_; (try simp only [nA, Nat.reduceBEq, Nat.reduceEqDiff, ↓reduceIte, Nat.reduceAdd, Nat.reduceSub])
  refine awP (op_assign rfl rfl) ?_
  refine AWL.nil ?_
  (refine hK _ ?_; clear hK K; (simp only [nA]))
  skip
  refine AW.ret ?_; (try simp only [thenE, inBlk, Nat.reduceEqDiff, ↓reduceIte]); rw [← hy, ← hyk]; exact RQ.of0 rfl (.tmp (bl rfl) rfl rfl .nil)
set_option maxHeartbeats 8000000 in
theorem C38 {x : Ev} (hk : 1 ≤ x.kind ∧ x.kind ≤ 14) (h1 : x.reports.length ≤ 1000000) (h2 : x.ops.length ≤ 1000000) : Fn Tryd.prog 38 [] [.agg x.av] [.v (.bool (sameB x (onlyV x)))] [] := by
  have e : sameB x (onlyV x) = sameB (clrI (ev0 x.kind) (fldI x.kind) x) (ev0 x.kind) := by
    unfold sameB
    rw [Bool.eq_iff_iff]
    exact (@decide_eq_true_iff _ (Classical.propDecidable _)).trans ((spare_iff x).symm.trans (@decide_eq_true_iff _ (Classical.propDecidable _)).symm)
  rw [e]; exact C38r hk h1 h2
end Go.Proofs.YtfmnaigedgmhoaaDoor
