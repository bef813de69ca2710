import Derived.Test.YtfmnaigedgmhoaaDoorXfe
namespace Go.Proofs.YtfmnaigedgmhoaaDoor
open Go.RowKit
set_option linter.unusedSimpArgs false
set_option linter.unusedVariables false
set_option maxRecDepth 100000
set_option maxHeartbeats 8000000 in
theorem C53v {b0 b1 : BL} {p : Plate} (g0 : Fn Tryd.prog 89 [wB b0] [.ptr 0 0 0 0, .ro (([p.lead, p.airline, p.serial] : List Int).map iv)] [] [wB b1]) : Fn Tryd.prog 53 [wB b0] [.ptr 0 0 0 0, .agg p.av] [] [wB b1] := by
  refine Spec.body Tryd.func53 rfl Tryd.ntmps53 (by simp) rfl ?_; intro S0 own0 v0 w0 gl
  (refine AW.seq_k ?_; intro K hK)
  refine AW.region ?_
  refine awJ (op_box rfl rfl rfl sz23 rfl) ?_; (simp only [nA, Nat.reduceBEq, Nat.reduceEqDiff, ↓reduceIte])
  refine AWL.nil ?_
  (refine hK _ ?_; clear hK K; (try simp only [nA, Nat.reduceBEq, Nat.reduceEqDiff, ↓reduceIte, Nat.reduceAdd, Nat.reduceSub]))
  refine AW.region ?_
  refine awP (op_move rfl rfl) ?_; (simp only [nA, ↓reduceIte])
  (refine awP (op_fa_ptr rfl rfl rfl fl23_0 (by exact sz3) (by decide) rfl) ?_); (try simp only [nA, Nat.reduceBEq, Nat.reduceEqDiff, ↓reduceIte, Nat.reduceAdd, Nat.reduceSub])
  (refine awR (op_load_ptr1 rfl rfl rfl rfl ag3 rfl rfl) ?_); (try simp only [nA, Nat.reduceBEq, Nat.reduceEqDiff, ↓reduceIte, Nat.reduceAdd, Nat.reduceSub])
  (refine awP (op_fa_ptr rfl rfl rfl fl23_1 (by exact sz3) (by decide) rfl) ?_); (try simp only [nA, Nat.reduceBEq, Nat.reduceEqDiff, ↓reduceIte, Nat.reduceAdd, Nat.reduceSub])
  (refine awR (op_load_ptr1 rfl rfl rfl rfl ag3 rfl rfl) ?_); (try simp only [nA, Nat.reduceBEq, Nat.reduceEqDiff, ↓reduceIte, Nat.reduceAdd, Nat.reduceSub])
  (refine awP (op_fa_ptr rfl rfl rfl fl23_2 (by exact sz3) (by decide) rfl) ?_); (try simp only [nA, Nat.reduceBEq, Nat.reduceEqDiff, ↓reduceIte, Nat.reduceAdd, Nat.reduceSub])
  (refine awR (op_load_ptr1 rfl rfl rfl rfl ag3 rfl rfl) ?_); (try simp only [nA, Nat.reduceBEq, Nat.reduceEqDiff, ↓reduceIte, Nat.reduceAdd, Nat.reduceSub])
  refine awJ (OpJ.frz (op_buildSlice rfl [(0, iv p.lead), (1, iv p.airline), (2, iv p.serial)] (([p.lead, p.airline, p.serial] : List Int).map iv) Tryd.underlying36 ze3 rfl (by simp) (fold_dense 1 (([p.lead, p.airline, p.serial] : List Int).map iv) (iv_len _)) (iv_len _) rfl (bl rfl) (by simp [maxLen])) (iv_flat [p.lead, p.airline, p.serial]) rfl) ?_; (try simp only [nA, Nat.reduceBEq, Nat.reduceEqDiff, ↓reduceIte, Nat.reduceAdd, Nat.reduceSub])
  refine awJ (op_call1 rfl en89 g0 (by exact rfl) (RL.cons .ptr (RL.cons (.base (by exact View.same rfl)) (RL.nil))) (by exact ⟨_, _, _, rfl, rfl, rfl⟩) (by exact rfl) (by exact rfl) (by exact rfl)) ?_; (try simp only [nA, Nat.reduceBEq, Nat.reduceEqDiff, ↓reduceIte, Nat.reduceAdd, Nat.reduceSub])
  refine AWL.nil ?_
  exact RQ.of (.inr rfl) rfl .nil (by simp) rfl (one_out rfl)
set_option maxHeartbeats 8000000 in
theorem C53 {bs : BL} {p : Plate} (hb : bs.length ≤ 900000) : Fn Tryd.prog 53 [wB bs] [.ptr 0 0 0 0, .agg p.av] [] [wB (bs ++ ePl p)] := by
  have e : ([p.lead, p.airline, p.serial] : List Int).flatMap b4 = ePl p := by simp [ePl]
  have h := C89 (bs := bs) (xs := [p.lead, p.airline, p.serial]) hb (by simp)
  rw [e] at h
  exact C53v h
set_option maxHeartbeats 8000000 in
theorem C59v {b0 b1 b2 b3 b4 : BL} {f : Flight} (g0 : Fn Tryd.prog 52 [wB b0] [.ptr 0 0 0 0, .v (.string f.carrier)] [] [wB b1]) (g1 : Fn Tryd.prog 51 [wB b1] [.ptr 0 0 0 0, .v (.int .i64 f.number)] [] [wB b2]) (g2 : Fn Tryd.prog 52 [wB b2] [.ptr 0 0 0 0, .v (.string f.suffix)] [] [wB b3]) (g3 : Fn Tryd.prog 51 [wB b3] [.ptr 0 0 0 0, .v (.int .i64 f.day)] [] [wB b4]) :
    Fn Tryd.prog 59 [wB b0] [.ptr 0 0 0 0, .agg f.av] [] [wB b4] := by
  refine Spec.body Tryd.func59 rfl Tryd.ntmps59 (by simp) rfl ?_; intro S0 own0 v0 w0 gl
  (refine AW.seq_k ?_; intro K hK)
  refine AW.region ?_
  refine awJ (op_box rfl rfl rfl sz26 rfl) ?_; (simp only [nA, Nat.reduceBEq, Nat.reduceEqDiff, ↓reduceIte])
  refine AWL.nil ?_
  (refine hK _ ?_; clear hK K; (try simp only [nA, Nat.reduceBEq, Nat.reduceEqDiff, ↓reduceIte, Nat.reduceAdd, Nat.reduceSub]))
  (refine AW.seq_k ?_; intro K hK)
  refine AW.region ?_
  refine awP (op_move rfl rfl) ?_; (simp only [nA, ↓reduceIte])
  (refine awP (op_fa_ptr rfl rfl rfl fl26_0 (by exact sz9) (by decide) rfl) ?_); (try simp only [nA, Nat.reduceBEq, Nat.reduceEqDiff, ↓reduceIte, Nat.reduceAdd, Nat.reduceSub])
  (refine awR (op_load_ptr1 rfl rfl rfl rfl ag9 rfl rfl) ?_); (try simp only [nA, Nat.reduceBEq, Nat.reduceEqDiff, ↓reduceIte, Nat.reduceAdd, Nat.reduceSub])
  refine awJ (op_call1 rfl en52 g0 (by exact rfl) (RL.cons .ptr (RL.cons (.base (by exact View.same rfl)) (RL.nil))) (by exact ⟨_, _, _, rfl, rfl, rfl⟩) (by exact rfl) (by exact rfl) (by exact rfl)) ?_; (try simp only [nA, Nat.reduceBEq, Nat.reduceEqDiff, ↓reduceIte, Nat.reduceAdd, Nat.reduceSub])
  refine AWL.nil ?_
  (refine hK _ ?_; clear hK K; (skip))
  (refine AW.seq_k ?_; intro K hK)
  refine AW.region ?_
  refine awP (op_move rfl rfl) ?_; (simp only [nA, ↓reduceIte])
  (refine awP (op_fa_ptr rfl rfl rfl fl26_1 (by exact sz3) (by decide) rfl) ?_); (try simp only [nA, Nat.reduceBEq, Nat.reduceEqDiff, ↓reduceIte, Nat.reduceAdd, Nat.reduceSub])
  (refine awR (op_load_ptr1 rfl rfl rfl rfl ag3 rfl rfl) ?_); (try simp only [nA, Nat.reduceBEq, Nat.reduceEqDiff, ↓reduceIte, Nat.reduceAdd, Nat.reduceSub])
  refine awJ (op_call1 rfl en51 g1 (by exact rfl) (RL.cons .ptr (RL.cons (.base (by exact View.same rfl)) (RL.nil))) (by exact ⟨_, _, _, rfl, rfl, rfl⟩) (by exact rfl) (by exact rfl) (by exact rfl)) ?_; (try simp only [nA, Nat.reduceBEq, Nat.reduceEqDiff, ↓reduceIte, Nat.reduceAdd, Nat.reduceSub])
  refine AWL.nil ?_
  (refine hK _ ?_; clear hK K; (skip))
  (refine AW.seq_k ?_; intro K hK)
  refine AW.region ?_
  refine awP (op_move rfl rfl) ?_; (simp only [nA, ↓reduceIte])
  (refine awP (op_fa_ptr rfl rfl rfl fl26_2 (by exact sz9) (by decide) rfl) ?_); (try simp only [nA, Nat.reduceBEq, Nat.reduceEqDiff, ↓reduceIte, Nat.reduceAdd, Nat.reduceSub])
  (refine awR (op_load_ptr1 rfl rfl rfl rfl ag9 rfl rfl) ?_); (try simp only [nA, Nat.reduceBEq, Nat.reduceEqDiff, ↓reduceIte, Nat.reduceAdd, Nat.reduceSub])
  refine awJ (op_call1 rfl en52 g2 (by exact rfl) (RL.cons .ptr (RL.cons (.base (by exact View.same rfl)) (RL.nil))) (by exact ⟨_, _, _, rfl, rfl, rfl⟩) (by exact rfl) (by exact rfl) (by exact rfl)) ?_; (try simp only [nA, Nat.reduceBEq, Nat.reduceEqDiff, ↓reduceIte, Nat.reduceAdd, Nat.reduceSub])
  refine AWL.nil ?_
  (refine hK _ ?_; clear hK K; (skip))
  refine AW.region ?_
  refine awP (op_move rfl rfl) ?_; (simp only [nA, ↓reduceIte])
  (refine awP (op_fa_ptr rfl rfl rfl fl26_3 (by exact sz3) (by decide) rfl) ?_); (try simp only [nA, Nat.reduceBEq, Nat.reduceEqDiff, ↓reduceIte, Nat.reduceAdd, Nat.reduceSub])
  (refine awR (op_load_ptr1 rfl rfl rfl rfl ag3 rfl rfl) ?_); (try simp only [nA, Nat.reduceBEq, Nat.reduceEqDiff, ↓reduceIte, Nat.reduceAdd, Nat.reduceSub])
  refine awJ (op_call1 rfl en51 g3 (by exact rfl) (RL.cons .ptr (RL.cons (.base (by exact View.same rfl)) (RL.nil))) (by exact ⟨_, _, _, rfl, rfl, rfl⟩) (by exact rfl) (by exact rfl) (by exact rfl)) ?_; (try simp only [nA, Nat.reduceBEq, Nat.reduceEqDiff, ↓reduceIte, Nat.reduceAdd, Nat.reduceSub])
  refine AWL.nil ?_
  exact RQ.of (.inr rfl) rfl .nil (by simp) rfl (one_out rfl)
set_option maxHeartbeats 8000000 in
theorem C59 {bs : BL} {f : Flight} (hb : bs.length ≤ 800000) (h1 : f.carrier.size ≤ 1000) (h2 : f.suffix.size ≤ 1000) : Fn Tryd.prog 59 [wB bs] [.ptr 0 0 0 0, .agg f.av] [] [wB (bs ++ eFl f)] := by
  have e : bs ++ eFl f = (((bs ++ eWd f.carrier) ++ b4 f.number) ++ eWd f.suffix) ++ b4 f.day := by simp [eFl]
  have l1 := wd_len f.carrier
  have l2 := wd_len f.suffix
  rw [e]
  exact C59v (C52 (by omega) (by omega)) (C51 (by rw [List.length_append]; omega)) (C52 (by rw [List.length_append, List.length_append, b4_len]; omega) (by omega)) (C51 (by rw [List.length_append, List.length_append, List.length_append, b4_len]; omega))
set_option maxHeartbeats 8000000 in
theorem C57v {b0 b1 b2 b3 : BL} {o : Op} (g0 : Fn Tryd.prog 89 [wB b0] [.ptr 0 0 0 0, .ro (([o.time, o.device, o.seq, o.kind, o.cont] : List Int).map iv)] [] [wB b1]) (g1 : Fn Tryd.prog 53 [wB b1] [.ptr 0 0 0 0, .agg o.piece.plate.av] [] [wB b2])
    (g2 : Fn Tryd.prog 89 [wB b2] [.ptr 0 0 0 0, .ro (([o.piece.weight, o.piece.category] : List Int).map iv)] [] [wB b3]) : Fn Tryd.prog 57 [wB b0] [.ptr 0 0 0 0, .agg o.av] [] [wB b3] := by
  refine Spec.body Tryd.func57 rfl Tryd.ntmps57 (by simp) rfl ?_; intro S0 own0 v0 w0 gl
  (refine AW.seq_k ?_; intro K hK)
  refine AW.region ?_
  refine awJ (op_box rfl rfl rfl sz32 rfl) ?_; (simp only [nA, Nat.reduceBEq, Nat.reduceEqDiff, ↓reduceIte])
  refine AWL.nil ?_
  (refine hK _ ?_; clear hK K; (try simp only [nA, Nat.reduceBEq, Nat.reduceEqDiff, ↓reduceIte, Nat.reduceAdd, Nat.reduceSub]))
  (refine AW.seq_k ?_; intro K hK)
  refine AW.region ?_
  refine awP (op_move rfl rfl) ?_; (simp only [nA, ↓reduceIte])
  (refine awP (op_fa_ptr rfl rfl rfl fl32_0 (by exact sz3) (by decide) rfl) ?_); (try simp only [nA, Nat.reduceBEq, Nat.reduceEqDiff, ↓reduceIte, Nat.reduceAdd, Nat.reduceSub])
  (refine awR (op_load_ptr1 rfl rfl rfl rfl ag3 rfl rfl) ?_); (try simp only [nA, Nat.reduceBEq, Nat.reduceEqDiff, ↓reduceIte, Nat.reduceAdd, Nat.reduceSub])
  (refine awP (op_fa_ptr rfl rfl rfl fl32_1 (by exact sz3) (by decide) rfl) ?_); (try simp only [nA, Nat.reduceBEq, Nat.reduceEqDiff, ↓reduceIte, Nat.reduceAdd, Nat.reduceSub])
  (refine awR (op_load_ptr1 rfl rfl rfl rfl ag3 rfl rfl) ?_); (try simp only [nA, Nat.reduceBEq, Nat.reduceEqDiff, ↓reduceIte, Nat.reduceAdd, Nat.reduceSub])
  (refine awP (op_fa_ptr rfl rfl rfl fl32_2 (by exact sz3) (by decide) rfl) ?_); (try simp only [nA, Nat.reduceBEq, Nat.reduceEqDiff, ↓reduceIte, Nat.reduceAdd, Nat.reduceSub])
  (refine awR (op_load_ptr1 rfl rfl rfl rfl ag3 rfl rfl) ?_); (try simp only [nA, Nat.reduceBEq, Nat.reduceEqDiff, ↓reduceIte, Nat.reduceAdd, Nat.reduceSub])
  (refine awP (op_fa_ptr rfl rfl rfl fl32_3 (by exact sz3) (by decide) rfl) ?_); (try simp only [nA, Nat.reduceBEq, Nat.reduceEqDiff, ↓reduceIte, Nat.reduceAdd, Nat.reduceSub])
  (refine awR (op_load_ptr1 rfl rfl rfl rfl ag3 rfl rfl) ?_); (try simp only [nA, Nat.reduceBEq, Nat.reduceEqDiff, ↓reduceIte, Nat.reduceAdd, Nat.reduceSub])
  (refine awP (op_fa_ptr rfl rfl rfl fl32_4 (by exact sz3) (by decide) rfl) ?_); (try simp only [nA, Nat.reduceBEq, Nat.reduceEqDiff, ↓reduceIte, Nat.reduceAdd, Nat.reduceSub])
  (refine awR (op_load_ptr1 rfl rfl rfl rfl ag3 rfl rfl) ?_); (try simp only [nA, Nat.reduceBEq, Nat.reduceEqDiff, ↓reduceIte, Nat.reduceAdd, Nat.reduceSub])
  refine awJ (OpJ.frz (op_buildSlice rfl [(0, iv o.time), (1, iv o.device), (2, iv o.seq), (3, iv o.kind), (4, iv o.cont)] (([o.time, o.device, o.seq, o.kind, o.cont] : List Int).map iv) Tryd.underlying36 ze3 rfl (by simp) (fold_dense 1 (([o.time, o.device, o.seq, o.kind, o.cont] : List Int).map iv) (iv_len _)) (iv_len _) rfl (bl rfl) (by simp [maxLen])) (iv_flat [o.time, o.device, o.seq, o.kind, o.cont]) rfl) ?_; (try simp only [nA, Nat.reduceBEq, Nat.reduceEqDiff, ↓reduceIte, Nat.reduceAdd, Nat.reduceSub])
  refine awJ (op_call1 rfl en89 g0 (by exact rfl) (RL.cons .ptr (RL.cons (.base (by exact View.same rfl)) (RL.nil))) (by exact ⟨_, _, _, rfl, rfl, rfl⟩) (by exact rfl) (by exact rfl) (by exact rfl)) ?_; (try simp only [nA, Nat.reduceBEq, Nat.reduceEqDiff, ↓reduceIte, Nat.reduceAdd, Nat.reduceSub])
  refine AWL.nil ?_
  (refine hK _ ?_; clear hK K; (skip))
  (refine AW.seq_k ?_; intro K hK)
  refine AW.region ?_
  refine awP (op_move rfl rfl) ?_; (simp only [nA, ↓reduceIte])
  (refine awP (op_fa_ptr rfl rfl rfl fl32_5 (by exact sz30) (by decide) rfl) ?_); (try simp only [nA, Nat.reduceBEq, Nat.reduceEqDiff, ↓reduceIte, Nat.reduceAdd, Nat.reduceSub])
  (refine awP (op_fa_ptr rfl rfl rfl fl30_0 (by exact sz23) (by decide) rfl) ?_); (simp only [nA, Nat.reduceBEq, Nat.reduceEqDiff, ↓reduceIte])
  (refine awR (op_load_ptr rfl rfl rfl rfl ag23 sz23 (bl rfl) rfl) ?_); (try simp only [nA, Nat.reduceBEq, Nat.reduceEqDiff, ↓reduceIte, Nat.reduceAdd, Nat.reduceSub])
  refine awJ (op_call1 rfl en53 g1 (by exact rfl) (RL.cons .ptr (RL.cons (.base (by exact View.same rfl)) (RL.nil))) (by exact ⟨_, _, _, rfl, rfl, rfl⟩) (by exact rfl) (by exact rfl) (by exact rfl)) ?_; (try simp only [nA, Nat.reduceBEq, Nat.reduceEqDiff, ↓reduceIte, Nat.reduceAdd, Nat.reduceSub])
  refine AWL.nil ?_
  (refine hK _ ?_; clear hK K; (skip))
  refine AW.region ?_
  refine awP (op_move rfl rfl) ?_; (simp only [nA, ↓reduceIte])
  (refine awP (op_fa_ptr rfl rfl rfl fl32_5 (by exact sz30) (by decide) rfl) ?_); (try simp only [nA, Nat.reduceBEq, Nat.reduceEqDiff, ↓reduceIte, Nat.reduceAdd, Nat.reduceSub])
  (refine awP (op_fa_ptr rfl rfl rfl fl30_1 (by exact sz3) (by decide) rfl) ?_); (simp only [nA, Nat.reduceBEq, Nat.reduceEqDiff, ↓reduceIte])
  (refine awR (op_load_ptr1 rfl rfl rfl rfl ag3 rfl rfl) ?_); (try simp only [nA, Nat.reduceBEq, Nat.reduceEqDiff, ↓reduceIte, Nat.reduceAdd, Nat.reduceSub])
  (refine awP (op_fa_ptr rfl rfl rfl fl32_5 (by exact sz30) (by decide) rfl) ?_); (try simp only [nA, Nat.reduceBEq, Nat.reduceEqDiff, ↓reduceIte, Nat.reduceAdd, Nat.reduceSub])
  (refine awP (op_fa_ptr rfl rfl rfl fl30_2 (by exact sz3) (by decide) rfl) ?_); (simp only [nA, Nat.reduceBEq, Nat.reduceEqDiff, ↓reduceIte])
  (refine awR (op_load_ptr1 rfl rfl rfl rfl ag3 rfl rfl) ?_); (try simp only [nA, Nat.reduceBEq, Nat.reduceEqDiff, ↓reduceIte, Nat.reduceAdd, Nat.reduceSub])
  refine awJ (OpJ.frz (op_buildSlice rfl [(0, iv o.piece.weight), (1, iv o.piece.category)] (([o.piece.weight, o.piece.category] : List Int).map iv) Tryd.underlying36 ze3 rfl (by simp) (fold_dense 1 (([o.piece.weight, o.piece.category] : List Int).map iv) (iv_len _)) (iv_len _) rfl (bl rfl) (by simp [maxLen])) (iv_flat [o.piece.weight, o.piece.category]) rfl) ?_; (try simp only [nA, Nat.reduceBEq, Nat.reduceEqDiff, ↓reduceIte, Nat.reduceAdd, Nat.reduceSub])
  refine awJ (op_call1 rfl en89 g2 (by exact rfl) (RL.cons .ptr (RL.cons (.base (by exact View.same rfl)) (RL.nil))) (by exact ⟨_, _, _, rfl, rfl, rfl⟩) (by exact rfl) (by exact rfl) (by exact rfl)) ?_; (try simp only [nA, Nat.reduceBEq, Nat.reduceEqDiff, ↓reduceIte, Nat.reduceAdd, Nat.reduceSub])
  refine AWL.nil ?_
  exact RQ.of (.inr rfl) rfl .nil (by simp) rfl (one_out rfl)
set_option maxHeartbeats 8000000 in
theorem C57 {bs : BL} {o : Op} (hb : bs.length ≤ 800000) : Fn Tryd.prog 57 [wB bs] [.ptr 0 0 0 0, .agg o.av] [] [wB (bs ++ eOp o)] := by
  have e : bs ++ eOp o = ((bs ++ ([o.time, o.device, o.seq, o.kind, o.cont] : List Int).flatMap b4) ++ ePl o.piece.plate) ++ ([o.piece.weight, o.piece.category] : List Int).flatMap b4 := by simp [eOp, ePi]
  have l1 := flat_b4 [o.time, o.device, o.seq, o.kind, o.cont]
  have l2 := pl_len o.piece.plate
  simp only [List.length_cons, List.length_nil] at l1
  rw [e]
  exact C57v (C89 (by omega) (by simp)) (C53 (by rw [List.length_append, l1]; omega)) (C89 (by rw [List.length_append, List.length_append, l1, l2]; omega) (by simp))
set_option maxHeartbeats 8000000 in
theorem C56v {b0 b1 b2 : BL} {x : Ev} (g0 : Fn Tryd.prog 89 [wB b0] [.ptr 0 0 0 0, .ro (([x.rev.kind, x.rev.amount] : List Int).map iv)] [] [wB b1]) (g1 : Fn Tryd.prog 59 [wB b1] [.ptr 0 0 0 0, .agg x.rev.fl.av] [] [wB b2]) : Fn Tryd.prog 56 [wB b0] [.ptr 0 0 0 0, .agg x.av] [] [wB b2] := by
  refine Spec.body Tryd.func56 rfl Tryd.ntmps56 (by simp) rfl ?_; intro S0 own0 v0 w0 gl
  (refine AW.seq_k ?_; intro K hK)
  refine AW.region ?_
  refine awJ (op_box rfl rfl rfl sz35 rfl) ?_; (simp only [nA, Nat.reduceBEq, Nat.reduceEqDiff, ↓reduceIte])
  refine AWL.nil ?_
  (refine hK _ ?_; clear hK K; (try simp only [nA, Nat.reduceBEq, Nat.reduceEqDiff, ↓reduceIte, Nat.reduceAdd, Nat.reduceSub]))
  (refine AW.seq_k ?_; intro K hK)
  refine AW.region ?_
  refine awP (op_move rfl rfl) ?_; (simp only [nA, ↓reduceIte])
  (refine awP (op_fa_ptr rfl rfl rfl fl35_8 (by exact sz28) (by decide) rfl) ?_); (try simp only [nA, Nat.reduceBEq, Nat.reduceEqDiff, ↓reduceIte, Nat.reduceAdd, Nat.reduceSub])
  (refine awP (op_fa_ptr rfl rfl rfl fl28_0 (by exact sz3) (by decide) rfl) ?_); (simp only [nA, Nat.reduceBEq, Nat.reduceEqDiff, ↓reduceIte])
  (refine awR (op_load_ptr1 rfl rfl rfl rfl ag3 rfl rfl) ?_); (try simp only [nA, Nat.reduceBEq, Nat.reduceEqDiff, ↓reduceIte, Nat.reduceAdd, Nat.reduceSub])
  (refine awP (op_fa_ptr rfl rfl rfl fl35_8 (by exact sz28) (by decide) rfl) ?_); (try simp only [nA, Nat.reduceBEq, Nat.reduceEqDiff, ↓reduceIte, Nat.reduceAdd, Nat.reduceSub])
  (refine awP (op_fa_ptr rfl rfl rfl fl28_1 (by exact sz3) (by decide) rfl) ?_); (simp only [nA, Nat.reduceBEq, Nat.reduceEqDiff, ↓reduceIte])
  (refine awR (op_load_ptr1 rfl rfl rfl rfl ag3 rfl rfl) ?_); (try simp only [nA, Nat.reduceBEq, Nat.reduceEqDiff, ↓reduceIte, Nat.reduceAdd, Nat.reduceSub])
  refine awJ (OpJ.frz (op_buildSlice rfl [(0, iv x.rev.kind), (1, iv x.rev.amount)] (([x.rev.kind, x.rev.amount] : List Int).map iv) Tryd.underlying36 ze3 rfl (by simp) (fold_dense 1 (([x.rev.kind, x.rev.amount] : List Int).map iv) (iv_len _)) (iv_len _) rfl (bl rfl) (by simp [maxLen])) (iv_flat [x.rev.kind, x.rev.amount]) rfl) ?_; (try simp only [nA, Nat.reduceBEq, Nat.reduceEqDiff, ↓reduceIte, Nat.reduceAdd, Nat.reduceSub])
  refine awJ (op_call1 rfl en89 g0 (by exact rfl) (RL.cons .ptr (RL.cons (.base (by exact View.same rfl)) (RL.nil))) (by exact ⟨_, _, _, rfl, rfl, rfl⟩) (by exact rfl) (by exact rfl) (by exact rfl)) ?_; (try simp only [nA, Nat.reduceBEq, Nat.reduceEqDiff, ↓reduceIte, Nat.reduceAdd, Nat.reduceSub])
  refine AWL.nil ?_
  (refine hK _ ?_; clear hK K; (skip))
  refine AW.region ?_
  refine awP (op_move rfl rfl) ?_; (simp only [nA, ↓reduceIte])
  (refine awP (op_fa_ptr rfl rfl rfl fl35_8 (by exact sz28) (by decide) rfl) ?_); (try simp only [nA, Nat.reduceBEq, Nat.reduceEqDiff, ↓reduceIte, Nat.reduceAdd, Nat.reduceSub])
  (refine awP (op_fa_ptr rfl rfl rfl fl28_2 (by exact sz26) (by decide) rfl) ?_); (simp only [nA, Nat.reduceBEq, Nat.reduceEqDiff, ↓reduceIte])
  (refine awR (op_load_ptr rfl rfl rfl rfl ag26 sz26 (bl rfl) rfl) ?_); (try simp only [nA, Nat.reduceBEq, Nat.reduceEqDiff, ↓reduceIte, Nat.reduceAdd, Nat.reduceSub])
  refine awJ (op_call1 rfl en59 g1 (by exact rfl) (RL.cons .ptr (RL.cons (.base (by exact View.same rfl)) (RL.nil))) (by exact ⟨_, _, _, rfl, rfl, rfl⟩) (by exact rfl) (by exact rfl) (by exact rfl)) ?_; (try simp only [nA, Nat.reduceBEq, Nat.reduceEqDiff, ↓reduceIte, Nat.reduceAdd, Nat.reduceSub])
  refine AWL.nil ?_
  exact RQ.of (.inr rfl) rfl .nil (by simp) rfl (one_out rfl)
set_option maxHeartbeats 8000000 in
theorem C56 {bs : BL} {x : Ev} (hb : bs.length ≤ 700000) (h1 : x.rev.fl.carrier.size ≤ 1000) (h2 : x.rev.fl.suffix.size ≤ 1000) : Fn Tryd.prog 56 [wB bs] [.ptr 0 0 0 0, .agg x.av] [] [wB (bs ++ eRv x.rev)] := by
  have e : bs ++ eRv x.rev = (bs ++ ([x.rev.kind, x.rev.amount] : List Int).flatMap b4) ++ eFl x.rev.fl := by simp [eRv]
  have l1 := flat_b4 [x.rev.kind, x.rev.amount]
  simp only [List.length_cons, List.length_nil] at l1
  rw [e]
  exact C56v (C89 (by omega) (by simp)) (C59 (by rw [List.length_append, l1]; omega) h1 h2)
end Go.Proofs.YtfmnaigedgmhoaaDoor
namespace Go.Proofs.YtfmnaigedgmhoaaDoor
open Go.RowKit
set_option linter.unusedSimpArgs false
set_option linter.unusedVariables false
set_option maxRecDepth 100000
theorem take_flatG {α : Type} [Inhabited α] {e : α → BL} {bs : BL} {xs : List α} {i : Nat} (h : i < xs.length) : (bs ++ (xs.take i).flatMap e) ++ e (xs.getD i default) = bs ++ (xs.take (i + 1)).flatMap e := by
  rw [List.take_add_one, List.getElem?_eq_getElem h, getD_of h, List.flatMap_append, List.append_assoc]
  congr 2
  exact (List.append_nil _).symm
theorem flatTk {α : Type} {e : α → BL} {xs : List α} {k i : Nat} (h : ∀ x ∈ xs, (e x).length ≤ k) : ((xs.take i).flatMap e).length ≤ xs.length * k :=
  Nat.le_trans (flatB_len fun x hx => h x (List.mem_of_mem_take hx)) (Nat.mul_le_mul_right k (by rw [List.length_take]; omega))
set_option maxHeartbeats 8000000 in
theorem C58 {bs : BL} {x : Ev} (hb : bs.length ≤ 10000) (ho : x.ops.length ≤ 60) : Fn Tryd.prog 58 [wB bs] [.ptr 0 0 0 0, .agg x.av] [] [wB (bs ++ eLs eOp x.ops)] := by
  refine Spec.body Tryd.func58 rfl Tryd.ntmps58 (by simp) rfl ?_; intro S0 own0 v0 w0 gl
  (refine AW.seq_k ?_; intro K hK)
  refine AW.region ?_
  refine awJ (op_box rfl rfl rfl sz35 rfl) ?_; (simp only [nA, Nat.reduceBEq, Nat.reduceEqDiff, ↓reduceIte])
  refine AWL.nil ?_
  (refine hK _ ?_; clear hK K; (try simp only [nA, Nat.reduceBEq, Nat.reduceEqDiff, ↓reduceIte, Nat.reduceAdd, Nat.reduceSub]))
  (refine AW.seq_k ?_; intro K hK)
  refine AW.region ?_
  refine awP (op_move rfl rfl) ?_; (simp only [nA, ↓reduceIte])
  (refine awP (op_fa_ptr rfl rfl rfl fl35_11 (by exact sz33) (by decide) rfl) ?_); (try simp only [nA, Nat.reduceBEq, Nat.reduceEqDiff, ↓reduceIte, Nat.reduceAdd, Nat.reduceSub])
  (refine awR (op_load_ptr1 rfl rfl rfl rfl ag33 rfl rfl) ?_); (try simp only [nA, Nat.reduceBEq, Nat.reduceEqDiff, ↓reduceIte, Nat.reduceAdd, Nat.reduceSub])
  refine awP (op_len_ro (n := x.ops.length) rfl rfl Tryd.underlying33 (.inr (.inl ⟨_, rfl, by simp⟩))) ?_; (try simp only [nA, Nat.reduceBEq, Nat.reduceEqDiff, ↓reduceIte, Nat.reduceAdd, Nat.reduceSub])
  refine awJ (op_call1 rfl en51 (C51 (bs := bs) (n := (x.ops.length : Nat)) (by omega)) (by exact rfl) (RL.cons .ptr (RL.cons (.base (by exact View.same rfl)) (RL.nil))) (by exact ⟨_, _, _, rfl, rfl, rfl⟩) (by exact rfl) (by exact rfl) (by exact rfl)) ?_; (try simp only [nA, Nat.reduceBEq, Nat.reduceEqDiff, ↓reduceIte, Nat.reduceAdd, Nat.reduceSub])
  refine AWL.nil ?_
  (refine hK _ ?_; clear hK K; (skip))
  (refine AW.seq_k ?_; intro K hK)
  refine AW.region ?_
  (refine awP (op_fa_ptr rfl rfl rfl fl35_11 (by exact sz33) (by decide) rfl) ?_); (try simp only [nA, Nat.reduceBEq, Nat.reduceEqDiff, ↓reduceIte, Nat.reduceAdd, Nat.reduceSub])
  (refine awR (op_load_ptr1 rfl rfl rfl rfl ag33 rfl rfl) ?_); (try simp only [nA, Nat.reduceBEq, Nat.reduceEqDiff, ↓reduceIte, Nat.reduceAdd, Nat.reduceSub])
  refine awP (op_len_ro (n := x.ops.length) rfl rfl Tryd.underlying33 (.inr (.inl ⟨_, rfl, by simp⟩))) ?_; (try simp only [nA, Nat.reduceBEq, Nat.reduceEqDiff, ↓reduceIte, Nat.reduceAdd, Nat.reduceSub])
  refine awP (op_move rfl rfl) ?_; (try simp only [nA, Nat.reduceBEq, Nat.reduceEqDiff, ↓reduceIte, Nat.reduceAdd, Nat.reduceSub])
  refine AWL.nil ?_
  (refine hK _ ?_; clear hK K; (skip))
  refine AW.block ?_
  refine AW.loopI (fun (q : Nat × Nat) => [(0, .ptr 0 0 0 0), (12, .ro (x.ops.map Op.av)), (13, .v (.int .i64 x.ops.length)), (14, .v (.int .i64 (q.1 : Nat)))]) (fun q => ⟨[(0, wB ((bs ++ b4 (x.ops.length : Nat)) ++ (x.ops.take q.1).flatMap eOp)), (1, .own 35 [x.av])], q.2⟩) (fun q => q.1 ≤ x.ops.length) (fun q => x.ops.length - q.1) (0, 2) (by simp) ⟨rfl, rfl, rfl, rfl, trivial⟩ (by simp) ?_; rintro ⟨i, ep⟩ ρ hi; dsimp only at hi ⊢; simp only [updL]; have hfl := flatTk (xs := x.ops) (e := eOp) (k := 40) (i := i) fun o _ => by rw [op_len]; omega
  (refine AW.seq_k ?_; intro K hK)
  refine AW.region ?_
  refine awP (op_lss rfl rfl rfl) ?_; (try simp only [nA, Nat.reduceBEq, Nat.reduceEqDiff, ↓reduceIte, Nat.reduceAdd, Nat.reduceSub])
  refine AWL.nil ?_
  (refine hK _ ?_; clear hK K; (skip))
  (refine AW.seq_k ?_; intro K hK)
  refine AW.cond rfl rfl rfl (fun hc => ?_) (fun hc => ?_)
  ·
   have hc1 := hc; have hlt : i < x.ops.length := (by simpa using hc1)
   refine AW.skip ?_
   (refine hK _ ?_; clear hK K; (skip))
   (refine AW.seq_k ?_; intro K hK)
   refine AW.block ?_
   (refine AW.seq_k ?_; intro K hK)
   refine AW.region ?_
   refine awP (op_ia_ro i rfl (.inl rfl) rfl Tryd.underlying33 rfl (get_mapD (by omega)) (by exact sz32) (bl rfl)) ?_; (try simp only [nA, Nat.reduceBEq, Nat.reduceEqDiff, ↓reduceIte, Nat.reduceAdd, Nat.reduceSub])
   (refine awR (op_load_rop rfl rfl ag32 sz32 (bl rfl) (by decide) rfl) ?_); (try simp only [nA, Nat.reduceBEq, Nat.reduceEqDiff, ↓reduceIte, Nat.reduceAdd, Nat.reduceSub])
   refine awJ (op_alloc rfl ze32 rfl) ?_; (simp only [nA, Nat.reduceBEq, Nat.reduceEqDiff, ↓reduceIte])
   refine awJ (op_store rfl rfl rfl rfl rfl rfl sz32 rfl (bl rfl) rfl) ?_; (simp only [nA, Nat.reduceBEq, Nat.reduceEqDiff, ↓reduceIte])
   refine AWL.nil ?_
   (refine hK _ ?_; clear hK K; (skip))
   refine AW.region ?_
   refine awP (op_move rfl rfl) ?_; (simp only [nA, ↓reduceIte])
   (refine awR (op_load_ptr rfl rfl rfl rfl ag32 sz32 (bl rfl) rfl) ?_); (try simp only [nA, Nat.reduceBEq, Nat.reduceEqDiff, ↓reduceIte, Nat.reduceAdd, Nat.reduceSub])
   refine awJ (op_call1 rfl en57 (C57 (bs := (bs ++ b4 (x.ops.length : Nat)) ++ (x.ops.take i).flatMap eOp) (o := x.ops.getD i default) (by rw [List.length_append, List.length_append, b4_len]; omega)) (by exact rfl) (RL.cons .ptr (RL.cons (.base (by exact View.same rfl)) (RL.nil))) (by exact ⟨_, _, _, rfl, rfl, rfl⟩) (by exact rfl) (by exact rfl) (by exact rfl)) ?_; (try simp only [nA, Nat.reduceBEq, Nat.reduceEqDiff, ↓reduceIte, Nat.reduceAdd, Nat.reduceSub])
   refine AWL.nil ?_
   (try simp only [thenE, inBlk, Nat.reduceEqDiff, ↓reduceIte])
   (refine hK _ ?_; clear hK K; (skip))
   refine AW.region ?_
   (refine awP (op_addi rfl rfl rfl (by omega)) ?_); (try simp only [nA, Nat.reduceBEq, Nat.reduceEqDiff, ↓reduceIte, Nat.reduceAdd, Nat.reduceSub])
   refine awP (op_move rfl rfl) ?_; (simp only [nA])
   refine AWL.gh (Gh.drop 2) ?_; (try simp only [nA, Nat.reduceBEq, Nat.reduceEqDiff, ↓reduceIte, Nat.reduceAdd, Nat.reduceSub])
   refine AWL.nil ?_
   refine ⟨(i + 1, _), by dsimp only; omega, by dsimp only; omega, ⟨rfl, rfl, rfl, by dsimp only; exact congrArg (fun z => AV.v (.int .i64 z)) (by omega), trivial⟩, congrArg (fun z => (⟨[(0, wB z), (1, .own 35 [x.av])], _⟩ : Sl)) (take_flatG hlt), (by rfl)⟩
  have hc1 := hc; have hnl : ¬ i < x.ops.length := (by simpa using hc1); rw [show x.ops.take i = x.ops from List.take_of_length_le (by omega)]
  refine AW.exit ?_; (try simp only [thenE, inBlk, Nat.reduceEqDiff, ↓reduceIte])
  clear hK K
  show RQ _ _ _ _ _ _; rw [show bs ++ eLs eOp x.ops = (bs ++ b4 (x.ops.length : Nat)) ++ x.ops.flatMap eOp by simp [eLs]]; exact RQ.of (.inr rfl) rfl .nil (by simp) rfl (one_out rfl)
set_option maxHeartbeats 8000000 in
theorem C55 {bs : BL} {x : Ev} (hb : bs.length ≤ 10000) (hr : x.reports.length ≤ 24) (hp : x.reports.all rpB = true) : Fn Tryd.prog 55 [wB bs] [.ptr 0 0 0 0, .agg x.av] [] [wB (bs ++ eLs eRp x.reports)] := by
  refine Spec.body Tryd.func55 rfl Tryd.ntmps55 (by simp) rfl ?_; intro S0 own0 v0 w0 gl
  (refine AW.seq_k ?_; intro K hK)
  refine AW.region ?_
  refine awJ (op_box rfl rfl rfl sz35 rfl) ?_; (simp only [nA, Nat.reduceBEq, Nat.reduceEqDiff, ↓reduceIte])
  refine AWL.nil ?_
  (refine hK _ ?_; clear hK K; (try simp only [nA, Nat.reduceBEq, Nat.reduceEqDiff, ↓reduceIte, Nat.reduceAdd, Nat.reduceSub]))
  (refine AW.seq_k ?_; intro K hK)
  refine AW.region ?_
  refine awP (op_move rfl rfl) ?_; (simp only [nA, ↓reduceIte])
  (refine awP (op_fa_ptr rfl rfl rfl fl35_7 (by exact sz24) (by decide) rfl) ?_); (try simp only [nA, Nat.reduceBEq, Nat.reduceEqDiff, ↓reduceIte, Nat.reduceAdd, Nat.reduceSub])
  (refine awR (op_load_ptr1 rfl rfl rfl rfl ag24 rfl rfl) ?_); (try simp only [nA, Nat.reduceBEq, Nat.reduceEqDiff, ↓reduceIte, Nat.reduceAdd, Nat.reduceSub])
  refine awP (op_len_ro (n := x.reports.length) rfl rfl Tryd.underlying24 (.inr (.inl ⟨_, rfl, by simp⟩))) ?_; (try simp only [nA, Nat.reduceBEq, Nat.reduceEqDiff, ↓reduceIte, Nat.reduceAdd, Nat.reduceSub])
  refine awJ (op_call1 rfl en51 (C51 (bs := bs) (n := (x.reports.length : Nat)) (by omega)) (by exact rfl) (RL.cons .ptr (RL.cons (.base (by exact View.same rfl)) (RL.nil))) (by exact ⟨_, _, _, rfl, rfl, rfl⟩) (by exact rfl) (by exact rfl) (by exact rfl)) ?_; (try simp only [nA, Nat.reduceBEq, Nat.reduceEqDiff, ↓reduceIte, Nat.reduceAdd, Nat.reduceSub])
  refine AWL.nil ?_
  (refine hK _ ?_; clear hK K; (skip))
  (refine AW.seq_k ?_; intro K hK)
  refine AW.region ?_
  (refine awP (op_fa_ptr rfl rfl rfl fl35_7 (by exact sz24) (by decide) rfl) ?_); (try simp only [nA, Nat.reduceBEq, Nat.reduceEqDiff, ↓reduceIte, Nat.reduceAdd, Nat.reduceSub])
  (refine awR (op_load_ptr1 rfl rfl rfl rfl ag24 rfl rfl) ?_); (try simp only [nA, Nat.reduceBEq, Nat.reduceEqDiff, ↓reduceIte, Nat.reduceAdd, Nat.reduceSub])
  refine awP (op_len_ro (n := x.reports.length) rfl rfl Tryd.underlying24 (.inr (.inl ⟨_, rfl, by simp⟩))) ?_; (try simp only [nA, Nat.reduceBEq, Nat.reduceEqDiff, ↓reduceIte, Nat.reduceAdd, Nat.reduceSub])
  refine awP (op_move rfl rfl) ?_; (try simp only [nA, Nat.reduceBEq, Nat.reduceEqDiff, ↓reduceIte, Nat.reduceAdd, Nat.reduceSub])
  refine AWL.nil ?_
  (refine hK _ ?_; clear hK K; (skip))
  refine AW.block ?_
  refine AW.loopI (fun (q : Nat × Nat) => [(0, .ptr 0 0 0 0), (12, .ro (x.reports.map Report.av)), (13, .v (.int .i64 x.reports.length)), (14, .v (.int .i64 (q.1 : Nat)))]) (fun q => ⟨[(0, wB ((bs ++ b4 (x.reports.length : Nat)) ++ (x.reports.take q.1).flatMap eRp)), (1, .own 35 [x.av])], q.2⟩) (fun q => q.1 ≤ x.reports.length) (fun q => x.reports.length - q.1) (0, 2) (by simp) ⟨rfl, rfl, rfl, rfl, trivial⟩ (by simp) ?_; rintro ⟨i, ep⟩ ρ hi; dsimp only at hi ⊢; simp only [updL]; have hfl := flatTk (xs := x.reports) (e := eRp) (k := 19) (i := i) fun r hr => rp_len (List.all_eq_true.1 hp r hr)
  (refine AW.seq_k ?_; intro K hK)
  refine AW.region ?_
  refine awP (op_lss rfl rfl rfl) ?_; (try simp only [nA, Nat.reduceBEq, Nat.reduceEqDiff, ↓reduceIte, Nat.reduceAdd, Nat.reduceSub])
  refine AWL.nil ?_
  (refine hK _ ?_; clear hK K; (skip))
  (refine AW.seq_k ?_; intro K hK)
  refine AW.cond rfl rfl rfl (fun hc => ?_) (fun hc => ?_)
  ·
   have hc1 := hc; have hlt : i < x.reports.length := (by simpa using hc1); have hrd : (x.reports.getD i default).read.size ≤ 10 := (rp_good (List.all_eq_true.1 hp _ (by rw [getD_of hlt]; exact List.getElem_mem hlt))).2; have hcl : (((bs ++ b4 (x.reports.length : Nat)) ++ (x.reports.take i).flatMap eRp)).length ≤ 10000 + 4 + 24 * 19 := (by rw [List.length_append, List.length_append, b4_len]; omega); obtain ⟨rv, hrv⟩ : ∃ rv, rv = (x.reports.getD i default) := ⟨_, rfl⟩; rw [← hrv] at hrd; obtain ⟨cb, hcb⟩ : ∃ cb, cb = ((bs ++ b4 (x.reports.length : Nat)) ++ (x.reports.take i).flatMap eRp) := ⟨_, rfl⟩; rw [← hcb] at hcl; have g0 := C51 (bs := cb) (n := rv.device) (by omega); have g1 := C54 (bs := cb ++ b4 rv.device) (yes := rv.seen) (by rw [List.length_append, b4_len]; omega); have g2 := C52 (bs := (cb ++ b4 rv.device) ++ eTr rv.seen) (s := rv.read) (by rw [List.length_append, List.length_append, b4_len]; show _ + 1 ≤ _; omega) (by omega); generalize hB1 : cb ++ b4 rv.device = B1 at g0 g1 g2; generalize hB2 : B1 ++ eTr rv.seen = B2 at g1 g2; generalize hB3 : B2 ++ eWd rv.read = B3 at g2; have hB : B3 = (bs ++ b4 (x.reports.length : Nat)) ++ (x.reports.take (i + 1)).flatMap eRp := (by rw [← take_flatG hlt, ← hB3, ← hB2, ← hB1, hcb, ← hrv]; simp [eRp]); rw [hcb, hrv] at *
   refine AW.skip ?_
   (refine hK _ ?_; clear hK K; (skip))
   (refine AW.seq_k ?_; intro K hK)
   refine AW.block ?_
   (refine AW.seq_k ?_; intro K hK)
   refine AW.region ?_
   refine awP (op_ia_ro i rfl (.inl rfl) rfl Tryd.underlying24 rfl (get_mapD (by omega)) (by exact sz66) (bl rfl)) ?_; (try simp only [nA, Nat.reduceBEq, Nat.reduceEqDiff, ↓reduceIte, Nat.reduceAdd, Nat.reduceSub])
   (refine awR (op_load_rop rfl rfl ag66 sz66 (bl rfl) (by decide) rfl) ?_); (try simp only [nA, Nat.reduceBEq, Nat.reduceEqDiff, ↓reduceIte, Nat.reduceAdd, Nat.reduceSub])
   refine awJ (op_alloc rfl ze66 rfl) ?_; (simp only [nA, Nat.reduceBEq, Nat.reduceEqDiff, ↓reduceIte])
   refine awJ (op_store rfl rfl rfl rfl rfl rfl sz66 rfl (bl rfl) rfl) ?_; (simp only [nA, Nat.reduceBEq, Nat.reduceEqDiff, ↓reduceIte])
   refine AWL.nil ?_
   (refine hK _ ?_; clear hK K; (skip))
   (refine AW.seq_k ?_; intro K hK)
   refine AW.region ?_
   refine awP (op_move rfl rfl) ?_; (simp only [nA, ↓reduceIte])
   (refine awP (op_fa_ptr rfl rfl rfl fl66_0 (by exact sz3) (by decide) rfl) ?_); (try simp only [nA, Nat.reduceBEq, Nat.reduceEqDiff, ↓reduceIte, Nat.reduceAdd, Nat.reduceSub])
   (refine awR (op_load_ptr1 rfl rfl rfl rfl ag3 rfl rfl) ?_); (try simp only [nA, Nat.reduceBEq, Nat.reduceEqDiff, ↓reduceIte, Nat.reduceAdd, Nat.reduceSub])
   refine awJ (op_call1 rfl en51 g0 (by exact rfl) (RL.cons .ptr (RL.cons (.base (by exact View.same rfl)) (RL.nil))) (by exact ⟨_, _, _, rfl, rfl, rfl⟩) (by exact rfl) (by exact rfl) (by exact rfl)) ?_; (try simp only [nA, Nat.reduceBEq, Nat.reduceEqDiff, ↓reduceIte, Nat.reduceAdd, Nat.reduceSub])
   refine AWL.nil ?_
   (refine hK _ ?_; clear hK K; (skip))
   (refine AW.seq_k ?_; intro K hK)
   refine AW.region ?_
   refine awP (op_move rfl rfl) ?_; (simp only [nA, ↓reduceIte])
   (refine awP (op_fa_ptr rfl rfl rfl fl66_1 (by exact sz4) (by decide) rfl) ?_); (try simp only [nA, Nat.reduceBEq, Nat.reduceEqDiff, ↓reduceIte, Nat.reduceAdd, Nat.reduceSub])
   (refine awR (op_load_ptr1 rfl rfl rfl rfl ag4 rfl rfl) ?_); (try simp only [nA, Nat.reduceBEq, Nat.reduceEqDiff, ↓reduceIte, Nat.reduceAdd, Nat.reduceSub])
   refine awJ (op_call1 rfl en54 g1 (by exact rfl) (RL.cons .ptr (RL.cons (.base (by exact View.same rfl)) (RL.nil))) (by exact ⟨_, _, _, rfl, rfl, rfl⟩) (by exact rfl) (by exact rfl) (by exact rfl)) ?_; (try simp only [nA, Nat.reduceBEq, Nat.reduceEqDiff, ↓reduceIte, Nat.reduceAdd, Nat.reduceSub])
   refine AWL.nil ?_
   (refine hK _ ?_; clear hK K; (skip))
   refine AW.region ?_
   refine awP (op_move rfl rfl) ?_; (simp only [nA, ↓reduceIte])
   (refine awP (op_fa_ptr rfl rfl rfl fl66_2 (by exact sz9) (by decide) rfl) ?_); (try simp only [nA, Nat.reduceBEq, Nat.reduceEqDiff, ↓reduceIte, Nat.reduceAdd, Nat.reduceSub])
   (refine awR (op_load_ptr1 rfl rfl rfl rfl ag9 rfl rfl) ?_); (try simp only [nA, Nat.reduceBEq, Nat.reduceEqDiff, ↓reduceIte, Nat.reduceAdd, Nat.reduceSub])
   refine awJ (op_call1 rfl en52 g2 (by exact rfl) (RL.cons .ptr (RL.cons (.base (by exact View.same rfl)) (RL.nil))) (by exact ⟨_, _, _, rfl, rfl, rfl⟩) (by exact rfl) (by exact rfl) (by exact rfl)) ?_; (try simp only [nA, Nat.reduceBEq, Nat.reduceEqDiff, ↓reduceIte, Nat.reduceAdd, Nat.reduceSub])
   refine AWL.nil ?_
   (try simp only [thenE, inBlk, Nat.reduceEqDiff, ↓reduceIte])
   (refine hK _ ?_; clear hK K; (skip))
   refine AW.region ?_
   (refine awP (op_addi rfl rfl rfl (by omega)) ?_); (try simp only [nA, Nat.reduceBEq, Nat.reduceEqDiff, ↓reduceIte, Nat.reduceAdd, Nat.reduceSub])
   refine awP (op_move rfl rfl) ?_; (simp only [nA])
   refine AWL.gh (Gh.drop 2) ?_; (try simp only [nA, Nat.reduceBEq, Nat.reduceEqDiff, ↓reduceIte, Nat.reduceAdd, Nat.reduceSub])
   refine AWL.nil ?_
   refine ⟨(i + 1, _), by dsimp only; omega, by dsimp only; omega, ⟨rfl, rfl, rfl, by dsimp only; exact congrArg (fun z => AV.v (.int .i64 z)) (by omega), trivial⟩, congrArg (fun z => (⟨[(0, wB z), (1, .own 35 [x.av])], _⟩ : Sl)) hB, (by rfl)⟩
  have hc1 := hc; have hnl : ¬ i < x.reports.length := (by simpa using hc1); rw [show x.reports.take i = x.reports from List.take_of_length_le (by omega)]
  refine AW.exit ?_; (try simp only [thenE, inBlk, Nat.reduceEqDiff, ↓reduceIte])
  clear hK K
  show RQ _ _ _ _ _ _; rw [show bs ++ eLs eRp x.reports = (bs ++ b4 (x.reports.length : Nat)) ++ x.reports.flatMap eRp by simp [eLs]]; exact RQ.of (.inr rfl) rfl .nil (by simp) rfl (one_out rfl)
structure Ev.Wr (x : Ev) (p : Nat) : Prop where
  t : x.text.size ≤ 2048
  r : x.reports.length ≤ 24
  o : x.ops.length ≤ 60
  pr : prB x p = true
theorem ePart_rest {x : Ev} {p : Nat} (h : 12 ≤ p) : ePart x p = [] := by
  obtain ⟨n, rfl⟩ : ∃ n, p = n + 12 := ⟨p - 12, by omega⟩
  rfl
set_option maxHeartbeats 8000000 in
theorem C30 {bs : BL} {x : Ev} {p : Nat} (hb : bs.length ≤ 10000) (hx : x.Wr p) : Fn Tryd.prog 30 [wB bs] [.ptr 0 0 0 0, .agg x.av, .v (.int .i64 (p : Nat))] [] [wB (bs ++ ePart x p)] := by
  refine Spec.body Tryd.func30 rfl Tryd.ntmps30 (by simp) rfl ?_; intro S0 own0 v0 w0 gl
  (refine AW.seq_k ?_; intro K hK)
  refine AW.region ?_
  refine awJ (op_box rfl rfl rfl sz35 rfl) ?_; (simp only [nA, Nat.reduceBEq, Nat.reduceEqDiff, ↓reduceIte])
  refine AWL.nil ?_
  (refine hK _ ?_; clear hK K; (try simp only [nA, Nat.reduceBEq, Nat.reduceEqDiff, ↓reduceIte, Nat.reduceAdd, Nat.reduceSub]))
  (refine AW.seq_k ?_; intro K hK)
  refine AW.region ?_
  refine awP (op_move rfl rfl) ?_; (simp only [nA, ↓reduceIte])
  refine AWL.nil ?_
  (refine hK _ ?_; clear hK K; (skip))
  refine AW.block ?_
  (refine AW.seq_k ?_; intro K hK)
  refine AW.region ?_
  (refine awP (op_eql rfl rfl rfl) ?_); (try simp only [nA, Nat.reduceBEq, Nat.reduceEqDiff, ↓reduceIte, Nat.reduceAdd, Nat.reduceSub])
  refine awP (op_assign rfl rfl) ?_; (simp only [nA])
  refine AWL.nil ?_
  (refine hK _ ?_; clear hK K; (skip))
  refine AW.cond rfl rfl rfl (fun hc => ?_) (fun hc => ?_)
  ·
   have hc1 := hc; obtain rfl : p = 0 := (by have := of_decide_eq_true hc1; omega); have hpr := hx.pr
   refine AW.region ?_
   refine awP (op_move rfl rfl) ?_; (simp only [nA, ↓reduceIte])
   (refine awP (op_fa_ptr rfl rfl rfl fl35_1 (by exact sz3) (by decide) rfl) ?_); (try simp only [nA, Nat.reduceBEq, Nat.reduceEqDiff, ↓reduceIte, Nat.reduceAdd, Nat.reduceSub])
   (refine awR (op_load_ptr1 rfl rfl rfl rfl ag3 rfl rfl) ?_); (try simp only [nA, Nat.reduceBEq, Nat.reduceEqDiff, ↓reduceIte, Nat.reduceAdd, Nat.reduceSub])
   refine awJ (op_call1 rfl en51 (C51 (bs := bs) (n := x.time) (by omega)) (by exact rfl) (RL.cons .ptr (RL.cons (.base (by exact View.same rfl)) (RL.nil))) (by exact ⟨_, _, _, rfl, rfl, rfl⟩) (by exact rfl) (by exact rfl) (by exact rfl)) ?_; (try simp only [nA, Nat.reduceBEq, Nat.reduceEqDiff, ↓reduceIte, Nat.reduceAdd, Nat.reduceSub])
   refine AWL.nil ?_
   (try simp only [thenE, inBlk, Nat.reduceEqDiff, ↓reduceIte])
   exact RQ.of (.inr rfl) rfl .nil (by simp) rfl (one_out rfl)
  have hc1 := hc
  (refine AW.seq_k ?_; intro K hK)
  refine AW.region ?_
  (refine awP (op_eql rfl rfl rfl) ?_); (try simp only [nA, Nat.reduceBEq, Nat.reduceEqDiff, ↓reduceIte, Nat.reduceAdd, Nat.reduceSub])
  refine awP (op_assign rfl rfl) ?_; (simp only [nA])
  refine AWL.nil ?_
  (refine hK _ ?_; clear hK K; (skip))
  refine AW.cond rfl rfl rfl (fun hc => ?_) (fun hc => ?_)
  ·
   have hc2 := hc; obtain rfl : p = 1 := (by have := of_decide_eq_true hc2; omega); have hpr := hx.pr
   refine AW.region ?_
   refine awP (op_move rfl rfl) ?_; (simp only [nA, ↓reduceIte])
   (refine awP (op_fa_ptr rfl rfl rfl fl35_2 (by exact sz9) (by decide) rfl) ?_); (try simp only [nA, Nat.reduceBEq, Nat.reduceEqDiff, ↓reduceIte, Nat.reduceAdd, Nat.reduceSub])
   (refine awR (op_load_ptr1 rfl rfl rfl rfl ag9 rfl rfl) ?_); (try simp only [nA, Nat.reduceBEq, Nat.reduceEqDiff, ↓reduceIte, Nat.reduceAdd, Nat.reduceSub])
   refine awJ (op_call1 rfl en52 (C52 (bs := bs) (s := x.text) (by omega) (by have := hx.t; omega)) (by exact rfl) (RL.cons .ptr (RL.cons (.base (by exact View.same rfl)) (RL.nil))) (by exact ⟨_, _, _, rfl, rfl, rfl⟩) (by exact rfl) (by exact rfl) (by exact rfl)) ?_; (try simp only [nA, Nat.reduceBEq, Nat.reduceEqDiff, ↓reduceIte, Nat.reduceAdd, Nat.reduceSub])
   refine AWL.nil ?_
   (try simp only [thenE, inBlk, Nat.reduceEqDiff, ↓reduceIte])
   exact RQ.of (.inr rfl) rfl .nil (by simp) rfl (one_out rfl)
  have hc2 := hc
  (refine AW.seq_k ?_; intro K hK)
  refine AW.region ?_
  (refine awP (op_eql rfl rfl rfl) ?_); (try simp only [nA, Nat.reduceBEq, Nat.reduceEqDiff, ↓reduceIte, Nat.reduceAdd, Nat.reduceSub])
  refine awP (op_assign rfl rfl) ?_; (simp only [nA])
  refine AWL.nil ?_
  (refine hK _ ?_; clear hK K; (skip))
  refine AW.cond rfl rfl rfl (fun hc => ?_) (fun hc => ?_)
  ·
   have hc3 := hc; obtain rfl : p = 2 := (by have := of_decide_eq_true hc3; omega); have hpr := hx.pr
   refine AW.region ?_
   refine awP (op_move rfl rfl) ?_; (simp only [nA, ↓reduceIte])
   (refine awP (op_fa_ptr rfl rfl rfl fl35_3 (by exact sz23) (by decide) rfl) ?_); (try simp only [nA, Nat.reduceBEq, Nat.reduceEqDiff, ↓reduceIte, Nat.reduceAdd, Nat.reduceSub])
   (refine awR (op_load_ptr rfl rfl rfl rfl ag23 sz23 (bl rfl) rfl) ?_); (try simp only [nA, Nat.reduceBEq, Nat.reduceEqDiff, ↓reduceIte, Nat.reduceAdd, Nat.reduceSub])
   refine awJ (op_call1 rfl en53 (C53 (bs := bs) (p := x.plate) (by omega)) (by exact rfl) (RL.cons .ptr (RL.cons (.base (by exact View.same rfl)) (RL.nil))) (by exact ⟨_, _, _, rfl, rfl, rfl⟩) (by exact rfl) (by exact rfl) (by exact rfl)) ?_; (try simp only [nA, Nat.reduceBEq, Nat.reduceEqDiff, ↓reduceIte, Nat.reduceAdd, Nat.reduceSub])
   refine AWL.nil ?_
   (try simp only [thenE, inBlk, Nat.reduceEqDiff, ↓reduceIte])
   exact RQ.of (.inr rfl) rfl .nil (by simp) rfl (one_out rfl)
  have hc3 := hc
  (refine AW.seq_k ?_; intro K hK)
  refine AW.region ?_
  (refine awP (op_eql rfl rfl rfl) ?_); (try simp only [nA, Nat.reduceBEq, Nat.reduceEqDiff, ↓reduceIte, Nat.reduceAdd, Nat.reduceSub])
  refine awP (op_assign rfl rfl) ?_; (simp only [nA])
  refine AWL.nil ?_
  (refine hK _ ?_; clear hK K; (skip))
  refine AW.cond rfl rfl rfl (fun hc => ?_) (fun hc => ?_)
  ·
   have hc4 := hc; obtain rfl : p = 3 := (by have := of_decide_eq_true hc4; omega); have hpr := hx.pr
   refine AW.region ?_
   refine awP (op_move rfl rfl) ?_; (simp only [nA, ↓reduceIte])
   (refine awP (op_fa_ptr rfl rfl rfl fl35_4 (by exact sz3) (by decide) rfl) ?_); (try simp only [nA, Nat.reduceBEq, Nat.reduceEqDiff, ↓reduceIte, Nat.reduceAdd, Nat.reduceSub])
   (refine awR (op_load_ptr1 rfl rfl rfl rfl ag3 rfl rfl) ?_); (try simp only [nA, Nat.reduceBEq, Nat.reduceEqDiff, ↓reduceIte, Nat.reduceAdd, Nat.reduceSub])
   refine awJ (op_call1 rfl en51 (C51 (bs := bs) (n := x.node) (by omega)) (by exact rfl) (RL.cons .ptr (RL.cons (.base (by exact View.same rfl)) (RL.nil))) (by exact ⟨_, _, _, rfl, rfl, rfl⟩) (by exact rfl) (by exact rfl) (by exact rfl)) ?_; (try simp only [nA, Nat.reduceBEq, Nat.reduceEqDiff, ↓reduceIte, Nat.reduceAdd, Nat.reduceSub])
   refine AWL.nil ?_
   (try simp only [thenE, inBlk, Nat.reduceEqDiff, ↓reduceIte])
   exact RQ.of (.inr rfl) rfl .nil (by simp) rfl (one_out rfl)
  have hc4 := hc
  (refine AW.seq_k ?_; intro K hK)
  refine AW.region ?_
  (refine awP (op_eql rfl rfl rfl) ?_); (try simp only [nA, Nat.reduceBEq, Nat.reduceEqDiff, ↓reduceIte, Nat.reduceAdd, Nat.reduceSub])
  refine awP (op_assign rfl rfl) ?_; (simp only [nA])
  refine AWL.nil ?_
  (refine hK _ ?_; clear hK K; (skip))
  refine AW.cond rfl rfl rfl (fun hc => ?_) (fun hc => ?_)
  ·
   have hc5 := hc; obtain rfl : p = 4 := (by have := of_decide_eq_true hc5; omega); have hpr := hx.pr
   refine AW.region ?_
   refine awP (op_move rfl rfl) ?_; (simp only [nA, ↓reduceIte])
   (refine awP (op_fa_ptr rfl rfl rfl fl35_5 (by exact sz3) (by decide) rfl) ?_); (try simp only [nA, Nat.reduceBEq, Nat.reduceEqDiff, ↓reduceIte, Nat.reduceAdd, Nat.reduceSub])
   (refine awR (op_load_ptr1 rfl rfl rfl rfl ag3 rfl rfl) ?_); (try simp only [nA, Nat.reduceBEq, Nat.reduceEqDiff, ↓reduceIte, Nat.reduceAdd, Nat.reduceSub])
   refine awJ (op_call1 rfl en51 (C51 (bs := bs) (n := x.image) (by omega)) (by exact rfl) (RL.cons .ptr (RL.cons (.base (by exact View.same rfl)) (RL.nil))) (by exact ⟨_, _, _, rfl, rfl, rfl⟩) (by exact rfl) (by exact rfl) (by exact rfl)) ?_; (try simp only [nA, Nat.reduceBEq, Nat.reduceEqDiff, ↓reduceIte, Nat.reduceAdd, Nat.reduceSub])
   refine AWL.nil ?_
   (try simp only [thenE, inBlk, Nat.reduceEqDiff, ↓reduceIte])
   exact RQ.of (.inr rfl) rfl .nil (by simp) rfl (one_out rfl)
  have hc5 := hc
  (refine AW.seq_k ?_; intro K hK)
  refine AW.region ?_
  (refine awP (op_eql rfl rfl rfl) ?_); (try simp only [nA, Nat.reduceBEq, Nat.reduceEqDiff, ↓reduceIte, Nat.reduceAdd, Nat.reduceSub])
  refine awP (op_assign rfl rfl) ?_; (simp only [nA])
  refine AWL.nil ?_
  (refine hK _ ?_; clear hK K; (skip))
  refine AW.cond rfl rfl rfl (fun hc => ?_) (fun hc => ?_)
  ·
   have hc6 := hc; obtain rfl : p = 5 := (by have := of_decide_eq_true hc6; omega); have hpr := hx.pr
   refine AW.region ?_
   refine awP (op_move rfl rfl) ?_; (simp only [nA, ↓reduceIte])
   (refine awP (op_fa_ptr rfl rfl rfl fl35_6 (by exact sz4) (by decide) rfl) ?_); (try simp only [nA, Nat.reduceBEq, Nat.reduceEqDiff, ↓reduceIte, Nat.reduceAdd, Nat.reduceSub])
   (refine awR (op_load_ptr1 rfl rfl rfl rfl ag4 rfl rfl) ?_); (try simp only [nA, Nat.reduceBEq, Nat.reduceEqDiff, ↓reduceIte, Nat.reduceAdd, Nat.reduceSub])
   refine awJ (op_call1 rfl en54 (C54 (bs := bs) (yes := x.clear) (by omega)) (by exact rfl) (RL.cons .ptr (RL.cons (.base (by exact View.same rfl)) (RL.nil))) (by exact ⟨_, _, _, rfl, rfl, rfl⟩) (by exact rfl) (by exact rfl) (by exact rfl)) ?_; (try simp only [nA, Nat.reduceBEq, Nat.reduceEqDiff, ↓reduceIte, Nat.reduceAdd, Nat.reduceSub])
   refine AWL.nil ?_
   (try simp only [thenE, inBlk, Nat.reduceEqDiff, ↓reduceIte])
   exact RQ.of (.inr rfl) rfl .nil (by simp) rfl (one_out rfl)
  have hc6 := hc
  (refine AW.seq_k ?_; intro K hK)
  refine AW.region ?_
  (refine awP (op_eql rfl rfl rfl) ?_); (try simp only [nA, Nat.reduceBEq, Nat.reduceEqDiff, ↓reduceIte, Nat.reduceAdd, Nat.reduceSub])
  refine awP (op_assign rfl rfl) ?_; (simp only [nA])
  refine AWL.nil ?_
  (refine hK _ ?_; clear hK K; (skip))
  refine AW.cond rfl rfl rfl (fun hc => ?_) (fun hc => ?_)
  ·
   have hc7 := hc; obtain rfl : p = 6 := (by have := of_decide_eq_true hc7; omega); have hpr := hx.pr
   refine AW.region ?_
   refine awP (op_move rfl rfl) ?_; (simp only [nA, ↓reduceIte])
   (refine awR (op_load_ptr rfl rfl rfl rfl ag35 sz35 (bl rfl) rfl) ?_); (try simp only [nA, Nat.reduceBEq, Nat.reduceEqDiff, ↓reduceIte, Nat.reduceAdd, Nat.reduceSub])
   refine awJ (op_call1 rfl en55 (C55 (bs := bs) (x := x) hb hx.r hpr) (by exact rfl) (RL.cons .ptr (RL.cons (.base (by exact View.same rfl)) (RL.nil))) (by exact ⟨_, _, _, rfl, rfl, rfl⟩) (by exact rfl) (by exact rfl) (by exact rfl)) ?_; (try simp only [nA, Nat.reduceBEq, Nat.reduceEqDiff, ↓reduceIte, Nat.reduceAdd, Nat.reduceSub])
   refine AWL.nil ?_
   (try simp only [thenE, inBlk, Nat.reduceEqDiff, ↓reduceIte])
   exact RQ.of (.inr rfl) rfl .nil (by simp) rfl (one_out rfl)
  have hc7 := hc
  (refine AW.seq_k ?_; intro K hK)
  refine AW.region ?_
  (refine awP (op_eql rfl rfl rfl) ?_); (try simp only [nA, Nat.reduceBEq, Nat.reduceEqDiff, ↓reduceIte, Nat.reduceAdd, Nat.reduceSub])
  refine awP (op_assign rfl rfl) ?_; (simp only [nA])
  refine AWL.nil ?_
  (refine hK _ ?_; clear hK K; (skip))
  refine AW.cond rfl rfl rfl (fun hc => ?_) (fun hc => ?_)
  ·
   have hc8 := hc; obtain rfl : p = 7 := (by have := of_decide_eq_true hc8; omega); have hpr := hx.pr; have hfl := (fl_good (f := x.rev.fl) (Bool.and_eq_true _ _ |>.mp hpr).2).2
   refine AW.region ?_
   refine awP (op_move rfl rfl) ?_; (simp only [nA, ↓reduceIte])
   (refine awR (op_load_ptr rfl rfl rfl rfl ag35 sz35 (bl rfl) rfl) ?_); (try simp only [nA, Nat.reduceBEq, Nat.reduceEqDiff, ↓reduceIte, Nat.reduceAdd, Nat.reduceSub])
   refine awJ (op_call1 rfl en56 (C56 (bs := bs) (x := x) (by omega) (by omega) (by omega)) (by exact rfl) (RL.cons .ptr (RL.cons (.base (by exact View.same rfl)) (RL.nil))) (by exact ⟨_, _, _, rfl, rfl, rfl⟩) (by exact rfl) (by exact rfl) (by exact rfl)) ?_; (try simp only [nA, Nat.reduceBEq, Nat.reduceEqDiff, ↓reduceIte, Nat.reduceAdd, Nat.reduceSub])
   refine AWL.nil ?_
   (try simp only [thenE, inBlk, Nat.reduceEqDiff, ↓reduceIte])
   exact RQ.of (.inr rfl) rfl .nil (by simp) rfl (one_out rfl)
  have hc8 := hc
  (refine AW.seq_k ?_; intro K hK)
  refine AW.region ?_
  (refine awP (op_eql rfl rfl rfl) ?_); (try simp only [nA, Nat.reduceBEq, Nat.reduceEqDiff, ↓reduceIte, Nat.reduceAdd, Nat.reduceSub])
  refine awP (op_assign rfl rfl) ?_; (simp only [nA])
  refine AWL.nil ?_
  (refine hK _ ?_; clear hK K; (skip))
  refine AW.cond rfl rfl rfl (fun hc => ?_) (fun hc => ?_)
  ·
   have hc9 := hc; obtain rfl : p = 8 := (by have := of_decide_eq_true hc9; omega); have hpr := hx.pr
   refine AW.region ?_
   refine awP (op_move rfl rfl) ?_; (simp only [nA, ↓reduceIte])
   (refine awP (op_fa_ptr rfl rfl rfl fl35_9 (by exact sz3) (by decide) rfl) ?_); (try simp only [nA, Nat.reduceBEq, Nat.reduceEqDiff, ↓reduceIte, Nat.reduceAdd, Nat.reduceSub])
   (refine awR (op_load_ptr1 rfl rfl rfl rfl ag3 rfl rfl) ?_); (try simp only [nA, Nat.reduceBEq, Nat.reduceEqDiff, ↓reduceIte, Nat.reduceAdd, Nat.reduceSub])
   refine awJ (op_call1 rfl en51 (C51 (bs := bs) (n := x.device) (by omega)) (by exact rfl) (RL.cons .ptr (RL.cons (.base (by exact View.same rfl)) (RL.nil))) (by exact ⟨_, _, _, rfl, rfl, rfl⟩) (by exact rfl) (by exact rfl) (by exact rfl)) ?_; (try simp only [nA, Nat.reduceBEq, Nat.reduceEqDiff, ↓reduceIte, Nat.reduceAdd, Nat.reduceSub])
   refine AWL.nil ?_
   (try simp only [thenE, inBlk, Nat.reduceEqDiff, ↓reduceIte])
   exact RQ.of (.inr rfl) rfl .nil (by simp) rfl (one_out rfl)
  have hc9 := hc
  (refine AW.seq_k ?_; intro K hK)
  refine AW.region ?_
  (refine awP (op_eql rfl rfl rfl) ?_); (try simp only [nA, Nat.reduceBEq, Nat.reduceEqDiff, ↓reduceIte, Nat.reduceAdd, Nat.reduceSub])
  refine awP (op_assign rfl rfl) ?_; (simp only [nA])
  refine AWL.nil ?_
  (refine hK _ ?_; clear hK K; (skip))
  refine AW.cond rfl rfl rfl (fun hc => ?_) (fun hc => ?_)
  ·
   have hc10 := hc; obtain rfl : p = 9 := (by have := of_decide_eq_true hc10; omega); have hpr := hx.pr
   refine AW.region ?_
   refine awP (op_move rfl rfl) ?_; (simp only [nA, ↓reduceIte])
   (refine awP (op_fa_ptr rfl rfl rfl fl35_10 (by exact sz32) (by decide) rfl) ?_); (try simp only [nA, Nat.reduceBEq, Nat.reduceEqDiff, ↓reduceIte, Nat.reduceAdd, Nat.reduceSub])
   (refine awR (op_load_ptr rfl rfl rfl rfl ag32 sz32 (bl rfl) rfl) ?_); (try simp only [nA, Nat.reduceBEq, Nat.reduceEqDiff, ↓reduceIte, Nat.reduceAdd, Nat.reduceSub])
   refine awJ (op_call1 rfl en57 (C57 (bs := bs) (o := x.op) (by omega)) (by exact rfl) (RL.cons .ptr (RL.cons (.base (by exact View.same rfl)) (RL.nil))) (by exact ⟨_, _, _, rfl, rfl, rfl⟩) (by exact rfl) (by exact rfl) (by exact rfl)) ?_; (try simp only [nA, Nat.reduceBEq, Nat.reduceEqDiff, ↓reduceIte, Nat.reduceAdd, Nat.reduceSub])
   refine AWL.nil ?_
   (try simp only [thenE, inBlk, Nat.reduceEqDiff, ↓reduceIte])
   exact RQ.of (.inr rfl) rfl .nil (by simp) rfl (one_out rfl)
  have hc10 := hc
  (refine AW.seq_k ?_; intro K hK)
  refine AW.region ?_
  (refine awP (op_eql rfl rfl rfl) ?_); (try simp only [nA, Nat.reduceBEq, Nat.reduceEqDiff, ↓reduceIte, Nat.reduceAdd, Nat.reduceSub])
  refine awP (op_assign rfl rfl) ?_; (simp only [nA])
  refine AWL.nil ?_
  (refine hK _ ?_; clear hK K; (skip))
  refine AW.cond rfl rfl rfl (fun hc => ?_) (fun hc => ?_)
  ·
   have hc11 := hc; obtain rfl : p = 10 := (by have := of_decide_eq_true hc11; omega); have hpr := hx.pr
   refine AW.region ?_
   refine awP (op_move rfl rfl) ?_; (simp only [nA, ↓reduceIte])
   (refine awR (op_load_ptr rfl rfl rfl rfl ag35 sz35 (bl rfl) rfl) ?_); (try simp only [nA, Nat.reduceBEq, Nat.reduceEqDiff, ↓reduceIte, Nat.reduceAdd, Nat.reduceSub])
   refine awJ (op_call1 rfl en58 (C58 (bs := bs) (x := x) hb hx.o) (by exact rfl) (RL.cons .ptr (RL.cons (.base (by exact View.same rfl)) (RL.nil))) (by exact ⟨_, _, _, rfl, rfl, rfl⟩) (by exact rfl) (by exact rfl) (by exact rfl)) ?_; (try simp only [nA, Nat.reduceBEq, Nat.reduceEqDiff, ↓reduceIte, Nat.reduceAdd, Nat.reduceSub])
   refine AWL.nil ?_
   (try simp only [thenE, inBlk, Nat.reduceEqDiff, ↓reduceIte])
   exact RQ.of (.inr rfl) rfl .nil (by simp) rfl (one_out rfl)
  have hc11 := hc
  (refine AW.seq_k ?_; intro K hK)
  refine AW.region ?_
  (refine awP (op_eql rfl rfl rfl) ?_); (try simp only [nA, Nat.reduceBEq, Nat.reduceEqDiff, ↓reduceIte, Nat.reduceAdd, Nat.reduceSub])
  refine awP (op_assign rfl rfl) ?_; (simp only [nA])
  refine AWL.nil ?_
  (refine hK _ ?_; clear hK K; (skip))
  refine AW.cond rfl rfl rfl (fun hc => ?_) (fun hc => ?_)
  ·
   have hc12 := hc; obtain rfl : p = 11 := (by have := of_decide_eq_true hc12; omega); have hpr := hx.pr; have hfl := (fl_good (f := x.fl) hpr).2
   refine AW.region ?_
   refine awP (op_move rfl rfl) ?_; (simp only [nA, ↓reduceIte])
   (refine awP (op_fa_ptr rfl rfl rfl fl35_12 (by exact sz26) (by decide) rfl) ?_); (try simp only [nA, Nat.reduceBEq, Nat.reduceEqDiff, ↓reduceIte, Nat.reduceAdd, Nat.reduceSub])
   (refine awR (op_load_ptr rfl rfl rfl rfl ag26 sz26 (bl rfl) rfl) ?_); (try simp only [nA, Nat.reduceBEq, Nat.reduceEqDiff, ↓reduceIte, Nat.reduceAdd, Nat.reduceSub])
   refine awJ (op_call1 rfl en59 (C59 (bs := bs) (f := x.fl) (by omega) (by omega) (by omega)) (by exact rfl) (RL.cons .ptr (RL.cons (.base (by exact View.same rfl)) (RL.nil))) (by exact ⟨_, _, _, rfl, rfl, rfl⟩) (by exact rfl) (by exact rfl) (by exact rfl)) ?_; (try simp only [nA, Nat.reduceBEq, Nat.reduceEqDiff, ↓reduceIte, Nat.reduceAdd, Nat.reduceSub])
   refine AWL.nil ?_
   (try simp only [thenE, inBlk, Nat.reduceEqDiff, ↓reduceIte])
   exact RQ.of (.inr rfl) rfl .nil (by simp) rfl (one_out rfl)
  have hc12 := hc
  refine AW.skip ?_
  (try simp only [thenE, inBlk, Nat.reduceEqDiff, ↓reduceIte])
  rw [show ePart x p = [] from ePart_rest (by simp only [decide_eq_false_iff_not] at hc1 hc2 hc3 hc4 hc5 hc6 hc7 hc8 hc9 hc10 hc11 hc12; omega), List.append_nil]; exact RQ.of (.inr rfl) rfl .nil (by simp) rfl (one_out rfl)
end Go.Proofs.YtfmnaigedgmhoaaDoor
namespace Go.Proofs.YtfmnaigedgmhoaaDoor
open Go.RowKit
set_option linter.unusedSimpArgs false
set_option linter.unusedVariables false
set_option maxRecDepth 100000
set_option maxHeartbeats 8000000 in
theorem C30i {bs : BL} {x : Ev} {p : Int} (hp : 0 ≤ p) (hb : bs.length ≤ 10000) (hx : x.Wr p.toNat) : Fn Tryd.prog 30 [wB bs] [.ptr 0 0 0 0, .agg x.av, .v (.int .i64 p)] [] [wB (bs ++ ePart x p.toNat)] := by
  obtain ⟨n, rfl⟩ := Int.eq_ofNat_of_zero_le hp
  exact C30 hb hx
abbrev ePI (x : Ev) (p : Int) : BL := ePart x p.toNat
theorem encI (x : Ev) : [byI x.kind] ++ (fldI x.kind).flatMap (ePI x) = encB x := by
  unfold fldI encB
  rw [List.flatMap_map]
  rfl
theorem fldI_mem {k p : Int} (h : p ∈ fldI k) : 0 ≤ p ∧ p.toNat ∈ fieldsL k := by
  obtain ⟨n, hn, rfl⟩ := List.mem_map.1 h
  exact ⟨by omega, hn⟩
theorem Good.wr {x : Ev} (h : Good x) {p : Int} (hp : p ∈ fldI x.kind) : x.Wr p.toNat := ⟨h.lim.1, h.lim.2.1, h.lim.2.2, h.pr _ (fldI_mem hp).2⟩
def pfx (x : Ev) (i : Nat) : BL := [byI x.kind] ++ ((fldI x.kind).take i).flatMap (ePI x)
theorem pfx_0 (x : Ev) : pfx x 0 = [byI x.kind] := rfl
theorem pfx_step {x : Ev} {i : Nat} (h : i < (fldI x.kind).length) : pfx x i ++ ePart x ((fldI x.kind).getD i default).toNat = pfx x (i + 1) := take_flatG (e := ePI x) h
theorem pfx_end {x : Ev} {i : Nat} (h : ¬ i < (fldI x.kind).length) : pfx x i = encB x := by
  unfold pfx
  rw [List.take_of_length_le (by omega), encI]
theorem pfx_len {x : Ev} (h : Good x) (i : Nat) : (pfx x i).length ≤ 10000 := by
  have h1 := flatTk (xs := fldI x.kind) (e := ePI x) (k := 2404) (i := i) fun p hp => part_len h _ (fldI_mem hp).2
  have h2 := fldI_len x.kind
  unfold pfx
  rw [List.length_append, List.length_singleton]
  have := Nat.mul_le_mul_right 2404 h2
  omega
set_option maxHeartbeats 8000000 in
theorem C13 {x : Ev} (hx : x.Sm) : Fn Tryd.prog 13 [] [.agg x.av] [.ro ((encV x).1.map bv), .v (.int .i64 (encV x).2)] [] := by
  refine Spec.body Tryd.func13 rfl Tryd.ntmps13 (by simp) rfl ?_; intro S0 own0 v0 w0 gl
  (refine AW.seq_k ?_; intro K hK)
  refine AW.region ?_
  refine awJ (op_box rfl rfl rfl sz35 rfl) ?_; (simp only [nA, Nat.reduceBEq, Nat.reduceEqDiff, ↓reduceIte])
  refine awP (op_assign rfl rfl) ?_; (try simp only [nA, Nat.reduceBEq, Nat.reduceEqDiff, ↓reduceIte, Nat.reduceAdd, Nat.reduceSub])
  refine awP (op_assign rfl rfl) ?_; (try simp only [nA, Nat.reduceBEq, Nat.reduceEqDiff, ↓reduceIte, Nat.reduceAdd, Nat.reduceSub])
  refine AWL.nil ?_
  (refine hK _ ?_; clear hK K; (try simp only [nA, Nat.reduceBEq, Nat.reduceEqDiff, ↓reduceIte, Nat.reduceAdd, Nat.reduceSub]))
  (refine AW.seq_k ?_; intro K hK)
  (refine AW.seq_k ?_; intro K hK)
  refine AW.region ?_
  (refine awR (op_load_ptr rfl rfl rfl rfl ag35 sz35 (bl rfl) rfl) ?_); (try simp only [nA, Nat.reduceBEq, Nat.reduceEqDiff, ↓reduceIte, Nat.reduceAdd, Nat.reduceSub])
  refine awJ (OpQ.j (op_callQ (b := true) rfl en15 (C15 (x := x) hx) (RL.cons (by exact View.same rfl) (RL.nil)) rfl)) ?_; (try simp only [nA, Nat.reduceBEq, Nat.reduceEqDiff, ↓reduceIte, Nat.reduceAdd, Nat.reduceSub])
  refine awP (op_assign rfl rfl) ?_; (simp only [nA])
  refine AWL.nil ?_
  (refine hK _ ?_; clear hK K; (skip))
  (refine AW.seq_k ?_; intro K hK)
  refine AW.region ?_
  refine awP (op_move rfl rfl) ?_; (simp only [nA])
  (refine awP (op_neq rfl rfl rfl) ?_); (try simp only [nA, Nat.reduceBEq, Nat.reduceEqDiff, ↓reduceIte, Nat.reduceAdd, Nat.reduceSub])
  refine AWL.nil ?_
  (refine hK _ ?_; clear hK K; (skip))
  refine AW.cond rfl rfl rfl (fun hc => ?_) (fun hc => ?_)
  ·
   have hc1 := hc; have hv : valV x ≠ 0 := (by simpa using hc1); have hng : ¬ Good x := fun h => hv (valV_0.2 h)
   (refine AW.seq_k ?_; intro K hK)
   refine AW.region ?_
   refine awP (op_move rfl rfl) ?_; (simp only [nA, ↓reduceIte])
   refine awP (op_assign rfl rfl) ?_; (try simp only [nA, Nat.reduceBEq, Nat.reduceEqDiff, ↓reduceIte, Nat.reduceAdd, Nat.reduceSub])
   refine awP (op_assign rfl rfl) ?_; (simp only [nA, ↓reduceIte])
   refine AWL.nil ?_
   (refine hK _ ?_; clear hK K; (skip))
   refine AW.gh (Gh.nil (e := 5) 2 (bl rfl) rfl sz5) ?_; (simp only [nA, Nat.reduceBEq, Nat.reduceEqDiff, ↓reduceIte]); refine AW.gh (Gh.freeze 2 (bl rfl) rfl rfl (by simp) (es' := ([] : BL).map bv) rfl) ?_; (try simp only [nA, Nat.reduceBEq, Nat.reduceEqDiff, ↓reduceIte, Nat.reduceAdd, Nat.reduceSub])
   refine AW.ret ?_; (try simp only [thenE, inBlk, Nat.reduceEqDiff, ↓reduceIte]); rw [enc_no hng]; exact RQ.of0 rfl (.tmp (bl rfl) rfl rfl (.tmp (bl rfl) rfl rfl .nil))
  have hc1 := hc; have hv : valV x = 0 := (by simpa using hc1); have hG := valV_0.1 hv
  refine AW.skip ?_
  (refine hK _ ?_; clear hK K; (skip))
  (refine AW.seq_k ?_; intro K hK)
  refine AW.region ?_
  (refine awP (op_fa_ptr rfl rfl rfl fl35_0 (by exact sz3) (by decide) rfl) ?_); (try simp only [nA, Nat.reduceBEq, Nat.reduceEqDiff, ↓reduceIte, Nat.reduceAdd, Nat.reduceSub])
  (refine awR (op_load_ptr1 rfl rfl rfl rfl ag3 rfl rfl) ?_); (try simp only [nA, Nat.reduceBEq, Nat.reduceEqDiff, ↓reduceIte, Nat.reduceAdd, Nat.reduceSub])
  refine awP (op_conv rfl rfl Tryd.underlying3 Tryd.underlying5 (wrapU _)) ?_; (try simp only [nA, Nat.reduceBEq, Nat.reduceEqDiff, ↓reduceIte, Nat.reduceAdd, Nat.reduceSub])
  refine awX (OpJ.nmS (op_buildSlice rfl [(0, bv (byI x.kind))] ([byI x.kind].map bv) Tryd.underlying43 ze5 rfl (by simp) rfl (bv_len _) rfl (bl rfl) (by simp [maxLen])) rfl rfl) ?_; rintro _ _ ⟨u, hu, rfl, rfl⟩; (simp only [nA, Nat.reduceBEq, Nat.reduceEqDiff, ↓reduceIte])
  refine awP (op_build2 (xs := [_]) rfl pl77 ze77 [(0, [_])] rfl rfl rfl) ?_; (simp only [nA])
  refine awJ (op_box rfl rfl rfl sz77 rfl) ?_; (simp only [nA, Nat.reduceBEq, Nat.reduceEqDiff, ↓reduceIte]); refine AWL.gh (Gh.nest (r := 2) (q := 1) (row := [.v u]) 0 0 rfl rfl rfl rfl (by decide) (es2 := [[.own 5 ([byI x.kind].map bv)]]) rfl) ?_; (try simp only [nA, Nat.reduceBEq, Nat.reduceEqDiff, ↓reduceIte, Nat.reduceAdd, Nat.reduceSub])
  refine awP (op_assign rfl rfl) ?_; (simp only [nA])
  refine AWL.nil ?_
  (refine hK _ ?_; clear hK K; (skip))
  (refine AW.seq_k ?_; intro K hK)
  (refine AW.seq_k ?_; intro K hK)
  refine AW.region ?_
  (refine awP (op_fa_ptr rfl rfl rfl fl35_0 (by exact sz3) (by decide) rfl) ?_); (try simp only [nA, Nat.reduceBEq, Nat.reduceEqDiff, ↓reduceIte, Nat.reduceAdd, Nat.reduceSub])
  (refine awR (op_load_ptr1 rfl rfl rfl rfl ag3 rfl rfl) ?_); (try simp only [nA, Nat.reduceBEq, Nat.reduceEqDiff, ↓reduceIte, Nat.reduceAdd, Nat.reduceSub])
  refine awP (op_ia_glob x.kind.toNat rfl rfl Tryd.underlying79 (by have := hG.kind; omega) (fldI_row hG.kind) (by exact sz78)) ?_; (try simp only [nA, Nat.reduceBEq, Nat.reduceEqDiff, ↓reduceIte, Nat.reduceAdd, Nat.reduceSub])
  (refine awR (op_load_rop1 rfl rfl ag78) ?_); (try simp only [nA, Nat.reduceBEq, Nat.reduceEqDiff, ↓reduceIte, Nat.reduceAdd, Nat.reduceSub])
  refine awP (op_len_ro (n := (fldI x.kind).length) rfl rfl Tryd.underlying78 (.inr (.inl ⟨_, rfl, by simp⟩))) ?_; (try simp only [nA, Nat.reduceBEq, Nat.reduceEqDiff, ↓reduceIte, Nat.reduceAdd, Nat.reduceSub])
  refine awP (op_move rfl rfl) ?_; (try simp only [nA, Nat.reduceBEq, Nat.reduceEqDiff, ↓reduceIte, Nat.reduceAdd, Nat.reduceSub])
  refine AWL.nil ?_
  (refine hK _ ?_; clear hK K; (skip))
  refine AW.block ?_
  have hfn := fldI_len x.kind; refine AW.loopI (fun i => [(1, .ptr 0 1 0 0), (5, .ptr 2 3 0 0), (22, .ro ((fldI x.kind).map fun n => [.v (.int .i64 n)])), (23, .v (.int .i64 (fldI x.kind).length)), (24, .v (.int .i64 (i : Nat)))]) (fun i => ⟨[(1, .own 35 [x.av]), (2, .any), (3, wB (pfx x i))], 4⟩) (fun i => i ≤ (fldI x.kind).length) (fun i => (fldI x.kind).length - i) 0 (by simp) ⟨rfl, rfl, rfl, rfl, rfl, trivial⟩ (by rw [pfx_0]; rfl) ?_; intro i ρ hi; simp only [updL]
  (refine AW.seq_k ?_; intro K hK)
  refine AW.region ?_
  refine awP (op_lss rfl rfl rfl) ?_; (try simp only [nA, Nat.reduceBEq, Nat.reduceEqDiff, ↓reduceIte, Nat.reduceAdd, Nat.reduceSub])
  refine AWL.nil ?_
  (refine hK _ ?_; clear hK K; (skip))
  (refine AW.seq_k ?_; intro K hK)
  refine AW.cond rfl rfl rfl (fun hc => ?_) (fun hc => ?_)
  ·
   have hc2 := hc; have hlt : i < (fldI x.kind).length := (by simpa using hc2); have hpb := fldI_bd hlt; have hpm : (fldI x.kind).getD i default ∈ fldI x.kind := (by rw [getD_of hlt]; exact List.getElem_mem hlt)
   refine AW.skip ?_
   (refine hK _ ?_; clear hK K; (skip))
   (refine AW.seq_k ?_; intro K hK)
   refine AW.block ?_
   (refine AW.seq_k ?_; intro K hK)
   refine AW.region ?_
   refine awP (op_ia_ro i rfl (.inl rfl) rfl Tryd.underlying78 rfl (get_mapD (by omega)) (by exact sz80) (bl rfl)) ?_; (try simp only [nA, Nat.reduceBEq, Nat.reduceEqDiff, ↓reduceIte, Nat.reduceAdd, Nat.reduceSub])
   (refine awR (op_load_rop1 rfl rfl ag80) ?_); (try simp only [nA, Nat.reduceBEq, Nat.reduceEqDiff, ↓reduceIte, Nat.reduceAdd, Nat.reduceSub])
   refine awP (op_assign rfl rfl) ?_; (simp only [nA])
   refine AWL.nil ?_
   (refine hK _ ?_; clear hK K; (skip))
   refine AW.region ?_
   refine awP (op_move rfl rfl) ?_; (simp only [nA, ↓reduceIte])
   (refine awR (op_load_ptr rfl rfl rfl rfl ag35 sz35 (bl rfl) rfl) ?_); (try simp only [nA, Nat.reduceBEq, Nat.reduceEqDiff, ↓reduceIte, Nat.reduceAdd, Nat.reduceSub])
   refine awP (op_move rfl rfl) ?_; (simp only [nA, ↓reduceIte])
   refine awJ (op_call1 rfl en30 (C30i (bs := (pfx x i)) (x := x) (p := (fldI x.kind).getD i default) hpb.1 (pfx_len hG i) (hG.wr hpm)) (by exact rfl) (RL.cons .ptr (RL.cons (.base (by exact View.same rfl)) (RL.cons (.base (by exact View.same rfl)) (RL.nil)))) (by exact ⟨_, _, _, rfl, rfl, rfl⟩) (by exact rfl) (by exact rfl) (by exact rfl)) ?_; (try simp only [nA, Nat.reduceBEq, Nat.reduceEqDiff, ↓reduceIte, Nat.reduceAdd, Nat.reduceSub])
   refine AWL.nil ?_
   (try simp only [thenE, inBlk, Nat.reduceEqDiff, ↓reduceIte])
   (refine hK _ ?_; clear hK K; (skip))
   refine AW.region ?_
   (refine awP (op_addi rfl rfl rfl (by omega)) ?_); (try simp only [nA, Nat.reduceBEq, Nat.reduceEqDiff, ↓reduceIte, Nat.reduceAdd, Nat.reduceSub])
   refine awP (op_move rfl rfl) ?_; (simp only [nA])
   skip
   refine AWL.nil ?_
   refine ⟨i + 1, by omega, by omega, ⟨rfl, rfl, rfl, rfl, rfl, trivial⟩, congrArg (fun z => (⟨[(1, .own 35 [x.av]), (2, .any), (3, wB z)], 4⟩ : Sl)) (pfx_step hlt), (by rfl)⟩
  have hc2 := hc; have hnl : ¬ i < (fldI x.kind).length := (by simpa using hc2); rw [pfx_end hnl]
  refine AW.exit ?_; (try simp only [thenE, inBlk, Nat.reduceEqDiff, ↓reduceIte])
  clear hK K
  (refine hK _ ?_; clear hK K; (skip))
  (refine AW.seq_k ?_; intro K hK)
  refine AW.region ?_
  refine awP (op_move rfl rfl) ?_; (simp only [nA, ↓reduceIte])
  (refine awP (op_nil_slot rfl rfl rfl) ?_); (try simp only [nA, Nat.reduceBEq, Nat.reduceEqDiff, ↓reduceIte, Nat.reduceAdd, Nat.reduceSub])
  (refine awP (op_fa_ptr rfl rfl rfl fl77_0 (by exact sz43) (by decide) rfl) ?_); (try simp only [nA, Nat.reduceBEq, Nat.reduceEqDiff, ↓reduceIte, Nat.reduceAdd, Nat.reduceSub])
  refine awJ (op_load_nest (i := 0) (j := 0) rfl rfl rfl rfl ag43 rfl rfl) ?_; (simp only [nA, Nat.reduceBEq, Nat.reduceEqDiff, ↓reduceIte])
  refine awP (op_assign rfl rfl) ?_; (simp only [nA])
  refine awP (op_assign rfl rfl) ?_; (try simp only [nA, Nat.reduceBEq, Nat.reduceEqDiff, ↓reduceIte, Nat.reduceAdd, Nat.reduceSub])
  refine AWL.nil ?_
  (refine hK _ ?_; clear hK K; (skip))
  refine AW.gh (Gh.freeze 2 (bl rfl) rfl rfl (bv_flat _) (es' := (encB x).map bv) (List.take_of_length_le (by rw [List.length_map]; exact Nat.le_refl _))) ?_; (try simp only [nA, Nat.reduceBEq, Nat.reduceEqDiff, ↓reduceIte, Nat.reduceAdd, Nat.reduceSub])
  refine AW.ret ?_; (try simp only [thenE, inBlk, Nat.reduceEqDiff, ↓reduceIte]); rw [enc_ok hG]; exact RQ.of0 rfl (.tmp (bl rfl) rfl rfl (.tmp (bl rfl) rfl rfl .nil))
end Go.Proofs.YtfmnaigedgmhoaaDoor
namespace Go.Proofs.YtfmnaigedgmhoaaDoor
open Go.RowKit
set_option linter.unusedSimpArgs false
set_option linter.unusedVariables false
def vCell (es : List (List AV)) : Prop := ∀ x ∈ es, ∀ c ∈ x, ∃ u, c = .v u
theorem Rep.own_v {P : Program} {S S' : Nat → Prop} {w : World} {bs : List Nat} {v : Value} {e : TypeId} {es : List (List AV)} (h : Rep P S w bs v (.own e es)) (hv : vCell es) : Rep P S' w bs v (.own e es) := by
  obtain ⟨us, sz, bss, rfl, hi, hsz, hown, hul, hbl, hc⟩ := h.own_inv
  refine .own hi hsz hown hul hbl fun i u x b h1 h2 h3 => ?_
  obtain ⟨row, hr, hx⟩ := List.mem_flatten.1 (List.mem_of_getElem? h2)
  obtain ⟨y, rfl⟩ := hv row hr x hx
  obtain ⟨rfl, rfl, ho⟩ := (hc i u _ b h1 h2 h3).v_inv
  exact .v ho
section
variable {C : Cx} {T : Sl} {S S2 : Nat → Prop} {vals : List Value} {bss : List (List Nat)} {w w' : World} {o : Oper} {ev : Operand → AV}
/-- A call that takes a slice of one's own and gives it back, longer. -/
theorem op_callA {f : FuncId} {args : Array Operand} {ts : Array TypeId} {r k : Nat} {e : TypeId} {es es' : List (List AV)} {xs : List AV} (ho : o.op = .call { callee := .value (.func f), args := args, argTypes := ts }) (hf : Enters C.P f) (hsp : Fn C.P f [.own e es] xs [.own e es'] [.any]) (hs : T.slots[r]? = some (k, .own e es)) (hv : RL (View1 T r k) (args.toList.map ev) xs)
    (hvc : vCell es') {n : Nat} (hn : es'.length = n) : OpJ C o ev T (.sl r T.ep 0 n) ⟨T.slots.set r (T.ep, .own e es'), T.ep + 1⟩ := by
  intro a w S vals bss hm h K hK Q
  have hrl : r < T.slots.length := (List.getElem?_eq_some_iff.1 hs).1
  have hargs : ∀ y ∈ args, TmpOK C.P S w T vals (a.eval y) (ev y) := fun y hy => h y (by simp [ho, Op.operands, Call.operands]; exact .inr hy)
  obtain ⟨v, bs, hvr, hbr, hrep⟩ := hm.slot hs
  have hcame : Came C.P [.own e es] xs w S [v] [bs] (args.toList.map a.eval) := by
    refine ⟨hm.glob, hm.lt, rfl, rfl, fun q x u b h1 h2 h3 => ?_, ⟨fun q b h1 => ?_, fun q q' b b' hne h1 h2 => ?_⟩, fun b ⟨q, b1, h1, h2⟩ => ?_, by have := hv.1; simpa using this, fun i u x h1 h2 => ?_⟩
    · cases q with
      | zero => simp at h1 h2 h3; subst h1; subst h2; subst h3; exact hrep
      | succ q => simp at h1
    · cases q with
      | zero => simp at h1; subst h1; exact hm.nodup r _ hbr
      | succ q => simp at h1
    · cases q with
      | zero => cases q' with
        | zero => exact absurd rfl hne
        | succ q' => simp at h2
      | succ q => simp at h1
    · cases q with
      | zero => simp at h1; subst h1; exact hm.apart r _ hbr b h2
      | succ q => simp at h1
    rw [List.getElem?_map] at h1
    cases hq : args.toList[i]? with
    | none => rw [hq] at h1; cases h1
    | some y =>
      rw [hq] at h1
      simp only [Option.map_some, Option.some.injEq] at h1
      subst h1
      exact view1_ok hm hs hvr (hv.2 i (ev y) x (by rw [List.getElem?_map, hq]; rfl) h2) (hargs y (Array.mem_toList_iff.1 (List.mem_of_getElem? hq)))
  have hc := hsp w S [v] [bs] _ hcame
  have hrun : (execOp a.eval o).run C.P w = .ok (.enter f (args.toList.map a.eval).toArray) w := by
    have e1 : (args.map a.eval) = (args.toList.map a.eval).toArray := by apply Array.toList_inj.1; simp
    simp only [execOp, ho, resolve, Act.eval, Deferred.ofValue, Sem.run_bind, Sem.run_pure, Result.andThen_ok, invoke]
    rw [← e1]
    simpa using hf _ w
  unfold Oper.wp
  rw [hrun, Oper.upon_enter]
  refine hc.mono ?_
  rintro ex w' ⟨us, ys', outs, bsr, bss', rfl, went, rfl, rfl⟩
  simp only
  obtain ⟨u, rfl⟩ : ∃ u, us = [u] := by
    match us, went.nu with
    | [u], _ => exact ⟨u, rfl⟩
  obtain ⟨b1, rfl⟩ : ∃ b, bsr = [b] := by
    match bsr, went.nr with
    | [b], _ => exact ⟨b, rfl⟩
  have hin1 : ∀ (b : List Nat) (q : Nat), InL [b] q ↔ q ∈ b := fun b q => by
    constructor
    · rintro ⟨i, b1, h1, h2⟩
      cases i with
      | zero => simp at h1; subst h1; exact h2
      | succ i => simp at h1
    intro h; exact ⟨0, b, rfl, h⟩
  have hk : Kept (fun q => q ∉ bs) w w' := went.kept.mono fun q _ h h' => h ((hin1 _ _).1 h')
  have hinR : ∀ q, q ∈ b1 → InL ([b1] ++ bss') q := fun q h => ⟨0, b1, rfl, h⟩
  have hmine : ∀ q, q ∈ b1 → q ∈ bs ∨ w.heap.size ≤ q := fun q h => ((went.mine q (hinR q h)).imp id (hin1 _ _).1).symm
  have hrep2 : Rep C.P S w' b1 u (.own e es') := by
    rcases went.res 0 u _ b1 rfl rfl rfl with h | ⟨rfl, h⟩
    · exact h.own_v hvc
    exact (show Rep C.P _ w' [] u (.own e es') from h).own_v hvc
  have hnd := went.own.nodup 0 b1 rfl
  obtain ⟨hm', hf'⟩ := hm.set (k' := T.ep) (ep' := T.ep + 1) hs hvr hbr hk hrep2 hnd hmine (.inr ⟨rfl, rfl⟩)
  refine hK _ _ _ _ _ hm' hf' ⟨by simp, hrep2.one, fun e2 es2 v2 sz2 q1 q2 q3 => ?_⟩
  have q1 : (T.slots.set r _)[r]? = _ := q1
  rw [getElem?_set_ _ _ _ _ hrl, if_pos rfl] at q1
  rw [getElem?_set_ _ _ _ _ (by rw [hm.nv]; exact hrl), if_pos rfl] at q2
  injection q1 with q1; injection q1 with _ q1; injection q1 with q1 q4
  injection q2 with q2
  subst q1; subst q2; subst q4
  obtain ⟨us1, sz1, bss1, -, hi1, hsz1, hown1, -⟩ := hrep2.own_inv
  refine ⟨by omega, ?_⟩
  rcases hown1.2 with ⟨hnil, h0'⟩ | ⟨g, cap', cur, hcap, -, -, p1, p2, -⟩
  · exact ⟨none, 0, 0, hnil, by omega, Nat.le_refl _, by unfold maxLen; omega, .inl ⟨rfl, by rw [hnil, show n = 0 by omega]; rfl⟩⟩
  exact ⟨_, _, _, hcap, by omega, p1, p2, .inl ⟨rfl, by rw [hcap, hn]; rfl⟩⟩
variable {Q : Exit → Sta → Prop} {σ : Sta}
/-- A slice that came in is taken for one's own: it leaves the slot that it came in. -/
theorem Gh.mv {r k len : Nat} {e : TypeId} {es : List (List AV)} (t : Nat) (ht : t < σ.n) (hv : σ.env t = .sl r k 0 len) (hT : σ.T.slots[r]? = some (k, .own e es)) :
    Gh C σ ⟨upd σ.env t (.sl σ.T.slots.length σ.T.ep 0 len), ⟨σ.T.slots.set r (k, .any) ++ [(σ.T.ep, .own e es)], σ.T.ep + 1⟩, σ.n⟩ := by
  intro a w ⟨hd, hn, S, vals, bss, hm, he⟩
  obtain ⟨v, bs, hvr, hbr, hrep⟩ := hm.slot hT
  have hrl : r < σ.T.slots.length := (List.getElem?_eq_some_iff.1 hT).1
  have hnv := hm.nv
  have hnb := hm.nb
  have slot' : ∀ {q kq : Nat} {x : AV}, (σ.T.slots.set r (k, AV.any) ++ [(σ.T.ep, AV.own e es)])[q]? = some (kq, x) → (q ≠ r ∧ q < σ.T.slots.length ∧ σ.T.slots[q]? = some (kq, x)) ∨ (q = r ∧ kq = k ∧ x = .any) ∨ (q = σ.T.slots.length ∧ kq = σ.T.ep ∧ x = .own e es) := fun {q kq x} h => by
    rw [getElem?_snoc] at h
    simp only [List.length_set] at h
    split at h
    · rename_i hl
      rw [getElem?_set_ _ _ _ _ hrl] at h
      split at h
      · rename_i hq
        injection h with h; injection h with h1 h2
        exact .inr (.inl ⟨hq.symm, h1.symm, h2.symm⟩)
      rename_i hq
      exact .inl ⟨fun h => hq h.symm, hl, h⟩
    split at h
    · rename_i hq
      injection h with h; injection h with h1 h2
      exact .inr (.inr ⟨hq, h1.symm, h2.symm⟩)
    cases h
  have val' : ∀ {q : Nat} {x : Value}, (vals ++ [v])[q]? = some x → (q < σ.T.slots.length ∧ vals[q]? = some x) ∨ (q = σ.T.slots.length ∧ x = v) := fun {q x} h => by
    rw [getElem?_snoc] at h
    split at h
    · exact .inl ⟨by omega, h⟩
    split at h
    · injection h with h; exact .inr ⟨by omega, h.symm⟩
    cases h
  have bs' : ∀ {q : Nat} {x : List Nat}, (bss.set r [] ++ [bs])[q]? = some x → (q ≠ r ∧ q < σ.T.slots.length ∧ bss[q]? = some x) ∨ (q = r ∧ x = []) ∨ (q = σ.T.slots.length ∧ x = bs) := fun {q x} h => by
    rw [getElem?_snoc] at h
    simp only [List.length_set] at h
    split at h
    · rename_i hl
      rw [getElem?_set_ _ _ _ _ (by rw [hnb]; exact hrl)] at h
      split at h
      · rename_i hq
        injection h with h
        exact .inr (.inl ⟨hq.symm, h.symm⟩)
      rename_i hq
      exact .inl ⟨fun h => hq h.symm, by omega, h⟩
    split at h
    · injection h with h; exact .inr (.inr ⟨by omega, h.symm⟩)
    cases h
  have hm' : Mem C ⟨σ.T.slots.set r (k, .any) ++ [(σ.T.ep, .own e es)], σ.T.ep + 1⟩ S (vals ++ [v]) (bss.set r [] ++ [bs]) w := by
    refine ⟨hm.kept, hm.s0, hm.sub, hm.lt, by simp [hnv], by simp [hnb], fun q kq x u b h1 h2 h3 => ?_, fun q b h => ?_, fun q q' b b' hne h1 h2 => ?_, fun q b h => ?_, fun q b h => ?_, fun q x hl h => ?_, fun q kq x h => ?_, by show 0 < σ.T.ep + 1; omega⟩
    · rcases slot' h1 with ⟨g1, g2, g3⟩ | ⟨rfl, rfl, rfl⟩ | ⟨rfl, rfl, rfl⟩
      · rcases val' h2 with ⟨_, g4⟩ | ⟨g4, _⟩
        · rcases bs' h3 with ⟨_, _, g5⟩ | ⟨g5, _⟩ | ⟨g5, _⟩
          · exact hm.rep q kq x u b g3 g4 g5
          · exact absurd g5 g1
          omega
        omega
      · rcases val' h2 with ⟨_, g4⟩ | ⟨g4, _⟩
        · rcases bs' h3 with ⟨g5, _⟩ | ⟨_, rfl⟩ | ⟨g5, _⟩
          · exact absurd rfl g5
          · rw [hvr] at g4; injection g4 with g4; subst g4; exact .any hrep.one
          omega
        omega
      rcases val' h2 with ⟨g4, _⟩ | ⟨_, rfl⟩
      · omega
      rcases bs' h3 with ⟨_, g5, _⟩ | ⟨g5, _⟩ | ⟨_, rfl⟩
      · omega
      · omega
      exact hrep
    · rcases bs' h with ⟨_, _, g⟩ | ⟨_, rfl⟩ | ⟨_, rfl⟩
      · exact hm.nodup q b g
      · simp
      exact hm.nodup r _ hbr
    · rcases bs' h1 with ⟨a1, a2, a3⟩ | ⟨_, rfl⟩ | ⟨a1, rfl⟩
      · rcases bs' h2 with ⟨c1, c2, c3⟩ | ⟨_, rfl⟩ | ⟨c1, rfl⟩
        · exact hm.disj q q' b b' hne a3 c3
        · simp
        exact hm.disj q r b _ a1 a3 hbr
      · simp
      rcases bs' h2 with ⟨c1, c2, c3⟩ | ⟨_, rfl⟩ | ⟨c1, rfl⟩
      · exact hm.disj r q' _ b' (fun h => c1 h.symm) hbr c3
      · simp
      omega
    · rcases bs' h with ⟨_, _, g⟩ | ⟨_, rfl⟩ | ⟨_, rfl⟩
      · exact hm.apart q b g
      · simp
      exact hm.apart r _ hbr
    · rcases bs' h with ⟨_, _, g⟩ | ⟨_, rfl⟩ | ⟨_, rfl⟩
      · exact hm.mine q b g
      · simp
      exact hm.mine r _ hbr
    · rcases slot' h with ⟨g1, g2, g3⟩ | ⟨rfl, g3, rfl⟩ | ⟨rfl, g3, _⟩
      · rw [getElem?_snoc, if_pos (by omega)]
        exact hm.root q x hl g3
      · rw [getElem?_snoc, if_pos (by omega)]
        exact hm.root q _ hl (by rw [g3]; exact hT)
      have := hm.pos; omega
    rcases slot' h with ⟨g1, g2, g3⟩ | ⟨rfl, rfl, rfl⟩ | ⟨rfl, rfl, rfl⟩
    · have := hm.ver q kq x g3; show kq < σ.T.ep + 1; omega
    · have := hm.ver q kq _ hT; show kq < σ.T.ep + 1; omega
    show σ.T.ep < σ.T.ep + 1; omega
  have hfl : Follows C.P S w σ.T vals S w ⟨σ.T.slots.set r (k, .any) ++ [(σ.T.ep, .own e es)], σ.T.ep + 1⟩ (vals ++ [v]) := fun u x hx => by
    cases x with
    | sl r1 k1 off len =>
      refine ⟨by have := hx.1; show k1 < σ.T.ep + 1; omega, hx.2.1, fun e2 es2 v2 sz2 q1 q2 q3 => ?_⟩
      rcases slot' q1 with ⟨g1, g2, g3⟩ | ⟨_, _, g3⟩ | ⟨_, g3, _⟩
      · rcases val' q2 with ⟨_, g4⟩ | ⟨g4, _⟩
        · exact hx.2.2 e2 es2 v2 sz2 g3 g4 q3
        omega
      · cases g3
      have := hx.1; omega
    | ptr r1 k1 i j =>
      refine ⟨by have := hx.1; show k1 < σ.T.ep + 1; omega, hx.2.1, fun e2 es2 v2 sz2 q1 q2 q3 => ?_⟩
      rcases slot' q1 with ⟨g1, g2, g3⟩ | ⟨_, _, g3⟩ | ⟨_, g3, _⟩
      · rcases val' q2 with ⟨_, g4⟩ | ⟨g4, _⟩
        · exact hx.2.2 e2 es2 v2 sz2 g3 g4 q3
        omega
      · cases g3
      have := hx.1; omega
    | mp r1 k1 =>
      refine ⟨by have := hx.1; show k1 < σ.T.ep + 1; omega, hx.2.1, fun b ks v2 q1 q2 => ?_⟩
      rcases slot' q1 with ⟨g1, g2, g3⟩ | ⟨_, _, g3⟩ | ⟨_, g3, _⟩
      · rcases val' q2 with ⟨_, g4⟩ | ⟨g4, _⟩
        · exact hx.2.2 b ks v2 g3 g4
        omega
      · cases g3
      have := hx.1; omega
    | _ => exact hx
  refine ⟨hd, hn, S, _, _, hm', fun q hq => ?_⟩
  show TmpOK _ _ _ _ _ _ (upd σ.env t _ q)
  unfold upd
  split
  · rename_i h
    subst h
    have h1 := he q hq
    rw [hv] at h1
    refine ⟨by show σ.T.ep < σ.T.ep + 1; omega, h1.2.1, fun e2 es2 v2 sz2 q1 q2 q3 => ?_⟩
    rcases slot' q1 with ⟨_, g2, _⟩ | ⟨g2, _⟩ | ⟨_, _, g3⟩
    · omega
    · omega
    injection g3 with g3 g4
    subst g3; subst g4
    rcases val' q2 with ⟨g4, _⟩ | ⟨_, rfl⟩
    · omega
    exact h1.2.2 _ _ _ _ hT hvr q3
  exact TmpOK.follows hfl (he q hq)
end
end Go.Proofs.YtfmnaigedgmhoaaDoor
namespace Go.Proofs.YtfmnaigedgmhoaaDoor
open Go.RowKit
set_option linter.unusedSimpArgs false
set_option linter.unusedVariables false
set_option maxRecDepth 100000
abbrev wO (bs : BL) : AV := .own 5 (bs.map bv)
theorem bv_vc (l : BL) : vCell (l.map bv) := fun x hx c hc => by
  obtain ⟨b, _, rfl⟩ := List.mem_map.1 hx
  obtain rfl : c = _ := by simpa using hc
  exact ⟨_, rfl⟩
set_option maxHeartbeats 8000000 in
theorem C32 {bs : BL} {n : Int} (hb : bs.length ≤ 1000000) : Fn Tryd.prog 32 [wO bs] [.sl 0 0 0 bs.length, .v (.int .i64 n)] [wO (bs ++ b4 n)] [.any] := by
  refine Spec.body Tryd.func32 rfl Tryd.ntmps32 (by simp) rfl ?_; intro S0 own0 v0 w0 gl
  refine AW.gh (Gh.mv 0 (bl rfl) rfl rfl) ?_; (simp only [nA, Nat.reduceBEq, Nat.reduceEqDiff, ↓reduceIte])
  (refine AW.seq_k ?_; intro K hK)
  refine AW.region ?_
  refine awP (op_assign rfl rfl) ?_; (try simp only [nA, Nat.reduceBEq, Nat.reduceEqDiff, ↓reduceIte, Nat.reduceAdd, Nat.reduceSub])
  refine AWL.nil ?_
  (refine hK _ ?_; clear hK K; (skip))
  (refine AW.seq_k ?_; intro K hK)
  refine AW.region ?_
  refine awP (op_move rfl rfl) ?_; (simp only [nA, ↓reduceIte])
  refine awP (op_move rfl rfl) ?_; (simp only [nA, ↓reduceIte])
  refine awP (op_shr rfl rfl rfl (by decide) (shr24 n)) ?_; (try simp only [nA, Nat.reduceBEq, Nat.reduceEqDiff, ↓reduceIte, Nat.reduceAdd, Nat.reduceSub])
  refine awP (op_conv rfl rfl Tryd.underlying3 Tryd.underlying5 (wrapU _)) ?_; (try simp only [nA, Nat.reduceBEq, Nat.reduceEqDiff, ↓reduceIte, Nat.reduceAdd, Nat.reduceSub])
  refine awP (op_move rfl rfl) ?_; (simp only [nA, ↓reduceIte])
  refine awP (op_shr rfl rfl rfl (by decide) (shr16 n)) ?_; (try simp only [nA, Nat.reduceBEq, Nat.reduceEqDiff, ↓reduceIte, Nat.reduceAdd, Nat.reduceSub])
  refine awP (op_conv rfl rfl Tryd.underlying3 Tryd.underlying5 (wrapU _)) ?_; (try simp only [nA, Nat.reduceBEq, Nat.reduceEqDiff, ↓reduceIte, Nat.reduceAdd, Nat.reduceSub])
  refine awP (op_move rfl rfl) ?_; (simp only [nA, ↓reduceIte])
  refine awP (op_shr rfl rfl rfl (by decide) (shr8 n)) ?_; (try simp only [nA, Nat.reduceBEq, Nat.reduceEqDiff, ↓reduceIte, Nat.reduceAdd, Nat.reduceSub])
  refine awP (op_conv rfl rfl Tryd.underlying3 Tryd.underlying5 (wrapU _)) ?_; (try simp only [nA, Nat.reduceBEq, Nat.reduceEqDiff, ↓reduceIte, Nat.reduceAdd, Nat.reduceSub])
  refine awP (op_move rfl rfl) ?_; (simp only [nA, ↓reduceIte])
  refine awP (op_conv rfl rfl Tryd.underlying3 Tryd.underlying5 (wrapU _)) ?_; (try simp only [nA, Nat.reduceBEq, Nat.reduceEqDiff, ↓reduceIte, Nat.reduceAdd, Nat.reduceSub])
  refine awJ (OpJ.frz (op_buildSlice rfl [(0, bv (byI (n / 16777216))), (1, bv (byI (n / 65536))), (2, bv (byI (n / 256))), (3, bv (byI n))] ((b4 n).map bv) Tryd.underlying43 ze5 rfl (by simp [b4]) rfl (bv_len _) rfl (bl rfl) (by simp [b4, maxLen])) (bv_flat _) rfl) ?_; (try simp only [nA, Nat.reduceBEq, Nat.reduceEqDiff, ↓reduceIte, Nat.reduceAdd, Nat.reduceSub])
  refine awJ (op_app (rows := (b4 n).map bv) rfl rfl rfl rfl (by simp) .ro Tryd.underlying43 ze5 (by decide) (bv_len _) (by simp [b4]; omega) (by decide) (es' := (bs ++ b4 n).map bv) (by simp) (n := (bs ++ b4 n).length) (by simp)) ?_; (simp only [nA, Nat.reduceBEq, Nat.reduceEqDiff, ↓reduceIte])
  refine awP (op_assign rfl rfl) ?_; (simp only [nA])
  refine AWL.nil ?_
  (refine hK _ ?_; clear hK K; (skip))
  skip
  refine AW.ret ?_; (try simp only [thenE, inBlk, Nat.reduceEqDiff, ↓reduceIte]); exact RQ.of (.inl rfl) rfl (.own (bl rfl) rfl rfl (by simp) (by simp) .nil) (by simp) rfl (one_out rfl)
set_option maxHeartbeats 8000000 in
theorem C31 {bs : BL} {s : ByteArray} (hb : bs.length ≤ 1000000) (hs : s.size ≤ 1000000) : Fn Tryd.prog 31 [wO bs] [.sl 0 0 0 bs.length, .v (.string s)] [wO (bs ++ eWd s)] [.any] := by
  refine Spec.body Tryd.func31 rfl Tryd.ntmps31 (by simp) rfl ?_; intro S0 own0 v0 w0 gl
  refine AW.gh (Gh.mv 0 (bl rfl) rfl rfl) ?_; (simp only [nA, Nat.reduceBEq, Nat.reduceEqDiff, ↓reduceIte])
  (refine AW.seq_k ?_; intro K hK)
  refine AW.region ?_
  refine awP (op_assign rfl rfl) ?_; (try simp only [nA, Nat.reduceBEq, Nat.reduceEqDiff, ↓reduceIte, Nat.reduceAdd, Nat.reduceSub])
  refine AWL.nil ?_
  (refine hK _ ?_; clear hK K; (skip))
  (refine AW.seq_k ?_; intro K hK)
  refine AW.region ?_
  refine awP (op_move rfl rfl) ?_; (simp only [nA, ↓reduceIte])
  refine awP (op_move rfl rfl) ?_; (simp only [nA, ↓reduceIte])
  (refine awP (op_len_str rfl rfl Tryd.underlying9) ?_); (try simp only [nA, Nat.reduceBEq, Nat.reduceEqDiff, ↓reduceIte, Nat.reduceAdd, Nat.reduceSub])
  refine awJ (op_callA rfl en32 (C32 (bs := bs) (n := (s.size : Nat)) hb) (by exact rfl) (RL.cons .sl (RL.cons (.base (by exact View.same rfl)) (RL.nil))) (bv_vc _) (List.length_map _)) ?_; (simp only [nA, Nat.reduceBEq, Nat.reduceEqDiff, ↓reduceIte])
  refine awP (op_move rfl rfl) ?_; (simp only [nA, ↓reduceIte])
  refine awJ (op_app_str rfl rfl rfl rfl (by simp) Tryd.underlying43 Tryd.underlying9 ze5 (by simp [b4]; omega) (es' := (bs ++ eWd s).map bv) (by simp [eWd]) (n := (bs ++ eWd s).length) (by rw [List.length_map, List.length_append, List.length_append, wd_len, b4_len]; omega)) ?_; (simp only [nA, Nat.reduceBEq, Nat.reduceEqDiff, ↓reduceIte])
  refine awP (op_assign rfl rfl) ?_; (simp only [nA])
  refine AWL.nil ?_
  (refine hK _ ?_; clear hK K; (skip))
  skip
  refine AW.ret ?_; (try simp only [thenE, inBlk, Nat.reduceEqDiff, ↓reduceIte]); exact RQ.of (.inl rfl) rfl (.own (bl rfl) rfl rfl (by simp) (by simp) .nil) (by simp) rfl (one_out rfl)
set_option maxHeartbeats 8000000 in
theorem C34 {bs : BL} {yes : Bool} (hb : bs.length ≤ 1000000) : Fn Tryd.prog 34 [wO bs] [.sl 0 0 0 bs.length, .v (.bool yes)] [wO (bs ++ eTr yes)] [.any] := by
  refine Spec.body Tryd.func34 rfl Tryd.ntmps34 (by simp) rfl ?_; intro S0 own0 v0 w0 gl
  refine AW.gh (Gh.mv 0 (bl rfl) rfl rfl) ?_; (simp only [nA, Nat.reduceBEq, Nat.reduceEqDiff, ↓reduceIte])
  (refine AW.seq_k ?_; intro K hK)
  refine AW.region ?_
  refine awP (op_assign rfl rfl) ?_; (try simp only [nA, Nat.reduceBEq, Nat.reduceEqDiff, ↓reduceIte, Nat.reduceAdd, Nat.reduceSub])
  refine AWL.nil ?_
  (refine hK _ ?_; clear hK K; (skip))
  (refine AW.seq_k ?_; intro K hK)
  (refine AW.seq_k ?_; intro K hK)
  refine AW.region ?_
  refine awP (op_move rfl rfl) ?_; (simp only [nA, ↓reduceIte])
  refine AWL.nil ?_
  (refine hK _ ?_; clear hK K; (skip))
  refine AW.cond rfl rfl rfl (fun hc => ?_) (fun hc => ?_)
  ·
   have hc1 := hc; obtain rfl : yes = true := hc1
   (refine AW.seq_k ?_; intro K hK)
   refine AW.region ?_
   refine awP (op_move rfl rfl) ?_; (simp only [nA, ↓reduceIte])
   refine awJ (OpJ.frz (op_buildSlice rfl [(0, bv 1)] ((eTr true).map bv) Tryd.underlying43 ze5 rfl (by simp [eTr]) rfl (bv_len _) rfl (bl rfl) (by simp [eTr, maxLen])) (bv_flat _) rfl) ?_; (try simp only [nA, Nat.reduceBEq, Nat.reduceEqDiff, ↓reduceIte, Nat.reduceAdd, Nat.reduceSub])
   refine awJ (op_app (rows := (eTr true).map bv) rfl rfl rfl rfl (by simp) .ro Tryd.underlying43 ze5 (by decide) (bv_len _) (by simp [eTr]; omega) (by decide) (es' := (bs ++ eTr true).map bv) (by simp) (n := (bs ++ eTr true).length) (by simp)) ?_; (simp only [nA, Nat.reduceBEq, Nat.reduceEqDiff, ↓reduceIte])
   refine awP (op_assign rfl rfl) ?_; (simp only [nA])
   refine AWL.nil ?_
   (refine hK _ ?_; clear hK K; (skip))
   skip
   refine AW.ret ?_; (try simp only [thenE, inBlk, Nat.reduceEqDiff, ↓reduceIte]); exact RQ.of (.inl rfl) rfl (.own (bl rfl) rfl rfl (by simp) (by simp) .nil) (by simp) rfl (one_out rfl)
  have hc1 := hc; obtain rfl : yes = false := hc1
  refine AW.skip ?_
  (refine hK _ ?_; clear hK K; (skip))
  (refine AW.seq_k ?_; intro K hK)
  refine AW.region ?_
  refine awP (op_move rfl rfl) ?_; (simp only [nA, ↓reduceIte])
  refine awJ (OpJ.frz (op_buildSlice rfl [(0, bv 0)] ((eTr false).map bv) Tryd.underlying43 ze5 rfl (by simp [eTr]) rfl (bv_len _) rfl (bl rfl) (by simp [eTr, maxLen])) (bv_flat _) rfl) ?_; (try simp only [nA, Nat.reduceBEq, Nat.reduceEqDiff, ↓reduceIte, Nat.reduceAdd, Nat.reduceSub])
  refine awJ (op_app (rows := (eTr false).map bv) rfl rfl rfl rfl (by simp) .ro Tryd.underlying43 ze5 (by decide) (bv_len _) (by simp [eTr]; omega) (by decide) (es' := (bs ++ eTr false).map bv) (by simp) (n := (bs ++ eTr false).length) (by simp)) ?_; (simp only [nA, Nat.reduceBEq, Nat.reduceEqDiff, ↓reduceIte])
  refine awP (op_assign rfl rfl) ?_; (simp only [nA])
  refine AWL.nil ?_
  (refine hK _ ?_; clear hK K; (skip))
  skip
  refine AW.ret ?_; (try simp only [thenE, inBlk, Nat.reduceEqDiff, ↓reduceIte]); exact RQ.of (.inl rfl) rfl (.own (bl rfl) rfl rfl (by simp) (by simp) .nil) (by simp) rfl (one_out rfl)
end Go.Proofs.YtfmnaigedgmhoaaDoor
namespace Go.Proofs.YtfmnaigedgmhoaaDoor
open Go.RowKit
set_option linter.unusedSimpArgs false
set_option linter.unusedVariables false
set_option maxRecDepth 100000
set_option maxHeartbeats 8000000 in
theorem C33v {b0 b1 b2 b3 : BL} {p : Plate} (g0 : Fn Tryd.prog 32 [wO b0] [.sl 0 0 0 b0.length, .v (.int .i64 p.lead)] [wO b1] [.any]) (g1 : Fn Tryd.prog 32 [wO b1] [.sl 0 0 0 b1.length, .v (.int .i64 p.airline)] [wO b2] [.any]) (g2 : Fn Tryd.prog 32 [wO b2] [.sl 0 0 0 b2.length, .v (.int .i64 p.serial)] [wO b3] [.any]) :
    Fn Tryd.prog 33 [wO b0] [.sl 0 0 0 b0.length, .agg p.av] [wO b3] [.any] := by
  refine Spec.body Tryd.func33 rfl Tryd.ntmps33 (by simp) rfl ?_; intro S0 own0 v0 w0 gl
  refine AW.gh (Gh.mv 0 (bl rfl) rfl rfl) ?_; (simp only [nA, Nat.reduceBEq, Nat.reduceEqDiff, ↓reduceIte])
  (refine AW.seq_k ?_; intro K hK)
  refine AW.region ?_
  refine awJ (op_box rfl rfl rfl sz23 rfl) ?_; (simp only [nA, Nat.reduceBEq, Nat.reduceEqDiff, ↓reduceIte])
  refine awP (op_assign rfl rfl) ?_; (try simp only [nA, Nat.reduceBEq, Nat.reduceEqDiff, ↓reduceIte, Nat.reduceAdd, Nat.reduceSub])
  refine AWL.nil ?_
  (refine hK _ ?_; clear hK K; (skip))
  (refine AW.seq_k ?_; intro K hK)
  refine AW.ad [(2, 2, .own 23 [p.av])] mix rfl ?_
  refine adP 0 rfl (fun T' ok => op_move rfl rfl) (by exact ⟨rfl, trivial⟩) (by kernel_rfl) (by kernel_rfl) ?_; (simp only [nA, Nat.reduceBEq, Nat.reduceEqDiff, ↓reduceIte])
  (refine adP 1 rfl (fun T' ok => op_fa_ptr rfl rfl (by exact ok.1) fl23_0 (by exact sz3) (by decide) rfl) (by exact ⟨rfl, trivial⟩) (by kernel_rfl) (by kernel_rfl) ?_); (try simp only [nA, Nat.reduceBEq, Nat.reduceEqDiff, ↓reduceIte, Nat.reduceAdd, Nat.reduceSub])
  (refine adR 2 rfl (fun T' ok => op_load_ptr1 rfl rfl (by exact ok.1) rfl ag3 rfl rfl) (by exact ⟨rfl, trivial⟩) (by kernel_rfl) (by kernel_rfl) ?_); (try simp only [nA, Nat.reduceBEq, Nat.reduceEqDiff, ↓reduceIte, Nat.reduceAdd, Nat.reduceSub])
  (refine adP 4 rfl (fun T' ok => op_fa_ptr rfl rfl (by exact ok.1) fl23_1 (by exact sz3) (by decide) rfl) (by exact ⟨rfl, trivial⟩) (by kernel_rfl) (by kernel_rfl) ?_); (try simp only [nA, Nat.reduceBEq, Nat.reduceEqDiff, ↓reduceIte, Nat.reduceAdd, Nat.reduceSub])
  (refine adR 5 rfl (fun T' ok => op_load_ptr1 rfl rfl (by exact ok.1) rfl ag3 rfl rfl) (by exact ⟨rfl, trivial⟩) (by kernel_rfl) (by kernel_rfl) ?_); (try simp only [nA, Nat.reduceBEq, Nat.reduceEqDiff, ↓reduceIte, Nat.reduceAdd, Nat.reduceSub])
  (refine adP 7 rfl (fun T' ok => op_fa_ptr rfl rfl (by exact ok.1) fl23_2 (by exact sz3) (by decide) rfl) (by exact ⟨rfl, trivial⟩) (by kernel_rfl) (by kernel_rfl) ?_); (try simp only [nA, Nat.reduceBEq, Nat.reduceEqDiff, ↓reduceIte, Nat.reduceAdd, Nat.reduceSub])
  (refine adR 8 rfl (fun T' ok => op_load_ptr1 rfl rfl (by exact ok.1) rfl ag3 rfl rfl) (by exact ⟨rfl, trivial⟩) (by kernel_rfl) (by kernel_rfl) ?_); (try simp only [nA, Nat.reduceBEq, Nat.reduceEqDiff, ↓reduceIte, Nat.reduceAdd, Nat.reduceSub])
  refine adJ 3 rfl (op_callA rfl en32 g0 (by exact rfl) (RL.cons .sl (RL.cons (.base (by exact View.same rfl)) (RL.nil))) (bv_vc _) (List.length_map _)) (by kernel_rfl) (by exact ⟨rfl, trivial⟩) ?_; (simp only [nA, Nat.reduceBEq, Nat.reduceEqDiff, ↓reduceIte])
  refine adJ 6 rfl (op_callA rfl en32 g1 (by exact rfl) (RL.cons .sl (RL.cons (.base (by exact View.same rfl)) (RL.nil))) (bv_vc _) (List.length_map _)) (by kernel_rfl) (by exact ⟨rfl, trivial⟩) ?_; (simp only [nA, Nat.reduceBEq, Nat.reduceEqDiff, ↓reduceIte])
  refine adJ 9 rfl (op_callA rfl en32 g2 (by exact rfl) (RL.cons .sl (RL.cons (.base (by exact View.same rfl)) (RL.nil))) (bv_vc _) (List.length_map _)) (by kernel_rfl) (by exact ⟨rfl, trivial⟩) ?_; (simp only [nA, Nat.reduceBEq, Nat.reduceEqDiff, ↓reduceIte])
  refine adP 10 rfl (fun T' ok => op_assign rfl rfl) (by exact ⟨rfl, trivial⟩) (by kernel_rfl) (by kernel_rfl) ?_; (simp only [nA])
  refine adDone (by kernel_rfl) ?_
  (refine hK _ ?_; clear hK K; (skip))
  skip
  refine AW.ret ?_; (try simp only [thenE, inBlk, Nat.reduceEqDiff, ↓reduceIte]); exact RQ.of (.inl rfl) rfl (.own (bl rfl) rfl rfl (by simp) (by simp) .nil) (by simp) rfl (one_out rfl)
set_option maxHeartbeats 8000000 in
theorem C33 {bs : BL} {p : Plate} (hb : bs.length ≤ 900000) : Fn Tryd.prog 33 [wO bs] [.sl 0 0 0 bs.length, .agg p.av] [wO (bs ++ ePl p)] [.any] := by
  have e : bs ++ ePl p = ((bs ++ b4 p.lead) ++ b4 p.airline) ++ b4 p.serial := by simp [ePl]
  rw [e]
  exact C33v (C32 (by omega)) (C32 (by rw [List.length_append, b4_len]; omega)) (C32 (by rw [List.length_append, List.length_append, b4_len, b4_len]; omega))
set_option maxHeartbeats 8000000 in
theorem C35v {b0 b1 b2 b3 b4 : BL} {f : Flight} (g0 : Fn Tryd.prog 31 [wO b0] [.sl 0 0 0 b0.length, .v (.string f.carrier)] [wO b1] [.any]) (g1 : Fn Tryd.prog 32 [wO b1] [.sl 0 0 0 b1.length, .v (.int .i64 f.number)] [wO b2] [.any]) (g2 : Fn Tryd.prog 31 [wO b2] [.sl 0 0 0 b2.length, .v (.string f.suffix)] [wO b3] [.any])
    (g3 : Fn Tryd.prog 32 [wO b3] [.sl 0 0 0 b3.length, .v (.int .i64 f.day)] [wO b4] [.any]) : Fn Tryd.prog 35 [wO b0] [.sl 0 0 0 b0.length, .agg f.av] [wO b4] [.any] := by
  refine Spec.body Tryd.func35 rfl Tryd.ntmps35 (by simp) rfl ?_; intro S0 own0 v0 w0 gl
  refine AW.gh (Gh.mv 0 (bl rfl) rfl rfl) ?_; (simp only [nA, Nat.reduceBEq, Nat.reduceEqDiff, ↓reduceIte])
  (refine AW.seq_k ?_; intro K hK)
  refine AW.region ?_
  refine awJ (op_box rfl rfl rfl sz26 rfl) ?_; (simp only [nA, Nat.reduceBEq, Nat.reduceEqDiff, ↓reduceIte])
  refine awP (op_assign rfl rfl) ?_; (try simp only [nA, Nat.reduceBEq, Nat.reduceEqDiff, ↓reduceIte, Nat.reduceAdd, Nat.reduceSub])
  refine AWL.nil ?_
  (refine hK _ ?_; clear hK K; (skip))
  (refine AW.seq_k ?_; intro K hK)
  refine AW.ad [(2, 2, .own 26 [f.av])] mix rfl ?_
  refine adP 0 rfl (fun T' ok => op_move rfl rfl) (by exact ⟨rfl, trivial⟩) (by kernel_rfl) (by kernel_rfl) ?_; (simp only [nA, Nat.reduceBEq, Nat.reduceEqDiff, ↓reduceIte])
  (refine adP 1 rfl (fun T' ok => op_fa_ptr rfl rfl (by exact ok.1) fl26_0 (by exact sz9) (by decide) rfl) (by exact ⟨rfl, trivial⟩) (by kernel_rfl) (by kernel_rfl) ?_); (try simp only [nA, Nat.reduceBEq, Nat.reduceEqDiff, ↓reduceIte, Nat.reduceAdd, Nat.reduceSub])
  (refine adR 2 rfl (fun T' ok => op_load_ptr1 rfl rfl (by exact ok.1) rfl ag9 rfl rfl) (by exact ⟨rfl, trivial⟩) (by kernel_rfl) (by kernel_rfl) ?_); (try simp only [nA, Nat.reduceBEq, Nat.reduceEqDiff, ↓reduceIte, Nat.reduceAdd, Nat.reduceSub])
  (refine adP 4 rfl (fun T' ok => op_fa_ptr rfl rfl (by exact ok.1) fl26_1 (by exact sz3) (by decide) rfl) (by exact ⟨rfl, trivial⟩) (by kernel_rfl) (by kernel_rfl) ?_); (try simp only [nA, Nat.reduceBEq, Nat.reduceEqDiff, ↓reduceIte, Nat.reduceAdd, Nat.reduceSub])
  (refine adR 5 rfl (fun T' ok => op_load_ptr1 rfl rfl (by exact ok.1) rfl ag3 rfl rfl) (by exact ⟨rfl, trivial⟩) (by kernel_rfl) (by kernel_rfl) ?_); (try simp only [nA, Nat.reduceBEq, Nat.reduceEqDiff, ↓reduceIte, Nat.reduceAdd, Nat.reduceSub])
  (refine adP 7 rfl (fun T' ok => op_fa_ptr rfl rfl (by exact ok.1) fl26_2 (by exact sz9) (by decide) rfl) (by exact ⟨rfl, trivial⟩) (by kernel_rfl) (by kernel_rfl) ?_); (try simp only [nA, Nat.reduceBEq, Nat.reduceEqDiff, ↓reduceIte, Nat.reduceAdd, Nat.reduceSub])
  (refine adR 8 rfl (fun T' ok => op_load_ptr1 rfl rfl (by exact ok.1) rfl ag9 rfl rfl) (by exact ⟨rfl, trivial⟩) (by kernel_rfl) (by kernel_rfl) ?_); (try simp only [nA, Nat.reduceBEq, Nat.reduceEqDiff, ↓reduceIte, Nat.reduceAdd, Nat.reduceSub])
  (refine adP 10 rfl (fun T' ok => op_fa_ptr rfl rfl (by exact ok.1) fl26_3 (by exact sz3) (by decide) rfl) (by exact ⟨rfl, trivial⟩) (by kernel_rfl) (by kernel_rfl) ?_); (try simp only [nA, Nat.reduceBEq, Nat.reduceEqDiff, ↓reduceIte, Nat.reduceAdd, Nat.reduceSub])
  (refine adR 11 rfl (fun T' ok => op_load_ptr1 rfl rfl (by exact ok.1) rfl ag3 rfl rfl) (by exact ⟨rfl, trivial⟩) (by kernel_rfl) (by kernel_rfl) ?_); (try simp only [nA, Nat.reduceBEq, Nat.reduceEqDiff, ↓reduceIte, Nat.reduceAdd, Nat.reduceSub])
  refine adJ 3 rfl (op_callA rfl en31 g0 (by exact rfl) (RL.cons .sl (RL.cons (.base (by exact View.same rfl)) (RL.nil))) (bv_vc _) (List.length_map _)) (by kernel_rfl) (by exact ⟨rfl, trivial⟩) ?_; (simp only [nA, Nat.reduceBEq, Nat.reduceEqDiff, ↓reduceIte])
  refine adJ 6 rfl (op_callA rfl en32 g1 (by exact rfl) (RL.cons .sl (RL.cons (.base (by exact View.same rfl)) (RL.nil))) (bv_vc _) (List.length_map _)) (by kernel_rfl) (by exact ⟨rfl, trivial⟩) ?_; (simp only [nA, Nat.reduceBEq, Nat.reduceEqDiff, ↓reduceIte])
  refine adJ 9 rfl (op_callA rfl en31 g2 (by exact rfl) (RL.cons .sl (RL.cons (.base (by exact View.same rfl)) (RL.nil))) (bv_vc _) (List.length_map _)) (by kernel_rfl) (by exact ⟨rfl, trivial⟩) ?_; (simp only [nA, Nat.reduceBEq, Nat.reduceEqDiff, ↓reduceIte])
  refine adJ 12 rfl (op_callA rfl en32 g3 (by exact rfl) (RL.cons .sl (RL.cons (.base (by exact View.same rfl)) (RL.nil))) (bv_vc _) (List.length_map _)) (by kernel_rfl) (by exact ⟨rfl, trivial⟩) ?_; (simp only [nA, Nat.reduceBEq, Nat.reduceEqDiff, ↓reduceIte])
  refine adP 13 rfl (fun T' ok => op_assign rfl rfl) (by exact ⟨rfl, trivial⟩) (by kernel_rfl) (by kernel_rfl) ?_; (simp only [nA])
  refine adDone (by kernel_rfl) ?_
  (refine hK _ ?_; clear hK K; (skip))
  skip
  refine AW.ret ?_; (try simp only [thenE, inBlk, Nat.reduceEqDiff, ↓reduceIte]); exact RQ.of (.inl rfl) rfl (.own (bl rfl) rfl rfl (by simp) (by simp) .nil) (by simp) rfl (one_out rfl)
set_option maxHeartbeats 8000000 in
theorem C35 {bs : BL} {f : Flight} (hb : bs.length ≤ 800000) (h1 : f.carrier.size ≤ 1000) (h2 : f.suffix.size ≤ 1000) : Fn Tryd.prog 35 [wO bs] [.sl 0 0 0 bs.length, .agg f.av] [wO (bs ++ eFl f)] [.any] := by
  have e : bs ++ eFl f = (((bs ++ eWd f.carrier) ++ b4 f.number) ++ eWd f.suffix) ++ b4 f.day := by simp [eFl]
  have l1 := wd_len f.carrier
  have l2 := wd_len f.suffix
  rw [e]
  exact C35v (C31 (by omega) (by omega)) (C32 (by rw [List.length_append]; omega)) (C31 (by rw [List.length_append, List.length_append, b4_len]; omega) (by omega)) (C32 (by rw [List.length_append, List.length_append, List.length_append, b4_len]; omega))
set_option maxHeartbeats 8000000 in
theorem C36v {b0 b1 b2 b3 b4 b5 b6 b7 b8 : BL} {o : Op} (g0 : Fn Tryd.prog 32 [wO b0] [.sl 0 0 0 b0.length, .v (.int .i64 o.time)] [wO b1] [.any]) (g1 : Fn Tryd.prog 32 [wO b1] [.sl 0 0 0 b1.length, .v (.int .i64 o.device)] [wO b2] [.any])
    (g2 : Fn Tryd.prog 32 [wO b2] [.sl 0 0 0 b2.length, .v (.int .i64 o.seq)] [wO b3] [.any]) (g3 : Fn Tryd.prog 32 [wO b3] [.sl 0 0 0 b3.length, .v (.int .i64 o.kind)] [wO b4] [.any]) (g4 : Fn Tryd.prog 32 [wO b4] [.sl 0 0 0 b4.length, .v (.int .i64 o.cont)] [wO b5] [.any])
    (g5 : Fn Tryd.prog 33 [wO b5] [.sl 0 0 0 b5.length, .agg o.piece.plate.av] [wO b6] [.any]) (g6 : Fn Tryd.prog 32 [wO b6] [.sl 0 0 0 b6.length, .v (.int .i64 o.piece.weight)] [wO b7] [.any]) (g7 : Fn Tryd.prog 32 [wO b7] [.sl 0 0 0 b7.length, .v (.int .i64 o.piece.category)] [wO b8] [.any]) :
    Fn Tryd.prog 36 [wO b0] [.sl 0 0 0 b0.length, .agg o.av] [wO b8] [.any] := by
  refine Spec.body Tryd.func36 rfl Tryd.ntmps36 (by simp) rfl ?_; intro S0 own0 v0 w0 gl
  refine AW.gh (Gh.mv 0 (bl rfl) rfl rfl) ?_; (simp only [nA, Nat.reduceBEq, Nat.reduceEqDiff, ↓reduceIte])
  (refine AW.seq_k ?_; intro K hK)
  refine AW.region ?_
  refine awJ (op_box rfl rfl rfl sz32 rfl) ?_; (simp only [nA, Nat.reduceBEq, Nat.reduceEqDiff, ↓reduceIte])
  refine awP (op_assign rfl rfl) ?_; (try simp only [nA, Nat.reduceBEq, Nat.reduceEqDiff, ↓reduceIte, Nat.reduceAdd, Nat.reduceSub])
  refine AWL.nil ?_
  (refine hK _ ?_; clear hK K; (skip))
  (refine AW.seq_k ?_; intro K hK)
  refine AW.ad [(2, 2, .own 32 [o.av])] mix rfl ?_
  refine adP 0 rfl (fun T' ok => op_move rfl rfl) (by exact ⟨rfl, trivial⟩) (by kernel_rfl) (by kernel_rfl) ?_; (simp only [nA, Nat.reduceBEq, Nat.reduceEqDiff, ↓reduceIte])
  (refine adP 1 rfl (fun T' ok => op_fa_ptr rfl rfl (by exact ok.1) fl32_0 (by exact sz3) (by decide) rfl) (by exact ⟨rfl, trivial⟩) (by kernel_rfl) (by kernel_rfl) ?_); (try simp only [nA, Nat.reduceBEq, Nat.reduceEqDiff, ↓reduceIte, Nat.reduceAdd, Nat.reduceSub])
  (refine adR 2 rfl (fun T' ok => op_load_ptr1 rfl rfl (by exact ok.1) rfl ag3 rfl rfl) (by exact ⟨rfl, trivial⟩) (by kernel_rfl) (by kernel_rfl) ?_); (try simp only [nA, Nat.reduceBEq, Nat.reduceEqDiff, ↓reduceIte, Nat.reduceAdd, Nat.reduceSub])
  (refine adP 4 rfl (fun T' ok => op_fa_ptr rfl rfl (by exact ok.1) fl32_1 (by exact sz3) (by decide) rfl) (by exact ⟨rfl, trivial⟩) (by kernel_rfl) (by kernel_rfl) ?_); (try simp only [nA, Nat.reduceBEq, Nat.reduceEqDiff, ↓reduceIte, Nat.reduceAdd, Nat.reduceSub])
  (refine adR 5 rfl (fun T' ok => op_load_ptr1 rfl rfl (by exact ok.1) rfl ag3 rfl rfl) (by exact ⟨rfl, trivial⟩) (by kernel_rfl) (by kernel_rfl) ?_); (try simp only [nA, Nat.reduceBEq, Nat.reduceEqDiff, ↓reduceIte, Nat.reduceAdd, Nat.reduceSub])
  (refine adP 7 rfl (fun T' ok => op_fa_ptr rfl rfl (by exact ok.1) fl32_2 (by exact sz3) (by decide) rfl) (by exact ⟨rfl, trivial⟩) (by kernel_rfl) (by kernel_rfl) ?_); (try simp only [nA, Nat.reduceBEq, Nat.reduceEqDiff, ↓reduceIte, Nat.reduceAdd, Nat.reduceSub])
  (refine adR 8 rfl (fun T' ok => op_load_ptr1 rfl rfl (by exact ok.1) rfl ag3 rfl rfl) (by exact ⟨rfl, trivial⟩) (by kernel_rfl) (by kernel_rfl) ?_); (try simp only [nA, Nat.reduceBEq, Nat.reduceEqDiff, ↓reduceIte, Nat.reduceAdd, Nat.reduceSub])
  (refine adP 10 rfl (fun T' ok => op_fa_ptr rfl rfl (by exact ok.1) fl32_3 (by exact sz3) (by decide) rfl) (by exact ⟨rfl, trivial⟩) (by kernel_rfl) (by kernel_rfl) ?_); (try simp only [nA, Nat.reduceBEq, Nat.reduceEqDiff, ↓reduceIte, Nat.reduceAdd, Nat.reduceSub])
  (refine adR 11 rfl (fun T' ok => op_load_ptr1 rfl rfl (by exact ok.1) rfl ag3 rfl rfl) (by exact ⟨rfl, trivial⟩) (by kernel_rfl) (by kernel_rfl) ?_); (try simp only [nA, Nat.reduceBEq, Nat.reduceEqDiff, ↓reduceIte, Nat.reduceAdd, Nat.reduceSub])
  (refine adP 13 rfl (fun T' ok => op_fa_ptr rfl rfl (by exact ok.1) fl32_4 (by exact sz3) (by decide) rfl) (by exact ⟨rfl, trivial⟩) (by kernel_rfl) (by kernel_rfl) ?_); (try simp only [nA, Nat.reduceBEq, Nat.reduceEqDiff, ↓reduceIte, Nat.reduceAdd, Nat.reduceSub])
  (refine adR 14 rfl (fun T' ok => op_load_ptr1 rfl rfl (by exact ok.1) rfl ag3 rfl rfl) (by exact ⟨rfl, trivial⟩) (by kernel_rfl) (by kernel_rfl) ?_); (try simp only [nA, Nat.reduceBEq, Nat.reduceEqDiff, ↓reduceIte, Nat.reduceAdd, Nat.reduceSub])
  refine adJ 3 rfl (op_callA rfl en32 g0 (by exact rfl) (RL.cons .sl (RL.cons (.base (by exact View.same rfl)) (RL.nil))) (bv_vc _) (List.length_map _)) (by kernel_rfl) (by exact ⟨rfl, trivial⟩) ?_; (simp only [nA, Nat.reduceBEq, Nat.reduceEqDiff, ↓reduceIte])
  refine adJ 6 rfl (op_callA rfl en32 g1 (by exact rfl) (RL.cons .sl (RL.cons (.base (by exact View.same rfl)) (RL.nil))) (bv_vc _) (List.length_map _)) (by kernel_rfl) (by exact ⟨rfl, trivial⟩) ?_; (simp only [nA, Nat.reduceBEq, Nat.reduceEqDiff, ↓reduceIte])
  refine adJ 9 rfl (op_callA rfl en32 g2 (by exact rfl) (RL.cons .sl (RL.cons (.base (by exact View.same rfl)) (RL.nil))) (bv_vc _) (List.length_map _)) (by kernel_rfl) (by exact ⟨rfl, trivial⟩) ?_; (simp only [nA, Nat.reduceBEq, Nat.reduceEqDiff, ↓reduceIte])
  refine adJ 12 rfl (op_callA rfl en32 g3 (by exact rfl) (RL.cons .sl (RL.cons (.base (by exact View.same rfl)) (RL.nil))) (bv_vc _) (List.length_map _)) (by kernel_rfl) (by exact ⟨rfl, trivial⟩) ?_; (simp only [nA, Nat.reduceBEq, Nat.reduceEqDiff, ↓reduceIte])
  refine adJ 15 rfl (op_callA rfl en32 g4 (by exact rfl) (RL.cons .sl (RL.cons (.base (by exact View.same rfl)) (RL.nil))) (bv_vc _) (List.length_map _)) (by kernel_rfl) (by exact ⟨rfl, trivial⟩) ?_; (simp only [nA, Nat.reduceBEq, Nat.reduceEqDiff, ↓reduceIte])
  refine adP 16 rfl (fun T' ok => op_assign rfl rfl) (by exact ⟨rfl, trivial⟩) (by kernel_rfl) (by kernel_rfl) ?_; (simp only [nA])
  refine adDone (by kernel_rfl) ?_
  (refine hK _ ?_; clear hK K; (skip))
  (refine AW.seq_k ?_; intro K hK)
  refine AW.ad [(2, 2, .own 32 [o.av])] mix rfl ?_
  refine adP 0 rfl (fun T' ok => op_move rfl rfl) (by exact ⟨rfl, trivial⟩) (by kernel_rfl) (by kernel_rfl) ?_; (simp only [nA, Nat.reduceBEq, Nat.reduceEqDiff, ↓reduceIte])
  (refine adP 1 rfl (fun T' ok => op_fa_ptr rfl rfl (by exact ok.1) fl32_5 (by exact sz30) (by decide) rfl) (by exact ⟨rfl, trivial⟩) (by kernel_rfl) (by kernel_rfl) ?_); (try simp only [nA, Nat.reduceBEq, Nat.reduceEqDiff, ↓reduceIte, Nat.reduceAdd, Nat.reduceSub])
  (refine adP 2 rfl (fun T' ok => op_fa_ptr rfl rfl (by exact ok.1) fl30_0 (by exact sz23) (by decide) rfl) (by exact ⟨rfl, trivial⟩) (by kernel_rfl) (by kernel_rfl) ?_); (simp only [nA, Nat.reduceBEq, Nat.reduceEqDiff, ↓reduceIte])
  (refine adR 3 rfl (fun T' ok => op_load_ptr rfl rfl (by exact ok.1) rfl ag23 sz23 (bl rfl) rfl) (by exact ⟨rfl, trivial⟩) (by kernel_rfl) (by kernel_rfl) ?_); (try simp only [nA, Nat.reduceBEq, Nat.reduceEqDiff, ↓reduceIte, Nat.reduceAdd, Nat.reduceSub])
  (refine adP 5 rfl (fun T' ok => op_fa_ptr rfl rfl (by exact ok.1) fl32_5 (by exact sz30) (by decide) rfl) (by exact ⟨rfl, trivial⟩) (by kernel_rfl) (by kernel_rfl) ?_); (try simp only [nA, Nat.reduceBEq, Nat.reduceEqDiff, ↓reduceIte, Nat.reduceAdd, Nat.reduceSub])
  (refine adP 6 rfl (fun T' ok => op_fa_ptr rfl rfl (by exact ok.1) fl30_1 (by exact sz3) (by decide) rfl) (by exact ⟨rfl, trivial⟩) (by kernel_rfl) (by kernel_rfl) ?_); (simp only [nA, Nat.reduceBEq, Nat.reduceEqDiff, ↓reduceIte])
  (refine adR 7 rfl (fun T' ok => op_load_ptr1 rfl rfl (by exact ok.1) rfl ag3 rfl rfl) (by exact ⟨rfl, trivial⟩) (by kernel_rfl) (by kernel_rfl) ?_); (try simp only [nA, Nat.reduceBEq, Nat.reduceEqDiff, ↓reduceIte, Nat.reduceAdd, Nat.reduceSub])
  (refine adP 9 rfl (fun T' ok => op_fa_ptr rfl rfl (by exact ok.1) fl32_5 (by exact sz30) (by decide) rfl) (by exact ⟨rfl, trivial⟩) (by kernel_rfl) (by kernel_rfl) ?_); (try simp only [nA, Nat.reduceBEq, Nat.reduceEqDiff, ↓reduceIte, Nat.reduceAdd, Nat.reduceSub])
  (refine adP 10 rfl (fun T' ok => op_fa_ptr rfl rfl (by exact ok.1) fl30_2 (by exact sz3) (by decide) rfl) (by exact ⟨rfl, trivial⟩) (by kernel_rfl) (by kernel_rfl) ?_); (simp only [nA, Nat.reduceBEq, Nat.reduceEqDiff, ↓reduceIte])
  (refine adR 11 rfl (fun T' ok => op_load_ptr1 rfl rfl (by exact ok.1) rfl ag3 rfl rfl) (by exact ⟨rfl, trivial⟩) (by kernel_rfl) (by kernel_rfl) ?_); (try simp only [nA, Nat.reduceBEq, Nat.reduceEqDiff, ↓reduceIte, Nat.reduceAdd, Nat.reduceSub])
  refine adJ 4 rfl (op_callA rfl en33 g5 (by exact rfl) (RL.cons .sl (RL.cons (.base (by exact View.same rfl)) (RL.nil))) (bv_vc _) (List.length_map _)) (by kernel_rfl) (by exact ⟨rfl, trivial⟩) ?_; (simp only [nA, Nat.reduceBEq, Nat.reduceEqDiff, ↓reduceIte])
  refine adJ 8 rfl (op_callA rfl en32 g6 (by exact rfl) (RL.cons .sl (RL.cons (.base (by exact View.same rfl)) (RL.nil))) (bv_vc _) (List.length_map _)) (by kernel_rfl) (by exact ⟨rfl, trivial⟩) ?_; (simp only [nA, Nat.reduceBEq, Nat.reduceEqDiff, ↓reduceIte])
  refine adJ 12 rfl (op_callA rfl en32 g7 (by exact rfl) (RL.cons .sl (RL.cons (.base (by exact View.same rfl)) (RL.nil))) (bv_vc _) (List.length_map _)) (by kernel_rfl) (by exact ⟨rfl, trivial⟩) ?_; (simp only [nA, Nat.reduceBEq, Nat.reduceEqDiff, ↓reduceIte])
  refine adP 13 rfl (fun T' ok => op_assign rfl rfl) (by exact ⟨rfl, trivial⟩) (by kernel_rfl) (by kernel_rfl) ?_; (simp only [nA])
  refine adDone (by kernel_rfl) ?_
  (refine hK _ ?_; clear hK K; (skip))
  skip
  refine AW.ret ?_; (try simp only [thenE, inBlk, Nat.reduceEqDiff, ↓reduceIte]); exact RQ.of (.inl rfl) rfl (.own (bl rfl) rfl rfl (by simp) (by simp) .nil) (by simp) rfl (one_out rfl)
set_option maxHeartbeats 8000000 in
theorem C36 {bs : BL} {o : Op} (hb : bs.length ≤ 800000) : Fn Tryd.prog 36 [wO bs] [.sl 0 0 0 bs.length, .agg o.av] [wO (bs ++ eOp o)] [.any] := by
  have e : bs ++ eOp o = (((((((bs ++ b4 o.time) ++ b4 o.device) ++ b4 o.seq) ++ b4 o.kind) ++ b4 o.cont) ++ ePl o.piece.plate) ++ b4 o.piece.weight) ++ b4 o.piece.category := by simp [eOp, ePi]
  rw [e]
  have l : ∀ (b : BL) (n : Int), (b ++ b4 n).length = b.length + 4 := fun b n => by rw [List.length_append, b4_len]
  have l2 : ∀ (b : BL) (p : Plate), (b ++ ePl p).length = b.length + 12 := fun b p => by rw [List.length_append, pl_len]
  exact C36v (C32 (by omega)) (C32 (by simp only [l]; omega)) (C32 (by simp only [l]; omega)) (C32 (by simp only [l]; omega)) (C32 (by simp only [l]; omega)) (C33 (by simp only [l]; omega)) (C32 (by simp only [l, l2]; omega)) (C32 (by simp only [l, l2]; omega))
end Go.Proofs.YtfmnaigedgmhoaaDoor
