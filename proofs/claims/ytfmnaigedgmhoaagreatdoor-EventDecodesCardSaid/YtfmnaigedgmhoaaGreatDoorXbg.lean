import Derived.Test.YtfmnaigedgmhoaaGreatDoorXbf
namespace Go.Proofs.YtfmnaigedgmhoaaGreatDoor
open Go.RowKit
set_option linter.unusedSimpArgs false
set_option linter.unusedVariables false
set_option maxRecDepth 100000
set_option maxHeartbeats 8000000 in
theorem C16v {b0 b1 b2 b3 : BL} {p : Plate} (g0 : Fn Tryz.prog 15 [wO b0] [.sl 0 0 0 b0.length, .v (.int .i64 p.lead)] [wO b1] [.any]) (g1 : Fn Tryz.prog 15 [wO b1] [.sl 0 0 0 b1.length, .v (.int .i64 p.airline)] [wO b2] [.any]) (g2 : Fn Tryz.prog 15 [wO b2] [.sl 0 0 0 b2.length, .v (.int .i64 p.serial)] [wO b3] [.any]) :
    Fn Tryz.prog 16 [wO b0] [.sl 0 0 0 b0.length, .agg p.av] [wO b3] [.any] := by
  refine Spec.body Tryz.func16 rfl Tryz.ntmps16 (by simp) rfl ?_; intro S0 own0 v0 w0 gl
  refine AW.gh (Gh.mv 0 (bl rfl) rfl rfl) ?_; (simp only [nA, Nat.reduceBEq, Nat.reduceEqDiff, ↓reduceIte])
  (refine AW.seq_k ?_; intro K hK)
  refine AW.region ?_
  refine awJ (op_box rfl rfl rfl sz30 rfl) ?_; (simp only [nA, Nat.reduceBEq, Nat.reduceEqDiff, ↓reduceIte])
  refine awP (op_assign rfl rfl) ?_; (try simp only [nA, Nat.reduceBEq, Nat.reduceEqDiff, ↓reduceIte, Nat.reduceAdd, Nat.reduceSub])
  refine AWL.nil ?_
  (refine hK _ ?_; clear hK K; (skip))
  (refine AW.seq_k ?_; intro K hK)
  refine AW.ad [(2, 2, .own 30 [p.av])] mix rfl ?_
  refine adP 0 rfl (fun T' ok => op_move rfl rfl) (by exact ⟨rfl, trivial⟩) (by kernel_rfl) (by kernel_rfl) ?_; (simp only [nA, Nat.reduceBEq, Nat.reduceEqDiff, ↓reduceIte])
  (refine adP 1 rfl (fun T' ok => op_fa_ptr rfl rfl (by exact ok.1) fl30_0 (by exact sz3) (by decide) rfl) (by exact ⟨rfl, trivial⟩) (by kernel_rfl) (by kernel_rfl) ?_); (try simp only [nA, Nat.reduceBEq, Nat.reduceEqDiff, ↓reduceIte, Nat.reduceAdd, Nat.reduceSub])
  (refine adR 2 rfl (fun T' ok => op_load_ptr1 rfl rfl (by exact ok.1) rfl ag3 rfl rfl) (by exact ⟨rfl, trivial⟩) (by kernel_rfl) (by kernel_rfl) ?_); (try simp only [nA, Nat.reduceBEq, Nat.reduceEqDiff, ↓reduceIte, Nat.reduceAdd, Nat.reduceSub])
  (refine adP 4 rfl (fun T' ok => op_fa_ptr rfl rfl (by exact ok.1) fl30_1 (by exact sz3) (by decide) rfl) (by exact ⟨rfl, trivial⟩) (by kernel_rfl) (by kernel_rfl) ?_); (try simp only [nA, Nat.reduceBEq, Nat.reduceEqDiff, ↓reduceIte, Nat.reduceAdd, Nat.reduceSub])
  (refine adR 5 rfl (fun T' ok => op_load_ptr1 rfl rfl (by exact ok.1) rfl ag3 rfl rfl) (by exact ⟨rfl, trivial⟩) (by kernel_rfl) (by kernel_rfl) ?_); (try simp only [nA, Nat.reduceBEq, Nat.reduceEqDiff, ↓reduceIte, Nat.reduceAdd, Nat.reduceSub])
  (refine adP 7 rfl (fun T' ok => op_fa_ptr rfl rfl (by exact ok.1) fl30_2 (by exact sz3) (by decide) rfl) (by exact ⟨rfl, trivial⟩) (by kernel_rfl) (by kernel_rfl) ?_); (try simp only [nA, Nat.reduceBEq, Nat.reduceEqDiff, ↓reduceIte, Nat.reduceAdd, Nat.reduceSub])
  (refine adR 8 rfl (fun T' ok => op_load_ptr1 rfl rfl (by exact ok.1) rfl ag3 rfl rfl) (by exact ⟨rfl, trivial⟩) (by kernel_rfl) (by kernel_rfl) ?_); (try simp only [nA, Nat.reduceBEq, Nat.reduceEqDiff, ↓reduceIte, Nat.reduceAdd, Nat.reduceSub])
  refine adJ 3 rfl (op_callA rfl en15 g0 (by exact rfl) (RL.cons .sl (RL.cons (.base (by exact View.same rfl)) (RL.nil))) (bv_vc _) (List.length_map _)) (by kernel_rfl) (by exact ⟨rfl, trivial⟩) ?_; (simp only [nA, Nat.reduceBEq, Nat.reduceEqDiff, ↓reduceIte])
  refine adJ 6 rfl (op_callA rfl en15 g1 (by exact rfl) (RL.cons .sl (RL.cons (.base (by exact View.same rfl)) (RL.nil))) (bv_vc _) (List.length_map _)) (by kernel_rfl) (by exact ⟨rfl, trivial⟩) ?_; (simp only [nA, Nat.reduceBEq, Nat.reduceEqDiff, ↓reduceIte])
  refine adJ 9 rfl (op_callA rfl en15 g2 (by exact rfl) (RL.cons .sl (RL.cons (.base (by exact View.same rfl)) (RL.nil))) (bv_vc _) (List.length_map _)) (by kernel_rfl) (by exact ⟨rfl, trivial⟩) ?_; (simp only [nA, Nat.reduceBEq, Nat.reduceEqDiff, ↓reduceIte])
  refine adP 10 rfl (fun T' ok => op_assign rfl rfl) (by exact ⟨rfl, trivial⟩) (by kernel_rfl) (by kernel_rfl) ?_; (simp only [nA])
  refine adDone (by kernel_rfl) ?_
  (refine hK _ ?_; clear hK K; (skip))
  skip
  refine AW.ret ?_; (try simp only [thenE, inBlk, Nat.reduceEqDiff, ↓reduceIte]); exact RQ.of (.inl rfl) rfl (.own (bl rfl) rfl rfl (by simp) (by simp) .nil) (by simp) rfl (one_out rfl)
set_option maxHeartbeats 8000000 in
theorem C16 {bs : BL} {p : Plate} (hb : bs.length ≤ 900000) : Fn Tryz.prog 16 [wO bs] [.sl 0 0 0 bs.length, .agg p.av] [wO (bs ++ ePl p)] [.any] := by
  have e : bs ++ ePl p = ((bs ++ b4 p.lead) ++ b4 p.airline) ++ b4 p.serial := by simp [ePl]
  rw [e]
  exact C16v (C15 (by omega)) (C15 (by rw [List.length_append, b4_len]; omega)) (C15 (by rw [List.length_append, List.length_append, b4_len, b4_len]; omega))
set_option maxHeartbeats 8000000 in
theorem C18v {b0 b1 b2 b3 b4 : BL} {f : Flight} (g0 : Fn Tryz.prog 14 [wO b0] [.sl 0 0 0 b0.length, .v (.string f.carrier)] [wO b1] [.any]) (g1 : Fn Tryz.prog 15 [wO b1] [.sl 0 0 0 b1.length, .v (.int .i64 f.number)] [wO b2] [.any]) (g2 : Fn Tryz.prog 14 [wO b2] [.sl 0 0 0 b2.length, .v (.string f.suffix)] [wO b3] [.any])
    (g3 : Fn Tryz.prog 15 [wO b3] [.sl 0 0 0 b3.length, .v (.int .i64 f.day)] [wO b4] [.any]) : Fn Tryz.prog 18 [wO b0] [.sl 0 0 0 b0.length, .agg f.av] [wO b4] [.any] := by
  refine Spec.body Tryz.func18 rfl Tryz.ntmps18 (by simp) rfl ?_; intro S0 own0 v0 w0 gl
  refine AW.gh (Gh.mv 0 (bl rfl) rfl rfl) ?_; (simp only [nA, Nat.reduceBEq, Nat.reduceEqDiff, ↓reduceIte])
  (refine AW.seq_k ?_; intro K hK)
  refine AW.region ?_
  refine awJ (op_box rfl rfl rfl sz33 rfl) ?_; (simp only [nA, Nat.reduceBEq, Nat.reduceEqDiff, ↓reduceIte])
  refine awP (op_assign rfl rfl) ?_; (try simp only [nA, Nat.reduceBEq, Nat.reduceEqDiff, ↓reduceIte, Nat.reduceAdd, Nat.reduceSub])
  refine AWL.nil ?_
  (refine hK _ ?_; clear hK K; (skip))
  (refine AW.seq_k ?_; intro K hK)
  refine AW.ad [(2, 2, .own 33 [f.av])] mix rfl ?_
  refine adP 0 rfl (fun T' ok => op_move rfl rfl) (by exact ⟨rfl, trivial⟩) (by kernel_rfl) (by kernel_rfl) ?_; (simp only [nA, Nat.reduceBEq, Nat.reduceEqDiff, ↓reduceIte])
  (refine adP 1 rfl (fun T' ok => op_fa_ptr rfl rfl (by exact ok.1) fl33_0 (by exact sz9) (by decide) rfl) (by exact ⟨rfl, trivial⟩) (by kernel_rfl) (by kernel_rfl) ?_); (try simp only [nA, Nat.reduceBEq, Nat.reduceEqDiff, ↓reduceIte, Nat.reduceAdd, Nat.reduceSub])
  (refine adR 2 rfl (fun T' ok => op_load_ptr1 rfl rfl (by exact ok.1) rfl ag9 rfl rfl) (by exact ⟨rfl, trivial⟩) (by kernel_rfl) (by kernel_rfl) ?_); (try simp only [nA, Nat.reduceBEq, Nat.reduceEqDiff, ↓reduceIte, Nat.reduceAdd, Nat.reduceSub])
  (refine adP 4 rfl (fun T' ok => op_fa_ptr rfl rfl (by exact ok.1) fl33_1 (by exact sz3) (by decide) rfl) (by exact ⟨rfl, trivial⟩) (by kernel_rfl) (by kernel_rfl) ?_); (try simp only [nA, Nat.reduceBEq, Nat.reduceEqDiff, ↓reduceIte, Nat.reduceAdd, Nat.reduceSub])
  (refine adR 5 rfl (fun T' ok => op_load_ptr1 rfl rfl (by exact ok.1) rfl ag3 rfl rfl) (by exact ⟨rfl, trivial⟩) (by kernel_rfl) (by kernel_rfl) ?_); (try simp only [nA, Nat.reduceBEq, Nat.reduceEqDiff, ↓reduceIte, Nat.reduceAdd, Nat.reduceSub])
  (refine adP 7 rfl (fun T' ok => op_fa_ptr rfl rfl (by exact ok.1) fl33_2 (by exact sz9) (by decide) rfl) (by exact ⟨rfl, trivial⟩) (by kernel_rfl) (by kernel_rfl) ?_); (try simp only [nA, Nat.reduceBEq, Nat.reduceEqDiff, ↓reduceIte, Nat.reduceAdd, Nat.reduceSub])
  (refine adR 8 rfl (fun T' ok => op_load_ptr1 rfl rfl (by exact ok.1) rfl ag9 rfl rfl) (by exact ⟨rfl, trivial⟩) (by kernel_rfl) (by kernel_rfl) ?_); (try simp only [nA, Nat.reduceBEq, Nat.reduceEqDiff, ↓reduceIte, Nat.reduceAdd, Nat.reduceSub])
  (refine adP 10 rfl (fun T' ok => op_fa_ptr rfl rfl (by exact ok.1) fl33_3 (by exact sz3) (by decide) rfl) (by exact ⟨rfl, trivial⟩) (by kernel_rfl) (by kernel_rfl) ?_); (try simp only [nA, Nat.reduceBEq, Nat.reduceEqDiff, ↓reduceIte, Nat.reduceAdd, Nat.reduceSub])
  (refine adR 11 rfl (fun T' ok => op_load_ptr1 rfl rfl (by exact ok.1) rfl ag3 rfl rfl) (by exact ⟨rfl, trivial⟩) (by kernel_rfl) (by kernel_rfl) ?_); (try simp only [nA, Nat.reduceBEq, Nat.reduceEqDiff, ↓reduceIte, Nat.reduceAdd, Nat.reduceSub])
  refine adJ 3 rfl (op_callA rfl en14 g0 (by exact rfl) (RL.cons .sl (RL.cons (.base (by exact View.same rfl)) (RL.nil))) (bv_vc _) (List.length_map _)) (by kernel_rfl) (by exact ⟨rfl, trivial⟩) ?_; (simp only [nA, Nat.reduceBEq, Nat.reduceEqDiff, ↓reduceIte])
  refine adJ 6 rfl (op_callA rfl en15 g1 (by exact rfl) (RL.cons .sl (RL.cons (.base (by exact View.same rfl)) (RL.nil))) (bv_vc _) (List.length_map _)) (by kernel_rfl) (by exact ⟨rfl, trivial⟩) ?_; (simp only [nA, Nat.reduceBEq, Nat.reduceEqDiff, ↓reduceIte])
  refine adJ 9 rfl (op_callA rfl en14 g2 (by exact rfl) (RL.cons .sl (RL.cons (.base (by exact View.same rfl)) (RL.nil))) (bv_vc _) (List.length_map _)) (by kernel_rfl) (by exact ⟨rfl, trivial⟩) ?_; (simp only [nA, Nat.reduceBEq, Nat.reduceEqDiff, ↓reduceIte])
  refine adJ 12 rfl (op_callA rfl en15 g3 (by exact rfl) (RL.cons .sl (RL.cons (.base (by exact View.same rfl)) (RL.nil))) (bv_vc _) (List.length_map _)) (by kernel_rfl) (by exact ⟨rfl, trivial⟩) ?_; (simp only [nA, Nat.reduceBEq, Nat.reduceEqDiff, ↓reduceIte])
  refine adP 13 rfl (fun T' ok => op_assign rfl rfl) (by exact ⟨rfl, trivial⟩) (by kernel_rfl) (by kernel_rfl) ?_; (simp only [nA])
  refine adDone (by kernel_rfl) ?_
  (refine hK _ ?_; clear hK K; (skip))
  skip
  refine AW.ret ?_; (try simp only [thenE, inBlk, Nat.reduceEqDiff, ↓reduceIte]); exact RQ.of (.inl rfl) rfl (.own (bl rfl) rfl rfl (by simp) (by simp) .nil) (by simp) rfl (one_out rfl)
set_option maxHeartbeats 8000000 in
theorem C18 {bs : BL} {f : Flight} (hb : bs.length ≤ 800000) (h1 : f.carrier.size ≤ 1000) (h2 : f.suffix.size ≤ 1000) : Fn Tryz.prog 18 [wO bs] [.sl 0 0 0 bs.length, .agg f.av] [wO (bs ++ eFl f)] [.any] := by
  have e : bs ++ eFl f = (((bs ++ eWd f.carrier) ++ b4 f.number) ++ eWd f.suffix) ++ b4 f.day := by simp [eFl]
  have l1 := wd_len f.carrier
  have l2 := wd_len f.suffix
  rw [e]
  exact C18v (C14 (by omega) (by omega)) (C15 (by rw [List.length_append]; omega)) (C14 (by rw [List.length_append, List.length_append, b4_len]; omega) (by omega)) (C15 (by rw [List.length_append, List.length_append, List.length_append, b4_len]; omega))
set_option maxHeartbeats 8000000 in
theorem C19v {b0 b1 b2 b3 b4 b5 b6 b7 b8 : BL} {o : Op} (g0 : Fn Tryz.prog 15 [wO b0] [.sl 0 0 0 b0.length, .v (.int .i64 o.time)] [wO b1] [.any]) (g1 : Fn Tryz.prog 15 [wO b1] [.sl 0 0 0 b1.length, .v (.int .i64 o.device)] [wO b2] [.any])
    (g2 : Fn Tryz.prog 15 [wO b2] [.sl 0 0 0 b2.length, .v (.int .i64 o.seq)] [wO b3] [.any]) (g3 : Fn Tryz.prog 15 [wO b3] [.sl 0 0 0 b3.length, .v (.int .i64 o.kind)] [wO b4] [.any]) (g4 : Fn Tryz.prog 15 [wO b4] [.sl 0 0 0 b4.length, .v (.int .i64 o.cont)] [wO b5] [.any])
    (g5 : Fn Tryz.prog 16 [wO b5] [.sl 0 0 0 b5.length, .agg o.piece.plate.av] [wO b6] [.any]) (g6 : Fn Tryz.prog 15 [wO b6] [.sl 0 0 0 b6.length, .v (.int .i64 o.piece.weight)] [wO b7] [.any]) (g7 : Fn Tryz.prog 15 [wO b7] [.sl 0 0 0 b7.length, .v (.int .i64 o.piece.category)] [wO b8] [.any]) :
    Fn Tryz.prog 19 [wO b0] [.sl 0 0 0 b0.length, .agg o.av] [wO b8] [.any] := by
  refine Spec.body Tryz.func19 rfl Tryz.ntmps19 (by simp) rfl ?_; intro S0 own0 v0 w0 gl
  refine AW.gh (Gh.mv 0 (bl rfl) rfl rfl) ?_; (simp only [nA, Nat.reduceBEq, Nat.reduceEqDiff, ↓reduceIte])
  (refine AW.seq_k ?_; intro K hK)
  refine AW.region ?_
  refine awJ (op_box rfl rfl rfl sz39 rfl) ?_; (simp only [nA, Nat.reduceBEq, Nat.reduceEqDiff, ↓reduceIte])
  refine awP (op_assign rfl rfl) ?_; (try simp only [nA, Nat.reduceBEq, Nat.reduceEqDiff, ↓reduceIte, Nat.reduceAdd, Nat.reduceSub])
  refine AWL.nil ?_
  (refine hK _ ?_; clear hK K; (skip))
  (refine AW.seq_k ?_; intro K hK)
  refine AW.ad [(2, 2, .own 39 [o.av])] mix rfl ?_
  refine adP 0 rfl (fun T' ok => op_move rfl rfl) (by exact ⟨rfl, trivial⟩) (by kernel_rfl) (by kernel_rfl) ?_; (simp only [nA, Nat.reduceBEq, Nat.reduceEqDiff, ↓reduceIte])
  (refine adP 1 rfl (fun T' ok => op_fa_ptr rfl rfl (by exact ok.1) fl39_0 (by exact sz3) (by decide) rfl) (by exact ⟨rfl, trivial⟩) (by kernel_rfl) (by kernel_rfl) ?_); (try simp only [nA, Nat.reduceBEq, Nat.reduceEqDiff, ↓reduceIte, Nat.reduceAdd, Nat.reduceSub])
  (refine adR 2 rfl (fun T' ok => op_load_ptr1 rfl rfl (by exact ok.1) rfl ag3 rfl rfl) (by exact ⟨rfl, trivial⟩) (by kernel_rfl) (by kernel_rfl) ?_); (try simp only [nA, Nat.reduceBEq, Nat.reduceEqDiff, ↓reduceIte, Nat.reduceAdd, Nat.reduceSub])
  (refine adP 4 rfl (fun T' ok => op_fa_ptr rfl rfl (by exact ok.1) fl39_1 (by exact sz3) (by decide) rfl) (by exact ⟨rfl, trivial⟩) (by kernel_rfl) (by kernel_rfl) ?_); (try simp only [nA, Nat.reduceBEq, Nat.reduceEqDiff, ↓reduceIte, Nat.reduceAdd, Nat.reduceSub])
  (refine adR 5 rfl (fun T' ok => op_load_ptr1 rfl rfl (by exact ok.1) rfl ag3 rfl rfl) (by exact ⟨rfl, trivial⟩) (by kernel_rfl) (by kernel_rfl) ?_); (try simp only [nA, Nat.reduceBEq, Nat.reduceEqDiff, ↓reduceIte, Nat.reduceAdd, Nat.reduceSub])
  (refine adP 7 rfl (fun T' ok => op_fa_ptr rfl rfl (by exact ok.1) fl39_2 (by exact sz3) (by decide) rfl) (by exact ⟨rfl, trivial⟩) (by kernel_rfl) (by kernel_rfl) ?_); (try simp only [nA, Nat.reduceBEq, Nat.reduceEqDiff, ↓reduceIte, Nat.reduceAdd, Nat.reduceSub])
  (refine adR 8 rfl (fun T' ok => op_load_ptr1 rfl rfl (by exact ok.1) rfl ag3 rfl rfl) (by exact ⟨rfl, trivial⟩) (by kernel_rfl) (by kernel_rfl) ?_); (try simp only [nA, Nat.reduceBEq, Nat.reduceEqDiff, ↓reduceIte, Nat.reduceAdd, Nat.reduceSub])
  (refine adP 10 rfl (fun T' ok => op_fa_ptr rfl rfl (by exact ok.1) fl39_3 (by exact sz3) (by decide) rfl) (by exact ⟨rfl, trivial⟩) (by kernel_rfl) (by kernel_rfl) ?_); (try simp only [nA, Nat.reduceBEq, Nat.reduceEqDiff, ↓reduceIte, Nat.reduceAdd, Nat.reduceSub])
  (refine adR 11 rfl (fun T' ok => op_load_ptr1 rfl rfl (by exact ok.1) rfl ag3 rfl rfl) (by exact ⟨rfl, trivial⟩) (by kernel_rfl) (by kernel_rfl) ?_); (try simp only [nA, Nat.reduceBEq, Nat.reduceEqDiff, ↓reduceIte, Nat.reduceAdd, Nat.reduceSub])
  (refine adP 13 rfl (fun T' ok => op_fa_ptr rfl rfl (by exact ok.1) fl39_4 (by exact sz3) (by decide) rfl) (by exact ⟨rfl, trivial⟩) (by kernel_rfl) (by kernel_rfl) ?_); (try simp only [nA, Nat.reduceBEq, Nat.reduceEqDiff, ↓reduceIte, Nat.reduceAdd, Nat.reduceSub])
  (refine adR 14 rfl (fun T' ok => op_load_ptr1 rfl rfl (by exact ok.1) rfl ag3 rfl rfl) (by exact ⟨rfl, trivial⟩) (by kernel_rfl) (by kernel_rfl) ?_); (try simp only [nA, Nat.reduceBEq, Nat.reduceEqDiff, ↓reduceIte, Nat.reduceAdd, Nat.reduceSub])
  refine adJ 3 rfl (op_callA rfl en15 g0 (by exact rfl) (RL.cons .sl (RL.cons (.base (by exact View.same rfl)) (RL.nil))) (bv_vc _) (List.length_map _)) (by kernel_rfl) (by exact ⟨rfl, trivial⟩) ?_; (simp only [nA, Nat.reduceBEq, Nat.reduceEqDiff, ↓reduceIte])
  refine adJ 6 rfl (op_callA rfl en15 g1 (by exact rfl) (RL.cons .sl (RL.cons (.base (by exact View.same rfl)) (RL.nil))) (bv_vc _) (List.length_map _)) (by kernel_rfl) (by exact ⟨rfl, trivial⟩) ?_; (simp only [nA, Nat.reduceBEq, Nat.reduceEqDiff, ↓reduceIte])
  refine adJ 9 rfl (op_callA rfl en15 g2 (by exact rfl) (RL.cons .sl (RL.cons (.base (by exact View.same rfl)) (RL.nil))) (bv_vc _) (List.length_map _)) (by kernel_rfl) (by exact ⟨rfl, trivial⟩) ?_; (simp only [nA, Nat.reduceBEq, Nat.reduceEqDiff, ↓reduceIte])
  refine adJ 12 rfl (op_callA rfl en15 g3 (by exact rfl) (RL.cons .sl (RL.cons (.base (by exact View.same rfl)) (RL.nil))) (bv_vc _) (List.length_map _)) (by kernel_rfl) (by exact ⟨rfl, trivial⟩) ?_; (simp only [nA, Nat.reduceBEq, Nat.reduceEqDiff, ↓reduceIte])
  refine adJ 15 rfl (op_callA rfl en15 g4 (by exact rfl) (RL.cons .sl (RL.cons (.base (by exact View.same rfl)) (RL.nil))) (bv_vc _) (List.length_map _)) (by kernel_rfl) (by exact ⟨rfl, trivial⟩) ?_; (simp only [nA, Nat.reduceBEq, Nat.reduceEqDiff, ↓reduceIte])
  refine adP 16 rfl (fun T' ok => op_assign rfl rfl) (by exact ⟨rfl, trivial⟩) (by kernel_rfl) (by kernel_rfl) ?_; (simp only [nA])
  refine adDone (by kernel_rfl) ?_
  (refine hK _ ?_; clear hK K; (skip))
  (refine AW.seq_k ?_; intro K hK)
  refine AW.ad [(2, 2, .own 39 [o.av])] mix rfl ?_
  refine adP 0 rfl (fun T' ok => op_move rfl rfl) (by exact ⟨rfl, trivial⟩) (by kernel_rfl) (by kernel_rfl) ?_; (simp only [nA, Nat.reduceBEq, Nat.reduceEqDiff, ↓reduceIte])
  (refine adP 1 rfl (fun T' ok => op_fa_ptr rfl rfl (by exact ok.1) fl39_5 (by exact sz37) (by decide) rfl) (by exact ⟨rfl, trivial⟩) (by kernel_rfl) (by kernel_rfl) ?_); (try simp only [nA, Nat.reduceBEq, Nat.reduceEqDiff, ↓reduceIte, Nat.reduceAdd, Nat.reduceSub])
  (refine adP 2 rfl (fun T' ok => op_fa_ptr rfl rfl (by exact ok.1) fl37_0 (by exact sz30) (by decide) rfl) (by exact ⟨rfl, trivial⟩) (by kernel_rfl) (by kernel_rfl) ?_); (simp only [nA, Nat.reduceBEq, Nat.reduceEqDiff, ↓reduceIte])
  (refine adR 3 rfl (fun T' ok => op_load_ptr rfl rfl (by exact ok.1) rfl ag30 sz30 (bl rfl) rfl) (by exact ⟨rfl, trivial⟩) (by kernel_rfl) (by kernel_rfl) ?_); (try simp only [nA, Nat.reduceBEq, Nat.reduceEqDiff, ↓reduceIte, Nat.reduceAdd, Nat.reduceSub])
  (refine adP 5 rfl (fun T' ok => op_fa_ptr rfl rfl (by exact ok.1) fl39_5 (by exact sz37) (by decide) rfl) (by exact ⟨rfl, trivial⟩) (by kernel_rfl) (by kernel_rfl) ?_); (try simp only [nA, Nat.reduceBEq, Nat.reduceEqDiff, ↓reduceIte, Nat.reduceAdd, Nat.reduceSub])
  (refine adP 6 rfl (fun T' ok => op_fa_ptr rfl rfl (by exact ok.1) fl37_1 (by exact sz3) (by decide) rfl) (by exact ⟨rfl, trivial⟩) (by kernel_rfl) (by kernel_rfl) ?_); (simp only [nA, Nat.reduceBEq, Nat.reduceEqDiff, ↓reduceIte])
  (refine adR 7 rfl (fun T' ok => op_load_ptr1 rfl rfl (by exact ok.1) rfl ag3 rfl rfl) (by exact ⟨rfl, trivial⟩) (by kernel_rfl) (by kernel_rfl) ?_); (try simp only [nA, Nat.reduceBEq, Nat.reduceEqDiff, ↓reduceIte, Nat.reduceAdd, Nat.reduceSub])
  (refine adP 9 rfl (fun T' ok => op_fa_ptr rfl rfl (by exact ok.1) fl39_5 (by exact sz37) (by decide) rfl) (by exact ⟨rfl, trivial⟩) (by kernel_rfl) (by kernel_rfl) ?_); (try simp only [nA, Nat.reduceBEq, Nat.reduceEqDiff, ↓reduceIte, Nat.reduceAdd, Nat.reduceSub])
  (refine adP 10 rfl (fun T' ok => op_fa_ptr rfl rfl (by exact ok.1) fl37_2 (by exact sz3) (by decide) rfl) (by exact ⟨rfl, trivial⟩) (by kernel_rfl) (by kernel_rfl) ?_); (simp only [nA, Nat.reduceBEq, Nat.reduceEqDiff, ↓reduceIte])
  (refine adR 11 rfl (fun T' ok => op_load_ptr1 rfl rfl (by exact ok.1) rfl ag3 rfl rfl) (by exact ⟨rfl, trivial⟩) (by kernel_rfl) (by kernel_rfl) ?_); (try simp only [nA, Nat.reduceBEq, Nat.reduceEqDiff, ↓reduceIte, Nat.reduceAdd, Nat.reduceSub])
  refine adJ 4 rfl (op_callA rfl en16 g5 (by exact rfl) (RL.cons .sl (RL.cons (.base (by exact View.same rfl)) (RL.nil))) (bv_vc _) (List.length_map _)) (by kernel_rfl) (by exact ⟨rfl, trivial⟩) ?_; (simp only [nA, Nat.reduceBEq, Nat.reduceEqDiff, ↓reduceIte])
  refine adJ 8 rfl (op_callA rfl en15 g6 (by exact rfl) (RL.cons .sl (RL.cons (.base (by exact View.same rfl)) (RL.nil))) (bv_vc _) (List.length_map _)) (by kernel_rfl) (by exact ⟨rfl, trivial⟩) ?_; (simp only [nA, Nat.reduceBEq, Nat.reduceEqDiff, ↓reduceIte])
  refine adJ 12 rfl (op_callA rfl en15 g7 (by exact rfl) (RL.cons .sl (RL.cons (.base (by exact View.same rfl)) (RL.nil))) (bv_vc _) (List.length_map _)) (by kernel_rfl) (by exact ⟨rfl, trivial⟩) ?_; (simp only [nA, Nat.reduceBEq, Nat.reduceEqDiff, ↓reduceIte])
  refine adP 13 rfl (fun T' ok => op_assign rfl rfl) (by exact ⟨rfl, trivial⟩) (by kernel_rfl) (by kernel_rfl) ?_; (simp only [nA])
  refine adDone (by kernel_rfl) ?_
  (refine hK _ ?_; clear hK K; (skip))
  skip
  refine AW.ret ?_; (try simp only [thenE, inBlk, Nat.reduceEqDiff, ↓reduceIte]); exact RQ.of (.inl rfl) rfl (.own (bl rfl) rfl rfl (by simp) (by simp) .nil) (by simp) rfl (one_out rfl)
set_option maxHeartbeats 8000000 in
theorem C19 {bs : BL} {o : Op} (hb : bs.length ≤ 800000) : Fn Tryz.prog 19 [wO bs] [.sl 0 0 0 bs.length, .agg o.av] [wO (bs ++ eOp o)] [.any] := by
  have e : bs ++ eOp o = (((((((bs ++ b4 o.time) ++ b4 o.device) ++ b4 o.seq) ++ b4 o.kind) ++ b4 o.cont) ++ ePl o.piece.plate) ++ b4 o.piece.weight) ++ b4 o.piece.category := by simp [eOp, ePi]
  rw [e]
  have l : ∀ (b : BL) (n : Int), (b ++ b4 n).length = b.length + 4 := fun b n => by rw [List.length_append, b4_len]
  have l2 : ∀ (b : BL) (p : Plate), (b ++ ePl p).length = b.length + 12 := fun b p => by rw [List.length_append, pl_len]
  exact C19v (C15 (by omega)) (C15 (by simp only [l]; omega)) (C15 (by simp only [l]; omega)) (C15 (by simp only [l]; omega)) (C15 (by simp only [l]; omega)) (C16 (by simp only [l]; omega)) (C15 (by simp only [l, l2]; omega)) (C15 (by simp only [l, l2]; omega))
end Go.Proofs.YtfmnaigedgmhoaaGreatDoor
namespace Go.Proofs.YtfmnaigedgmhoaaGreatDoor
open Go.RowKit
set_option linter.unusedSimpArgs false
set_option linter.unusedVariables false
set_option maxRecDepth 100000
def hd0 (x : Ev) : BL := [byI x.kind]
theorem hd_len (x : Ev) : (hd0 x).length = 1 := rfl
theorem enc_1 {x : Ev} {p : Nat} (h : fieldsL x.kind = [p]) : hd0 x ++ ePart x p = encB x := by
  unfold encB hd0
  rw [h]
  simp
theorem enc_2 {x : Ev} {p q : Nat} (h : fieldsL x.kind = [p, q]) : (hd0 x ++ ePart x p) ++ ePart x q = encB x := by
  unfold encB hd0
  rw [h]
  simp
theorem enc_0 {x : Ev} (h : fieldsL x.kind = []) : hd0 x = encB x := by
  unfold encB hd0
  rw [h]
  simp
theorem enc_3 {x : Ev} (h : fieldsL x.kind = [0, 6]) : ((hd0 x ++ b4 x.time) ++ b4 (x.reports.length : Nat)) ++ x.reports.flatMap eRp = encB x := by
  rw [← enc_2 h, List.append_assoc (hd0 x ++ b4 x.time)]; rfl
theorem enc_12 {x : Ev} (h : fieldsL x.kind = [8, 10]) : ((hd0 x ++ b4 x.device) ++ b4 (x.ops.length : Nat)) ++ x.ops.flatMap eOp = encB x := by
  rw [← enc_2 h, List.append_assoc (hd0 x ++ b4 x.device)]; rfl
theorem enc_5 {x : Ev} (h : fieldsL x.kind = [7]) : ((hd0 x ++ b4 x.rev.kind) ++ b4 x.rev.amount) ++ eFl x.rev.fl = encB x := by
  rw [← enc_1 h, List.append_assoc, List.append_assoc]; rfl
theorem app_4 (b : BL) (n : Int) : (b ++ b4 n).length = b.length + 4 := by rw [List.length_append, b4_len]
set_option maxHeartbeats 8000000 in
theorem C5 {x : Ev} (hx : x.Sm) : Fn Tryz.prog 5 [] [.agg x.av] [.ro ((encV x).1.map bv), .v (.int .i64 (encV x).2)] [] := by
  refine Spec.body Tryz.func5 rfl Tryz.ntmps5 (by simp) rfl ?_; intro S0 own0 v0 w0 gl
  (refine AW.seq_k ?_; intro K hK)
  refine AW.region ?_
  refine awJ (op_box rfl rfl rfl sz42 rfl) ?_; (simp only [nA, Nat.reduceBEq, Nat.reduceEqDiff, ↓reduceIte])
  refine awP (op_assign rfl rfl) ?_; (try simp only [nA, Nat.reduceBEq, Nat.reduceEqDiff, ↓reduceIte, Nat.reduceAdd, Nat.reduceSub])
  refine awP (op_assign rfl rfl) ?_; (try simp only [nA, Nat.reduceBEq, Nat.reduceEqDiff, ↓reduceIte, Nat.reduceAdd, Nat.reduceSub])
  refine AWL.nil ?_
  (refine hK _ ?_; clear hK K; (try simp only [nA, Nat.reduceBEq, Nat.reduceEqDiff, ↓reduceIte, Nat.reduceAdd, Nat.reduceSub]))
  (refine AW.seq_k ?_; intro K hK)
  (refine AW.seq_k ?_; intro K hK)
  refine AW.region ?_
  (refine awR (op_load_ptr rfl rfl rfl rfl ag42 sz42 (bl rfl) rfl) ?_); (try simp only [nA, Nat.reduceBEq, Nat.reduceEqDiff, ↓reduceIte, Nat.reduceAdd, Nat.reduceSub])
  refine awJ (OpQ.j (op_callQ (b := true) rfl en13 (C13 (x := x) hx) (RL.cons (by exact View.same rfl) (RL.nil)) rfl)) ?_; (try simp only [nA, Nat.reduceBEq, Nat.reduceEqDiff, ↓reduceIte, Nat.reduceAdd, Nat.reduceSub])
  refine awP (op_assign rfl rfl) ?_; (simp only [nA])
  refine AWL.nil ?_
  (refine hK _ ?_; clear hK K; (skip))
  (refine AW.seq_k ?_; intro K hK)
  refine AW.region ?_
  refine awP (op_move rfl rfl) ?_; (simp only [nA])
  (refine awP (op_neq rfl rfl rfl) ?_); (try simp only [nA, Nat.reduceBEq, Nat.reduceEqDiff, ↓reduceIte, Nat.reduceAdd, Nat.reduceSub])
  refine AWL.nil ?_
  (refine hK _ ?_; clear hK K; (skip))
  refine AW.cond rfl rfl rfl (fun hc => ?_) (fun hc => ?_)
  ·
   have hc1 := hc; have hv : valV x ≠ 0 := (by simpa using hc1); have hng : ¬ Good x := fun h => hv (valV_0.2 h)
   (refine AW.seq_k ?_; intro K hK)
   refine AW.region ?_
   refine awP (op_move rfl rfl) ?_; (simp only [nA, ↓reduceIte])
   refine awP (op_assign rfl rfl) ?_; (try simp only [nA, Nat.reduceBEq, Nat.reduceEqDiff, ↓reduceIte, Nat.reduceAdd, Nat.reduceSub])
   refine awP (op_assign rfl rfl) ?_; (simp only [nA, ↓reduceIte])
   refine AWL.nil ?_
   (refine hK _ ?_; clear hK K; (skip))
   refine AW.gh (Gh.nil (e := 5) 2 (bl rfl) rfl sz5) ?_; (simp only [nA, Nat.reduceBEq, Nat.reduceEqDiff, ↓reduceIte]); refine AW.gh (Gh.freeze 2 (bl rfl) rfl rfl (by simp) (es' := ([] : BL).map bv) rfl) ?_; (try simp only [nA, Nat.reduceBEq, Nat.reduceEqDiff, ↓reduceIte, Nat.reduceAdd, Nat.reduceSub])
   refine AW.ret ?_; (try simp only [thenE, inBlk, Nat.reduceEqDiff, ↓reduceIte]); rw [enc_no hng]; exact RQ.of0 rfl (.tmp (bl rfl) rfl rfl (.tmp (bl rfl) rfl rfl .nil))
  have hc1 := hc; have hv : valV x = 0 := (by simpa using hc1); have hG := valV_0.1 hv
  refine AW.skip ?_
  (refine hK _ ?_; clear hK K; (skip))
  (refine AW.seq_k ?_; intro K hK)
  refine AW.region ?_
  (refine awP (op_fa_ptr rfl rfl rfl fl42_0 (by exact sz3) (by decide) rfl) ?_); (try simp only [nA, Nat.reduceBEq, Nat.reduceEqDiff, ↓reduceIte, Nat.reduceAdd, Nat.reduceSub])
  (refine awR (op_load_ptr1 rfl rfl rfl rfl ag3 rfl rfl) ?_); (try simp only [nA, Nat.reduceBEq, Nat.reduceEqDiff, ↓reduceIte, Nat.reduceAdd, Nat.reduceSub])
  refine awP (op_conv rfl rfl Tryz.underlying3 Tryz.underlying5 (wrapU _)) ?_; (try simp only [nA, Nat.reduceBEq, Nat.reduceEqDiff, ↓reduceIte, Nat.reduceAdd, Nat.reduceSub])
  refine awJ (op_buildSlice rfl [(0, bv (byI x.kind))] ((hd0 x).map bv) Tryz.underlying22 ze5 rfl (by simp [hd0]) rfl (bv_len _) rfl (bl rfl) (by simp [maxLen, hd0])) ?_; (simp only [nA, Nat.reduceBEq, Nat.reduceEqDiff, ↓reduceIte])
  refine awP (op_assign rfl rfl) ?_; (simp only [nA])
  refine AWL.nil ?_
  (refine hK _ ?_; clear hK K; (skip))
  refine AW.join (fun (q : BL × Nat × Nat) => [(5, .sl 1 q.2.1 0 q.1.length)]) (fun q => ⟨[(1, .own 42 [x.av]), (q.2.1, wO q.1)], q.2.2⟩) (fun q => q.1 = encB x) ?_ ?_
  ·
   (refine AW.seq_k ?_; intro K hK)
   refine AW.region ?_
   (refine awP (op_fa_ptr rfl rfl rfl fl42_0 (by exact sz3) (by decide) rfl) ?_); (try simp only [nA, Nat.reduceBEq, Nat.reduceEqDiff, ↓reduceIte, Nat.reduceAdd, Nat.reduceSub])
   (refine awR (op_load_ptr1 rfl rfl rfl rfl ag3 rfl rfl) ?_); (try simp only [nA, Nat.reduceBEq, Nat.reduceEqDiff, ↓reduceIte, Nat.reduceAdd, Nat.reduceSub])
   refine AWL.nil ?_
   (refine hK _ ?_; clear hK K; (try simp only [nA, Nat.reduceBEq, Nat.reduceEqDiff, ↓reduceIte, Nat.reduceAdd, Nat.reduceSub]))
   refine AW.block ?_
   (refine AW.seq_k ?_; intro K hK)
   refine AW.region ?_
   (refine awP (op_eql rfl rfl rfl) ?_); (try simp only [nA, Nat.reduceBEq, Nat.reduceEqDiff, ↓reduceIte, Nat.reduceAdd, Nat.reduceSub])
   refine awP (op_assign rfl rfl) ?_; (simp only [nA])
   refine AWL.nil ?_
   (refine hK _ ?_; clear hK K; (skip))
   refine AW.cond rfl rfl rfl (fun hc => ?_) (fun hc => ?_)
   ·
    have hc2 := hc; have hk := of_decide_eq_true hc2; have hF : fieldsL x.kind = [1] := (by rw [hk]; rfl); have htx := hG.lim.1
    refine AW.region ?_
    refine awP (op_move rfl rfl) ?_; (simp only [nA, ↓reduceIte])
    (refine awP (op_fa_ptr rfl rfl rfl fl42_2 (by exact sz9) (by decide) rfl) ?_); (try simp only [nA, Nat.reduceBEq, Nat.reduceEqDiff, ↓reduceIte, Nat.reduceAdd, Nat.reduceSub])
    (refine awR (op_load_ptr1 rfl rfl rfl rfl ag9 rfl rfl) ?_); (try simp only [nA, Nat.reduceBEq, Nat.reduceEqDiff, ↓reduceIte, Nat.reduceAdd, Nat.reduceSub])
    refine awJ (op_callA rfl en14 (C14 (bs := hd0 x) (s := x.text) (by rw [hd_len]; decide) (by omega)) (by exact rfl) (RL.cons .sl (RL.cons (.base (by exact View.same rfl)) (RL.nil))) (bv_vc _) (List.length_map _)) ?_; (simp only [nA, Nat.reduceBEq, Nat.reduceEqDiff, ↓reduceIte])
    refine awP (op_assign rfl rfl) ?_; (simp only [nA])
    refine AWL.nil ?_
    (try simp only [thenE, inBlk, Nat.reduceEqDiff, ↓reduceIte])
    exact ⟨(_, _, _), enc_1 hF, ⟨rfl, trivial⟩, (by rfl), (by trivial)⟩
   have hc2 := hc
   refine AW.join (fun (b : Bool) => [(1, .ptr 0 1 0 0), (5, .sl 1 2 0 1), (18, .v (.int .i64 x.kind)), (25, .v (.bool b))]) (fun b => ⟨[(1, .own 42 [x.av]), (2, wO (hd0 x))], 3⟩) (fun b => b = true ↔ x.kind = 2 ∨ x.kind = 10) ?_ ?_
   ·
    (refine AW.seq_k ?_; intro K hK)
    refine AW.region ?_
    (refine awP (op_eql rfl rfl rfl) ?_); (try simp only [nA, Nat.reduceBEq, Nat.reduceEqDiff, ↓reduceIte, Nat.reduceAdd, Nat.reduceSub])
    refine awP (op_assign rfl rfl) ?_; (simp only [nA])
    refine AWL.nil ?_
    (refine hK _ ?_; clear hK K; (try simp only [nA, Nat.reduceBEq, Nat.reduceEqDiff, ↓reduceIte, Nat.reduceAdd, Nat.reduceSub]))
    refine AW.cond rfl rfl rfl (fun hc => ?_) (fun hc => ?_)
    ·
     have hc3 := hc
     refine AW.skip ?_
     exact ⟨decide (x.kind = 2), ⟨fun h => .inl (of_decide_eq_true h), fun _ => hc3⟩, ⟨rfl, rfl, rfl, rfl, trivial⟩, (by rfl), (by rfl)⟩
    have hc3 := hc
    refine AW.region ?_
    (refine awP (op_eql rfl rfl rfl) ?_); (try simp only [nA, Nat.reduceBEq, Nat.reduceEqDiff, ↓reduceIte, Nat.reduceAdd, Nat.reduceSub])
    refine awP (op_assign rfl rfl) ?_; (simp only [nA])
    refine AWL.nil ?_
    exact ⟨decide (x.kind = 10), ⟨fun h => .inr (of_decide_eq_true h), fun h => h.elim (fun h => absurd h (of_decide_eq_false hc3)) decide_eq_true⟩, ⟨rfl, rfl, rfl, rfl, trivial⟩, (by rfl), (by rfl)⟩
   intro b2 ρ hb2; simp only [updL]
   refine AW.cond rfl rfl rfl (fun hc => ?_) (fun hc => ?_)
   ·
    have hc4 := hc; have hF : fieldsL x.kind = [2, 3] := (by rcases hb2.1 hc4 with h | h <;> rw [h] <;> rfl)
    refine AW.ad [(0, 1, .own 42 [x.av])] mix rfl ?_
    refine adP 0 rfl (fun T' ok => op_move rfl rfl) (by exact ⟨rfl, trivial⟩) (by kernel_rfl) (by kernel_rfl) ?_; (simp only [nA, Nat.reduceBEq, Nat.reduceEqDiff, ↓reduceIte])
    (refine adP 1 rfl (fun T' ok => op_fa_ptr rfl rfl (by exact ok.1) fl42_3 (by exact sz30) (by decide) rfl) (by exact ⟨rfl, trivial⟩) (by kernel_rfl) (by kernel_rfl) ?_); (try simp only [nA, Nat.reduceBEq, Nat.reduceEqDiff, ↓reduceIte, Nat.reduceAdd, Nat.reduceSub])
    (refine adR 2 rfl (fun T' ok => op_load_ptr rfl rfl (by exact ok.1) rfl ag30 sz30 (bl rfl) rfl) (by exact ⟨rfl, trivial⟩) (by kernel_rfl) (by kernel_rfl) ?_); (try simp only [nA, Nat.reduceBEq, Nat.reduceEqDiff, ↓reduceIte, Nat.reduceAdd, Nat.reduceSub])
    (refine adP 4 rfl (fun T' ok => op_fa_ptr rfl rfl (by exact ok.1) fl42_4 (by exact sz3) (by decide) rfl) (by exact ⟨rfl, trivial⟩) (by kernel_rfl) (by kernel_rfl) ?_); (try simp only [nA, Nat.reduceBEq, Nat.reduceEqDiff, ↓reduceIte, Nat.reduceAdd, Nat.reduceSub])
    (refine adR 5 rfl (fun T' ok => op_load_ptr1 rfl rfl (by exact ok.1) rfl ag3 rfl rfl) (by exact ⟨rfl, trivial⟩) (by kernel_rfl) (by kernel_rfl) ?_); (try simp only [nA, Nat.reduceBEq, Nat.reduceEqDiff, ↓reduceIte, Nat.reduceAdd, Nat.reduceSub])
    refine adJ 3 rfl (op_callA rfl en16 (C16 (bs := hd0 x) (p := x.plate) (by rw [hd_len]; decide)) (by exact rfl) (RL.cons .sl (RL.cons (.base (by exact View.same rfl)) (RL.nil))) (bv_vc _) (List.length_map _)) (by kernel_rfl) (by exact ⟨rfl, trivial⟩) ?_; (simp only [nA, Nat.reduceBEq, Nat.reduceEqDiff, ↓reduceIte])
    refine adJ 6 rfl (op_callA rfl en15 (C15 (bs := hd0 x ++ ePl x.plate) (n := x.node) (by rw [List.length_append, pl_len, hd_len]; decide)) (by exact rfl) (RL.cons .sl (RL.cons (.base (by exact View.same rfl)) (RL.nil))) (bv_vc _) (List.length_map _)) (by kernel_rfl) (by exact ⟨rfl, trivial⟩) ?_; (simp only [nA, Nat.reduceBEq, Nat.reduceEqDiff, ↓reduceIte])
    refine adP 7 rfl (fun T' ok => op_assign rfl rfl) (by exact ⟨rfl, trivial⟩) (by kernel_rfl) (by kernel_rfl) ?_; (simp only [nA])
    refine adDone (by kernel_rfl) ?_
    (try simp only [thenE, inBlk, Nat.reduceEqDiff, ↓reduceIte])
    exact ⟨(_, _, _), enc_2 hF, ⟨rfl, trivial⟩, (by rfl), (by trivial)⟩
   have hc4 := hc
   (refine AW.seq_k ?_; intro K hK)
   refine AW.region ?_
   (refine awP (op_eql rfl rfl rfl) ?_); (try simp only [nA, Nat.reduceBEq, Nat.reduceEqDiff, ↓reduceIte, Nat.reduceAdd, Nat.reduceSub])
   refine awP (op_assign rfl rfl) ?_; (simp only [nA])
   refine AWL.nil ?_
   (refine hK _ ?_; clear hK K; (skip))
   refine AW.cond rfl rfl rfl (fun hc => ?_) (fun hc => ?_)
   ·
    have hc5 := hc; have hk := of_decide_eq_true hc5; have hF : fieldsL x.kind = [0, 6] := (by rw [hk]; rfl); have hp : x.reports.all rpB = true := hG.pr 6 (by rw [hF]; simp); have hr := hG.lim.2.1
    (refine AW.seq_k ?_; intro K hK)
    refine AW.ad [(0, 1, .own 42 [x.av])] mix rfl ?_
    refine adP 0 rfl (fun T' ok => op_move rfl rfl) (by exact ⟨rfl, trivial⟩) (by kernel_rfl) (by kernel_rfl) ?_; (simp only [nA, Nat.reduceBEq, Nat.reduceEqDiff, ↓reduceIte])
    (refine adP 1 rfl (fun T' ok => op_fa_ptr rfl rfl (by exact ok.1) fl42_1 (by exact sz3) (by decide) rfl) (by exact ⟨rfl, trivial⟩) (by kernel_rfl) (by kernel_rfl) ?_); (try simp only [nA, Nat.reduceBEq, Nat.reduceEqDiff, ↓reduceIte, Nat.reduceAdd, Nat.reduceSub])
    (refine adR 2 rfl (fun T' ok => op_load_ptr1 rfl rfl (by exact ok.1) rfl ag3 rfl rfl) (by exact ⟨rfl, trivial⟩) (by kernel_rfl) (by kernel_rfl) ?_); (try simp only [nA, Nat.reduceBEq, Nat.reduceEqDiff, ↓reduceIte, Nat.reduceAdd, Nat.reduceSub])
    (refine adP 4 rfl (fun T' ok => op_fa_ptr rfl rfl (by exact ok.1) fl42_7 (by exact sz31) (by decide) rfl) (by exact ⟨rfl, trivial⟩) (by kernel_rfl) (by kernel_rfl) ?_); (try simp only [nA, Nat.reduceBEq, Nat.reduceEqDiff, ↓reduceIte, Nat.reduceAdd, Nat.reduceSub])
    (refine adR 5 rfl (fun T' ok => op_load_ptr1 rfl rfl (by exact ok.1) rfl ag31 rfl rfl) (by exact ⟨rfl, trivial⟩) (by kernel_rfl) (by kernel_rfl) ?_); (try simp only [nA, Nat.reduceBEq, Nat.reduceEqDiff, ↓reduceIte, Nat.reduceAdd, Nat.reduceSub])
    refine adP 6 rfl (fun T' ok => op_len_ro (n := x.reports.length) rfl rfl Tryz.underlying31 (.inr (.inl ⟨_, rfl, by simp⟩))) (by exact ⟨rfl, trivial⟩) (by kernel_rfl) (by kernel_rfl) ?_; (try simp only [nA, Nat.reduceBEq, Nat.reduceEqDiff, ↓reduceIte, Nat.reduceAdd, Nat.reduceSub])
    refine adJ 3 rfl (op_callA rfl en15 (C15 (bs := hd0 x) (n := x.time) (by rw [hd_len]; decide)) (by exact rfl) (RL.cons .sl (RL.cons (.base (by exact View.same rfl)) (RL.nil))) (bv_vc _) (List.length_map _)) (by kernel_rfl) (by exact ⟨rfl, trivial⟩) ?_; (simp only [nA, Nat.reduceBEq, Nat.reduceEqDiff, ↓reduceIte])
    refine adJ 7 rfl (op_callA rfl en15 (C15 (bs := hd0 x ++ b4 x.time) (n := (x.reports.length : Nat)) (by rw [app_4, hd_len]; decide)) (by exact rfl) (RL.cons .sl (RL.cons (.base (by exact View.same rfl)) (RL.nil))) (bv_vc _) (List.length_map _)) (by kernel_rfl) (by exact ⟨rfl, trivial⟩) ?_; (simp only [nA, Nat.reduceBEq, Nat.reduceEqDiff, ↓reduceIte])
    refine adP 8 rfl (fun T' ok => op_assign rfl rfl) (by exact ⟨rfl, trivial⟩) (by kernel_rfl) (by kernel_rfl) ?_; (simp only [nA])
    refine adDone (by kernel_rfl) ?_
    (refine hK _ ?_; clear hK K; (skip))
    (refine AW.seq_k ?_; intro K hK)
    refine AW.region ?_
    refine awP (op_assign rfl rfl) ?_; (try simp only [nA, Nat.reduceBEq, Nat.reduceEqDiff, ↓reduceIte, Nat.reduceAdd, Nat.reduceSub])
    refine AWL.nil ?_
    (refine hK _ ?_; clear hK K; (skip))
    refine AW.block ?_
    refine AW.loopI (fun (q : Nat × Nat × Nat) => [(1, .ptr 0 1 0 0), (5, .sl 1 q.2.1 0 (((hd0 x ++ b4 x.time) ++ b4 (x.reports.length : Nat)) ++ (x.reports.take q.1).flatMap eRp).length), (6, .v (.int .i64 (q.1 : Nat)))]) (fun q => ⟨[(1, .own 42 [x.av]), (q.2.1, wO (((hd0 x ++ b4 x.time) ++ b4 (x.reports.length : Nat)) ++ (x.reports.take q.1).flatMap eRp))], q.2.2⟩) (fun q => q.1 ≤ x.reports.length) (fun q => x.reports.length - q.1) (0, 4, 5) (by simp) ⟨rfl, by show AV.sl 1 4 0 (((hd0 x ++ b4 x.time) ++ b4 (x.reports.length : Nat))).length = _; simp, rfl, trivial⟩ (by simp) ?_; rintro ⟨i, kk, ep⟩ ρ hi; dsimp only at hi ⊢; simp only [updL]; have hft := flatTk (xs := x.reports) (e := eRp) (k := 19) (i := i) fun r hr => rp_len (List.all_eq_true.1 hp r hr)
    (refine AW.seq_k ?_; intro K hK)
    (refine AW.seq_k ?_; intro K hK)
    refine AW.region ?_
    refine awP (op_move rfl rfl) ?_; (simp only [nA, ↓reduceIte])
    (refine awP (op_fa_ptr rfl rfl rfl fl42_7 (by exact sz31) (by decide) rfl) ?_); (try simp only [nA, Nat.reduceBEq, Nat.reduceEqDiff, ↓reduceIte, Nat.reduceAdd, Nat.reduceSub])
    (refine awR (op_load_ptr1 rfl rfl rfl rfl ag31 rfl rfl) ?_); (try simp only [nA, Nat.reduceBEq, Nat.reduceEqDiff, ↓reduceIte, Nat.reduceAdd, Nat.reduceSub])
    refine awP (op_len_ro (n := x.reports.length) rfl rfl Tryz.underlying31 (.inr (.inl ⟨_, rfl, by simp⟩))) ?_; (try simp only [nA, Nat.reduceBEq, Nat.reduceEqDiff, ↓reduceIte, Nat.reduceAdd, Nat.reduceSub])
    refine awP (op_lss rfl rfl rfl) ?_; (try simp only [nA, Nat.reduceBEq, Nat.reduceEqDiff, ↓reduceIte, Nat.reduceAdd, Nat.reduceSub])
    refine AWL.nil ?_
    (refine hK _ ?_; clear hK K; (skip))
    refine AW.cond rfl rfl rfl (fun hc => ?_) (fun hc => ?_)
    ·
     have hc6 := hc; have hlt : i < x.reports.length := (by simpa using hc6); have hrd : (x.reports.getD i default).read.size ≤ 10 := (rp_good (List.all_eq_true.1 hp _ (by rw [getD_of hlt]; exact List.getElem_mem hlt))).2; have hcl : ((((hd0 x ++ b4 x.time) ++ b4 (x.reports.length : Nat)) ++ (x.reports.take i).flatMap eRp)).length ≤ 1000 := (by rw [List.length_append, app_4, app_4, hd_len]; omega); have hB := take_flatG (e := eRp) (bs := ((hd0 x ++ b4 x.time) ++ b4 (x.reports.length : Nat))) hlt; have g0 := C15 (bs := (((hd0 x ++ b4 x.time) ++ b4 (x.reports.length : Nat)) ++ (x.reports.take i).flatMap eRp)) (n := (x.reports.getD i default).device) (by omega); have g1 := C17 (bs := (((hd0 x ++ b4 x.time) ++ b4 (x.reports.length : Nat)) ++ (x.reports.take i).flatMap eRp) ++ b4 (x.reports.getD i default).device) (yes := (x.reports.getD i default).seen) (by rw [app_4]; omega); have g2 := C14 (bs := ((((hd0 x ++ b4 x.time) ++ b4 (x.reports.length : Nat)) ++ (x.reports.take i).flatMap eRp) ++ b4 (x.reports.getD i default).device) ++ eTr (x.reports.getD i default).seen) (s := (x.reports.getD i default).read) (by rw [List.length_append, app_4]; show _ + 1 ≤ _; omega) (by omega); rw [show (((((hd0 x ++ b4 x.time) ++ b4 (x.reports.length : Nat)) ++ (x.reports.take i).flatMap eRp) ++ b4 (x.reports.getD i default).device) ++ eTr (x.reports.getD i default).seen) ++ eWd (x.reports.getD i default).read = ((hd0 x ++ b4 x.time) ++ b4 (x.reports.length : Nat)) ++ (x.reports.take (i + 1)).flatMap eRp by rw [← hB]; simp [eRp]] at g2
     refine AW.skip ?_
     (refine hK _ ?_; clear hK K; (skip))
     (refine AW.seq_k ?_; intro K hK)
     refine AW.block ?_
     refine AW.ad [(0, 1, .own 42 [x.av])] mix rfl ?_
     refine adP 0 rfl (fun T' ok => op_move rfl rfl) (by exact ⟨rfl, trivial⟩) (by kernel_rfl) (by kernel_rfl) ?_; (simp only [nA, Nat.reduceBEq, Nat.reduceEqDiff, ↓reduceIte])
     (refine adP 1 rfl (fun T' ok => op_fa_ptr rfl rfl (by exact ok.1) fl42_7 (by exact sz31) (by decide) rfl) (by exact ⟨rfl, trivial⟩) (by kernel_rfl) (by kernel_rfl) ?_); (try simp only [nA, Nat.reduceBEq, Nat.reduceEqDiff, ↓reduceIte, Nat.reduceAdd, Nat.reduceSub])
     (refine adR 2 rfl (fun T' ok => op_load_ptr1 rfl rfl (by exact ok.1) rfl ag31 rfl rfl) (by exact ⟨rfl, trivial⟩) (by kernel_rfl) (by kernel_rfl) ?_); (try simp only [nA, Nat.reduceBEq, Nat.reduceEqDiff, ↓reduceIte, Nat.reduceAdd, Nat.reduceSub])
     refine adP 3 rfl (fun T' ok => op_move rfl rfl) (by exact ⟨rfl, trivial⟩) (by kernel_rfl) (by kernel_rfl) ?_; (simp only [nA, ↓reduceIte])
     refine adP 4 rfl (fun T' ok => op_ia_ro i rfl (.inl rfl) rfl Tryz.underlying31 rfl (get_mapD (by omega)) (by exact sz60) (bl rfl)) (by exact ⟨rfl, trivial⟩) (by kernel_rfl) (by kernel_rfl) ?_; (try simp only [nA, Nat.reduceBEq, Nat.reduceEqDiff, ↓reduceIte, Nat.reduceAdd, Nat.reduceSub])
     (refine adP 5 rfl (fun T' ok => op_fa_rop rfl rfl fl60_0 (by exact sz3) (by decide) (bl rfl) rfl) (by exact ⟨rfl, trivial⟩) (by kernel_rfl) (by kernel_rfl) ?_); (try simp only [nA, Nat.reduceBEq, Nat.reduceEqDiff, ↓reduceIte, Nat.reduceAdd, Nat.reduceSub])
     (refine adR 6 rfl (fun T' ok => op_load_rop1 rfl rfl ag3) (by exact ⟨rfl, trivial⟩) (by kernel_rfl) (by kernel_rfl) ?_); (try simp only [nA, Nat.reduceBEq, Nat.reduceEqDiff, ↓reduceIte, Nat.reduceAdd, Nat.reduceSub])
     (refine adP 8 rfl (fun T' ok => op_fa_ptr rfl rfl (by exact ok.1) fl42_7 (by exact sz31) (by decide) rfl) (by exact ⟨rfl, trivial⟩) (by kernel_rfl) (by kernel_rfl) ?_); (try simp only [nA, Nat.reduceBEq, Nat.reduceEqDiff, ↓reduceIte, Nat.reduceAdd, Nat.reduceSub])
     (refine adR 9 rfl (fun T' ok => op_load_ptr1 rfl rfl (by exact ok.1) rfl ag31 rfl rfl) (by exact ⟨rfl, trivial⟩) (by kernel_rfl) (by kernel_rfl) ?_); (try simp only [nA, Nat.reduceBEq, Nat.reduceEqDiff, ↓reduceIte, Nat.reduceAdd, Nat.reduceSub])
     refine adP 10 rfl (fun T' ok => op_move rfl rfl) (by exact ⟨rfl, trivial⟩) (by kernel_rfl) (by kernel_rfl) ?_; (simp only [nA, ↓reduceIte])
     refine adP 11 rfl (fun T' ok => op_ia_ro i rfl (.inl rfl) rfl Tryz.underlying31 rfl (get_mapD (by omega)) (by exact sz60) (bl rfl)) (by exact ⟨rfl, trivial⟩) (by kernel_rfl) (by kernel_rfl) ?_; (try simp only [nA, Nat.reduceBEq, Nat.reduceEqDiff, ↓reduceIte, Nat.reduceAdd, Nat.reduceSub])
     (refine adP 12 rfl (fun T' ok => op_fa_rop rfl rfl fl60_1 (by exact sz4) (by decide) (bl rfl) rfl) (by exact ⟨rfl, trivial⟩) (by kernel_rfl) (by kernel_rfl) ?_); (try simp only [nA, Nat.reduceBEq, Nat.reduceEqDiff, ↓reduceIte, Nat.reduceAdd, Nat.reduceSub])
     (refine adR 13 rfl (fun T' ok => op_load_rop1 rfl rfl ag4) (by exact ⟨rfl, trivial⟩) (by kernel_rfl) (by kernel_rfl) ?_); (try simp only [nA, Nat.reduceBEq, Nat.reduceEqDiff, ↓reduceIte, Nat.reduceAdd, Nat.reduceSub])
     (refine adP 15 rfl (fun T' ok => op_fa_ptr rfl rfl (by exact ok.1) fl42_7 (by exact sz31) (by decide) rfl) (by exact ⟨rfl, trivial⟩) (by kernel_rfl) (by kernel_rfl) ?_); (try simp only [nA, Nat.reduceBEq, Nat.reduceEqDiff, ↓reduceIte, Nat.reduceAdd, Nat.reduceSub])
     (refine adR 16 rfl (fun T' ok => op_load_ptr1 rfl rfl (by exact ok.1) rfl ag31 rfl rfl) (by exact ⟨rfl, trivial⟩) (by kernel_rfl) (by kernel_rfl) ?_); (try simp only [nA, Nat.reduceBEq, Nat.reduceEqDiff, ↓reduceIte, Nat.reduceAdd, Nat.reduceSub])
     refine adP 17 rfl (fun T' ok => op_move rfl rfl) (by exact ⟨rfl, trivial⟩) (by kernel_rfl) (by kernel_rfl) ?_; (simp only [nA, ↓reduceIte])
     refine adP 18 rfl (fun T' ok => op_ia_ro i rfl (.inl rfl) rfl Tryz.underlying31 rfl (get_mapD (by omega)) (by exact sz60) (bl rfl)) (by exact ⟨rfl, trivial⟩) (by kernel_rfl) (by kernel_rfl) ?_; (try simp only [nA, Nat.reduceBEq, Nat.reduceEqDiff, ↓reduceIte, Nat.reduceAdd, Nat.reduceSub])
     (refine adP 19 rfl (fun T' ok => op_fa_rop rfl rfl fl60_2 (by exact sz9) (by decide) (bl rfl) rfl) (by exact ⟨rfl, trivial⟩) (by kernel_rfl) (by kernel_rfl) ?_); (try simp only [nA, Nat.reduceBEq, Nat.reduceEqDiff, ↓reduceIte, Nat.reduceAdd, Nat.reduceSub])
     (refine adR 20 rfl (fun T' ok => op_load_rop1 rfl rfl ag9) (by exact ⟨rfl, trivial⟩) (by kernel_rfl) (by kernel_rfl) ?_); (try simp only [nA, Nat.reduceBEq, Nat.reduceEqDiff, ↓reduceIte, Nat.reduceAdd, Nat.reduceSub])
     refine adJ 7 rfl (op_callA rfl en15 g0 (by exact rfl) (RL.cons .sl (RL.cons (.base (by exact View.same rfl)) (RL.nil))) (bv_vc _) (List.length_map _)) (by kernel_rfl) (by exact ⟨rfl, trivial⟩) ?_; (try simp only [nA, Nat.reduceBEq, Nat.reduceEqDiff, ↓reduceIte, Nat.reduceAdd, Nat.reduceSub])
     refine adJ 14 rfl (op_callA rfl en17 g1 (by exact rfl) (RL.cons .sl (RL.cons (.base (by exact View.same rfl)) (RL.nil))) (bv_vc _) (List.length_map _)) (by kernel_rfl) (by exact ⟨rfl, trivial⟩) ?_; (try simp only [nA, Nat.reduceBEq, Nat.reduceEqDiff, ↓reduceIte, Nat.reduceAdd, Nat.reduceSub])
     refine adJ 21 rfl (op_callA rfl en14 g2 (by exact rfl) (RL.cons .sl (RL.cons (.base (by exact View.same rfl)) (RL.nil))) (bv_vc _) (List.length_map _)) (by kernel_rfl) (by exact ⟨rfl, trivial⟩) ?_; (try simp only [nA, Nat.reduceBEq, Nat.reduceEqDiff, ↓reduceIte, Nat.reduceAdd, Nat.reduceSub])
     refine adP 22 rfl (fun T' ok => op_assign rfl rfl) (by exact ⟨rfl, trivial⟩) (by kernel_rfl) (by kernel_rfl) ?_; (simp only [nA])
     refine adDone (by kernel_rfl) ?_
     (try simp only [thenE, inBlk, Nat.reduceEqDiff, ↓reduceIte])
     (refine hK _ ?_; clear hK K; (skip))
     refine AW.region ?_
     refine awP (op_move rfl rfl) ?_; (simp only [nA, ↓reduceIte])
     (refine awP (op_addi rfl rfl rfl (by omega)) ?_); (try simp only [nA, Nat.reduceBEq, Nat.reduceEqDiff, ↓reduceIte, Nat.reduceAdd, Nat.reduceSub])
     refine awP (op_assign rfl rfl) ?_; (simp only [nA])
     skip
     refine AWL.nil ?_
     refine ⟨(i + 1, _, _), by dsimp only; omega, by dsimp only; omega, ⟨rfl, rfl, by dsimp only; exact congrArg (fun z => AV.v (.int .i64 z)) (by omega), trivial⟩, (by rfl), (by rfl)⟩
    have hc6 := hc; have hnl : ¬ i < x.reports.length := (by simpa using hc6); rw [show x.reports.take i = x.reports from List.take_of_length_le (by omega)]
    refine AW.exit ?_; (try simp only [thenE, inBlk, Nat.reduceEqDiff, ↓reduceIte])
    clear hK K
    (try simp only [thenE, inBlk, Nat.reduceEqDiff, ↓reduceIte])
    exact ⟨(_, _, _), enc_3 hF, ⟨rfl, trivial⟩, (by rfl), (by trivial)⟩
   have hc5 := hc
   (refine AW.seq_k ?_; intro K hK)
   refine AW.region ?_
   (refine awP (op_eql rfl rfl rfl) ?_); (try simp only [nA, Nat.reduceBEq, Nat.reduceEqDiff, ↓reduceIte, Nat.reduceAdd, Nat.reduceSub])
   refine awP (op_assign rfl rfl) ?_; (simp only [nA])
   refine AWL.nil ?_
   (refine hK _ ?_; clear hK K; (skip))
   refine AW.cond rfl rfl rfl (fun hc => ?_) (fun hc => ?_)
   ·
    have hc7 := hc; have hk := of_decide_eq_true hc7; have hF : fieldsL x.kind = [4, 5] := (by rw [hk]; rfl)
    refine AW.ad [(0, 1, .own 42 [x.av])] mix rfl ?_
    refine adP 0 rfl (fun T' ok => op_move rfl rfl) (by exact ⟨rfl, trivial⟩) (by kernel_rfl) (by kernel_rfl) ?_; (simp only [nA, Nat.reduceBEq, Nat.reduceEqDiff, ↓reduceIte])
    (refine adP 1 rfl (fun T' ok => op_fa_ptr rfl rfl (by exact ok.1) fl42_5 (by exact sz3) (by decide) rfl) (by exact ⟨rfl, trivial⟩) (by kernel_rfl) (by kernel_rfl) ?_); (try simp only [nA, Nat.reduceBEq, Nat.reduceEqDiff, ↓reduceIte, Nat.reduceAdd, Nat.reduceSub])
    (refine adR 2 rfl (fun T' ok => op_load_ptr1 rfl rfl (by exact ok.1) rfl ag3 rfl rfl) (by exact ⟨rfl, trivial⟩) (by kernel_rfl) (by kernel_rfl) ?_); (try simp only [nA, Nat.reduceBEq, Nat.reduceEqDiff, ↓reduceIte, Nat.reduceAdd, Nat.reduceSub])
    (refine adP 4 rfl (fun T' ok => op_fa_ptr rfl rfl (by exact ok.1) fl42_6 (by exact sz4) (by decide) rfl) (by exact ⟨rfl, trivial⟩) (by kernel_rfl) (by kernel_rfl) ?_); (try simp only [nA, Nat.reduceBEq, Nat.reduceEqDiff, ↓reduceIte, Nat.reduceAdd, Nat.reduceSub])
    (refine adR 5 rfl (fun T' ok => op_load_ptr1 rfl rfl (by exact ok.1) rfl ag4 rfl rfl) (by exact ⟨rfl, trivial⟩) (by kernel_rfl) (by kernel_rfl) ?_); (try simp only [nA, Nat.reduceBEq, Nat.reduceEqDiff, ↓reduceIte, Nat.reduceAdd, Nat.reduceSub])
    refine adJ 3 rfl (op_callA rfl en15 (C15 (bs := hd0 x) (n := x.image) (by rw [hd_len]; decide)) (by exact rfl) (RL.cons .sl (RL.cons (.base (by exact View.same rfl)) (RL.nil))) (bv_vc _) (List.length_map _)) (by kernel_rfl) (by exact ⟨rfl, trivial⟩) ?_; (simp only [nA, Nat.reduceBEq, Nat.reduceEqDiff, ↓reduceIte])
    refine adJ 6 rfl (op_callA rfl en17 (C17 (bs := hd0 x ++ b4 x.image) (yes := x.clear) (by rw [app_4, hd_len]; decide)) (by exact rfl) (RL.cons .sl (RL.cons (.base (by exact View.same rfl)) (RL.nil))) (bv_vc _) (List.length_map _)) (by kernel_rfl) (by exact ⟨rfl, trivial⟩) ?_; (simp only [nA, Nat.reduceBEq, Nat.reduceEqDiff, ↓reduceIte])
    refine adP 7 rfl (fun T' ok => op_assign rfl rfl) (by exact ⟨rfl, trivial⟩) (by kernel_rfl) (by kernel_rfl) ?_; (simp only [nA])
    refine adDone (by kernel_rfl) ?_
    (try simp only [thenE, inBlk, Nat.reduceEqDiff, ↓reduceIte])
    exact ⟨(_, _, _), enc_2 hF, ⟨rfl, trivial⟩, (by rfl), (by trivial)⟩
   have hc7 := hc
   (refine AW.seq_k ?_; intro K hK)
   refine AW.region ?_
   (refine awP (op_eql rfl rfl rfl) ?_); (try simp only [nA, Nat.reduceBEq, Nat.reduceEqDiff, ↓reduceIte, Nat.reduceAdd, Nat.reduceSub])
   refine awP (op_assign rfl rfl) ?_; (simp only [nA])
   refine AWL.nil ?_
   (refine hK _ ?_; clear hK K; (skip))
   refine AW.cond rfl rfl rfl (fun hc => ?_) (fun hc => ?_)
   ·
    have hc8 := hc; have hk := of_decide_eq_true hc8; have hF : fieldsL x.kind = [7] := (by rw [hk]; rfl); have hfl := (fl_good (f := x.rev.fl) (Bool.and_eq_true _ _ |>.mp (hG.pr 7 (by rw [hF]; simp))).2).2
    refine AW.ad [(0, 1, .own 42 [x.av])] mix rfl ?_
    refine adP 0 rfl (fun T' ok => op_move rfl rfl) (by exact ⟨rfl, trivial⟩) (by kernel_rfl) (by kernel_rfl) ?_; (simp only [nA, Nat.reduceBEq, Nat.reduceEqDiff, ↓reduceIte])
    (refine adP 1 rfl (fun T' ok => op_fa_ptr rfl rfl (by exact ok.1) fl42_8 (by exact sz35) (by decide) rfl) (by exact ⟨rfl, trivial⟩) (by kernel_rfl) (by kernel_rfl) ?_); (try simp only [nA, Nat.reduceBEq, Nat.reduceEqDiff, ↓reduceIte, Nat.reduceAdd, Nat.reduceSub])
    (refine adP 2 rfl (fun T' ok => op_fa_ptr rfl rfl (by exact ok.1) fl35_0 (by exact sz3) (by decide) rfl) (by exact ⟨rfl, trivial⟩) (by kernel_rfl) (by kernel_rfl) ?_); (simp only [nA, Nat.reduceBEq, Nat.reduceEqDiff, ↓reduceIte])
    (refine adR 3 rfl (fun T' ok => op_load_ptr1 rfl rfl (by exact ok.1) rfl ag3 rfl rfl) (by exact ⟨rfl, trivial⟩) (by kernel_rfl) (by kernel_rfl) ?_); (try simp only [nA, Nat.reduceBEq, Nat.reduceEqDiff, ↓reduceIte, Nat.reduceAdd, Nat.reduceSub])
    (refine adP 5 rfl (fun T' ok => op_fa_ptr rfl rfl (by exact ok.1) fl42_8 (by exact sz35) (by decide) rfl) (by exact ⟨rfl, trivial⟩) (by kernel_rfl) (by kernel_rfl) ?_); (try simp only [nA, Nat.reduceBEq, Nat.reduceEqDiff, ↓reduceIte, Nat.reduceAdd, Nat.reduceSub])
    (refine adP 6 rfl (fun T' ok => op_fa_ptr rfl rfl (by exact ok.1) fl35_1 (by exact sz3) (by decide) rfl) (by exact ⟨rfl, trivial⟩) (by kernel_rfl) (by kernel_rfl) ?_); (simp only [nA, Nat.reduceBEq, Nat.reduceEqDiff, ↓reduceIte])
    (refine adR 7 rfl (fun T' ok => op_load_ptr1 rfl rfl (by exact ok.1) rfl ag3 rfl rfl) (by exact ⟨rfl, trivial⟩) (by kernel_rfl) (by kernel_rfl) ?_); (try simp only [nA, Nat.reduceBEq, Nat.reduceEqDiff, ↓reduceIte, Nat.reduceAdd, Nat.reduceSub])
    (refine adP 9 rfl (fun T' ok => op_fa_ptr rfl rfl (by exact ok.1) fl42_8 (by exact sz35) (by decide) rfl) (by exact ⟨rfl, trivial⟩) (by kernel_rfl) (by kernel_rfl) ?_); (try simp only [nA, Nat.reduceBEq, Nat.reduceEqDiff, ↓reduceIte, Nat.reduceAdd, Nat.reduceSub])
    (refine adP 10 rfl (fun T' ok => op_fa_ptr rfl rfl (by exact ok.1) fl35_2 (by exact sz33) (by decide) rfl) (by exact ⟨rfl, trivial⟩) (by kernel_rfl) (by kernel_rfl) ?_); (simp only [nA, Nat.reduceBEq, Nat.reduceEqDiff, ↓reduceIte])
    (refine adR 11 rfl (fun T' ok => op_load_ptr rfl rfl (by exact ok.1) rfl ag33 sz33 (bl rfl) rfl) (by exact ⟨rfl, trivial⟩) (by kernel_rfl) (by kernel_rfl) ?_); (try simp only [nA, Nat.reduceBEq, Nat.reduceEqDiff, ↓reduceIte, Nat.reduceAdd, Nat.reduceSub])
    refine adJ 4 rfl (op_callA rfl en15 (C15 (bs := hd0 x) (n := x.rev.kind) (by rw [hd_len]; decide)) (by exact rfl) (RL.cons .sl (RL.cons (.base (by exact View.same rfl)) (RL.nil))) (bv_vc _) (List.length_map _)) (by kernel_rfl) (by exact ⟨rfl, trivial⟩) ?_; (simp only [nA, Nat.reduceBEq, Nat.reduceEqDiff, ↓reduceIte])
    refine adJ 8 rfl (op_callA rfl en15 (C15 (bs := hd0 x ++ b4 x.rev.kind) (n := x.rev.amount) (by rw [app_4, hd_len]; decide)) (by exact rfl) (RL.cons .sl (RL.cons (.base (by exact View.same rfl)) (RL.nil))) (bv_vc _) (List.length_map _)) (by kernel_rfl) (by exact ⟨rfl, trivial⟩) ?_; (simp only [nA, Nat.reduceBEq, Nat.reduceEqDiff, ↓reduceIte])
    refine adJ 12 rfl (op_callA rfl en18 (C18 (bs := (hd0 x ++ b4 x.rev.kind) ++ b4 x.rev.amount) (f := x.rev.fl) (by rw [app_4, app_4, hd_len]; decide) (by omega) (by omega)) (by exact rfl) (RL.cons .sl (RL.cons (.base (by exact View.same rfl)) (RL.nil))) (bv_vc _) (List.length_map _)) (by kernel_rfl) (by exact ⟨rfl, trivial⟩) ?_; (simp only [nA, Nat.reduceBEq, Nat.reduceEqDiff, ↓reduceIte])
    refine adP 13 rfl (fun T' ok => op_assign rfl rfl) (by exact ⟨rfl, trivial⟩) (by kernel_rfl) (by kernel_rfl) ?_; (simp only [nA])
    refine adDone (by kernel_rfl) ?_
    (try simp only [thenE, inBlk, Nat.reduceEqDiff, ↓reduceIte])
    exact ⟨(_, _, _), enc_5 hF, ⟨rfl, trivial⟩, (by rfl), (by trivial)⟩
   have hc8 := hc
   refine AW.join (fun (b : Bool) => [(1, .ptr 0 1 0 0), (5, .sl 1 2 0 1), (18, .v (.int .i64 x.kind)), (98, .v (.bool b))]) (fun b => ⟨[(1, .own 42 [x.av]), (2, wO (hd0 x))], 3⟩) (fun b => b = true ↔ x.kind = 6 ∨ x.kind = 7) ?_ ?_
   ·
    (refine AW.seq_k ?_; intro K hK)
    refine AW.region ?_
    (refine awP (op_eql rfl rfl rfl) ?_); (try simp only [nA, Nat.reduceBEq, Nat.reduceEqDiff, ↓reduceIte, Nat.reduceAdd, Nat.reduceSub])
    refine awP (op_assign rfl rfl) ?_; (simp only [nA])
    refine AWL.nil ?_
    (refine hK _ ?_; clear hK K; (try simp only [nA, Nat.reduceBEq, Nat.reduceEqDiff, ↓reduceIte, Nat.reduceAdd, Nat.reduceSub]))
    refine AW.cond rfl rfl rfl (fun hc => ?_) (fun hc => ?_)
    ·
     have hc9 := hc
     refine AW.skip ?_
     exact ⟨decide (x.kind = 6), ⟨fun h => .inl (of_decide_eq_true h), fun _ => hc9⟩, ⟨rfl, rfl, rfl, rfl, trivial⟩, (by rfl), (by rfl)⟩
    have hc9 := hc
    refine AW.region ?_
    (refine awP (op_eql rfl rfl rfl) ?_); (try simp only [nA, Nat.reduceBEq, Nat.reduceEqDiff, ↓reduceIte, Nat.reduceAdd, Nat.reduceSub])
    refine awP (op_assign rfl rfl) ?_; (simp only [nA])
    refine AWL.nil ?_
    exact ⟨decide (x.kind = 7), ⟨fun h => .inr (of_decide_eq_true h), fun h => h.elim (fun h => absurd h (of_decide_eq_false hc9)) decide_eq_true⟩, ⟨rfl, rfl, rfl, rfl, trivial⟩, (by rfl), (by rfl)⟩
   intro b6 ρ hb6; simp only [updL]
   refine AW.cond rfl rfl rfl (fun hc => ?_) (fun hc => ?_)
   ·
    have hc10 := hc; have hF : fieldsL x.kind = [3] := (by rcases hb6.1 hc10 with h | h <;> rw [h] <;> rfl)
    refine AW.region ?_
    refine awP (op_move rfl rfl) ?_; (simp only [nA, ↓reduceIte])
    (refine awP (op_fa_ptr rfl rfl rfl fl42_4 (by exact sz3) (by decide) rfl) ?_); (try simp only [nA, Nat.reduceBEq, Nat.reduceEqDiff, ↓reduceIte, Nat.reduceAdd, Nat.reduceSub])
    (refine awR (op_load_ptr1 rfl rfl rfl rfl ag3 rfl rfl) ?_); (try simp only [nA, Nat.reduceBEq, Nat.reduceEqDiff, ↓reduceIte, Nat.reduceAdd, Nat.reduceSub])
    refine awJ (op_callA rfl en15 (C15 (bs := hd0 x) (n := x.node) (by rw [hd_len]; decide)) (by exact rfl) (RL.cons .sl (RL.cons (.base (by exact View.same rfl)) (RL.nil))) (bv_vc _) (List.length_map _)) ?_; (simp only [nA, Nat.reduceBEq, Nat.reduceEqDiff, ↓reduceIte])
    refine awP (op_assign rfl rfl) ?_; (simp only [nA])
    refine AWL.nil ?_
    (try simp only [thenE, inBlk, Nat.reduceEqDiff, ↓reduceIte])
    exact ⟨(_, _, _), enc_1 hF, ⟨rfl, trivial⟩, (by rfl), (by trivial)⟩
   have hc10 := hc
   (refine AW.seq_k ?_; intro K hK)
   refine AW.region ?_
   (refine awP (op_eql rfl rfl rfl) ?_); (try simp only [nA, Nat.reduceBEq, Nat.reduceEqDiff, ↓reduceIte, Nat.reduceAdd, Nat.reduceSub])
   refine awP (op_assign rfl rfl) ?_; (simp only [nA])
   refine AWL.nil ?_
   (refine hK _ ?_; clear hK K; (skip))
   refine AW.cond rfl rfl rfl (fun hc => ?_) (fun hc => ?_)
   ·
    have hc11 := hc; have hk := of_decide_eq_true hc11; have hF : fieldsL x.kind = [9, 3] := (by rw [hk]; rfl)
    refine AW.ad [(0, 1, .own 42 [x.av])] mix rfl ?_
    refine adP 0 rfl (fun T' ok => op_move rfl rfl) (by exact ⟨rfl, trivial⟩) (by kernel_rfl) (by kernel_rfl) ?_; (simp only [nA, Nat.reduceBEq, Nat.reduceEqDiff, ↓reduceIte])
    (refine adP 1 rfl (fun T' ok => op_fa_ptr rfl rfl (by exact ok.1) fl42_10 (by exact sz39) (by decide) rfl) (by exact ⟨rfl, trivial⟩) (by kernel_rfl) (by kernel_rfl) ?_); (try simp only [nA, Nat.reduceBEq, Nat.reduceEqDiff, ↓reduceIte, Nat.reduceAdd, Nat.reduceSub])
    (refine adR 2 rfl (fun T' ok => op_load_ptr rfl rfl (by exact ok.1) rfl ag39 sz39 (bl rfl) rfl) (by exact ⟨rfl, trivial⟩) (by kernel_rfl) (by kernel_rfl) ?_); (try simp only [nA, Nat.reduceBEq, Nat.reduceEqDiff, ↓reduceIte, Nat.reduceAdd, Nat.reduceSub])
    (refine adP 4 rfl (fun T' ok => op_fa_ptr rfl rfl (by exact ok.1) fl42_4 (by exact sz3) (by decide) rfl) (by exact ⟨rfl, trivial⟩) (by kernel_rfl) (by kernel_rfl) ?_); (try simp only [nA, Nat.reduceBEq, Nat.reduceEqDiff, ↓reduceIte, Nat.reduceAdd, Nat.reduceSub])
    (refine adR 5 rfl (fun T' ok => op_load_ptr1 rfl rfl (by exact ok.1) rfl ag3 rfl rfl) (by exact ⟨rfl, trivial⟩) (by kernel_rfl) (by kernel_rfl) ?_); (try simp only [nA, Nat.reduceBEq, Nat.reduceEqDiff, ↓reduceIte, Nat.reduceAdd, Nat.reduceSub])
    refine adJ 3 rfl (op_callA rfl en19 (C19 (bs := hd0 x) (o := x.op) (by rw [hd_len]; decide)) (by exact rfl) (RL.cons .sl (RL.cons (.base (by exact View.same rfl)) (RL.nil))) (bv_vc _) (List.length_map _)) (by kernel_rfl) (by exact ⟨rfl, trivial⟩) ?_; (simp only [nA, Nat.reduceBEq, Nat.reduceEqDiff, ↓reduceIte])
    refine adJ 6 rfl (op_callA rfl en15 (C15 (bs := hd0 x ++ eOp x.op) (n := x.node) (by rw [List.length_append, op_len, hd_len]; decide)) (by exact rfl) (RL.cons .sl (RL.cons (.base (by exact View.same rfl)) (RL.nil))) (bv_vc _) (List.length_map _)) (by kernel_rfl) (by exact ⟨rfl, trivial⟩) ?_; (simp only [nA, Nat.reduceBEq, Nat.reduceEqDiff, ↓reduceIte])
    refine adP 7 rfl (fun T' ok => op_assign rfl rfl) (by exact ⟨rfl, trivial⟩) (by kernel_rfl) (by kernel_rfl) ?_; (simp only [nA])
    refine adDone (by kernel_rfl) ?_
    (try simp only [thenE, inBlk, Nat.reduceEqDiff, ↓reduceIte])
    exact ⟨(_, _, _), enc_2 hF, ⟨rfl, trivial⟩, (by rfl), (by trivial)⟩
   have hc11 := hc
   (refine AW.seq_k ?_; intro K hK)
   refine AW.region ?_
   (refine awP (op_eql rfl rfl rfl) ?_); (try simp only [nA, Nat.reduceBEq, Nat.reduceEqDiff, ↓reduceIte, Nat.reduceAdd, Nat.reduceSub])
   refine awP (op_assign rfl rfl) ?_; (simp only [nA])
   refine AWL.nil ?_
   (refine hK _ ?_; clear hK K; (skip))
   refine AW.cond rfl rfl rfl (fun hc => ?_) (fun hc => ?_)
   ·
    have hc12 := hc; have hk := of_decide_eq_true hc12; have hF : fieldsL x.kind = [9] := (by rw [hk]; rfl)
    refine AW.region ?_
    refine awP (op_move rfl rfl) ?_; (simp only [nA, ↓reduceIte])
    (refine awP (op_fa_ptr rfl rfl rfl fl42_10 (by exact sz39) (by decide) rfl) ?_); (try simp only [nA, Nat.reduceBEq, Nat.reduceEqDiff, ↓reduceIte, Nat.reduceAdd, Nat.reduceSub])
    (refine awR (op_load_ptr rfl rfl rfl rfl ag39 sz39 (bl rfl) rfl) ?_); (try simp only [nA, Nat.reduceBEq, Nat.reduceEqDiff, ↓reduceIte, Nat.reduceAdd, Nat.reduceSub])
    refine awJ (op_callA rfl en19 (C19 (bs := hd0 x) (o := x.op) (by rw [hd_len]; decide)) (by exact rfl) (RL.cons .sl (RL.cons (.base (by exact View.same rfl)) (RL.nil))) (bv_vc _) (List.length_map _)) ?_; (simp only [nA, Nat.reduceBEq, Nat.reduceEqDiff, ↓reduceIte])
    refine awP (op_assign rfl rfl) ?_; (simp only [nA])
    refine AWL.nil ?_
    (try simp only [thenE, inBlk, Nat.reduceEqDiff, ↓reduceIte])
    exact ⟨(_, _, _), enc_1 hF, ⟨rfl, trivial⟩, (by rfl), (by trivial)⟩
   have hc12 := hc
   (refine AW.seq_k ?_; intro K hK)
   refine AW.region ?_
   (refine awP (op_eql rfl rfl rfl) ?_); (try simp only [nA, Nat.reduceBEq, Nat.reduceEqDiff, ↓reduceIte, Nat.reduceAdd, Nat.reduceSub])
   refine awP (op_assign rfl rfl) ?_; (simp only [nA])
   refine AWL.nil ?_
   (refine hK _ ?_; clear hK K; (skip))
   refine AW.cond rfl rfl rfl (fun hc => ?_) (fun hc => ?_)
   ·
    have hc13 := hc; have hk := of_decide_eq_true hc13; have hF : fieldsL x.kind = [8] := (by rw [hk]; rfl)
    refine AW.region ?_
    refine awP (op_move rfl rfl) ?_; (simp only [nA, ↓reduceIte])
    (refine awP (op_fa_ptr rfl rfl rfl fl42_9 (by exact sz3) (by decide) rfl) ?_); (try simp only [nA, Nat.reduceBEq, Nat.reduceEqDiff, ↓reduceIte, Nat.reduceAdd, Nat.reduceSub])
    (refine awR (op_load_ptr1 rfl rfl rfl rfl ag3 rfl rfl) ?_); (try simp only [nA, Nat.reduceBEq, Nat.reduceEqDiff, ↓reduceIte, Nat.reduceAdd, Nat.reduceSub])
    refine awJ (op_callA rfl en15 (C15 (bs := hd0 x) (n := x.device) (by rw [hd_len]; decide)) (by exact rfl) (RL.cons .sl (RL.cons (.base (by exact View.same rfl)) (RL.nil))) (bv_vc _) (List.length_map _)) ?_; (simp only [nA, Nat.reduceBEq, Nat.reduceEqDiff, ↓reduceIte])
    refine awP (op_assign rfl rfl) ?_; (simp only [nA])
    refine AWL.nil ?_
    (try simp only [thenE, inBlk, Nat.reduceEqDiff, ↓reduceIte])
    exact ⟨(_, _, _), enc_1 hF, ⟨rfl, trivial⟩, (by rfl), (by trivial)⟩
   have hc13 := hc
   (refine AW.seq_k ?_; intro K hK)
   refine AW.region ?_
   (refine awP (op_eql rfl rfl rfl) ?_); (try simp only [nA, Nat.reduceBEq, Nat.reduceEqDiff, ↓reduceIte, Nat.reduceAdd, Nat.reduceSub])
   refine awP (op_assign rfl rfl) ?_; (simp only [nA])
   refine AWL.nil ?_
   (refine hK _ ?_; clear hK K; (skip))
   refine AW.cond rfl rfl rfl (fun hc => ?_) (fun hc => ?_)
   ·
    have hc14 := hc; have hk := of_decide_eq_true hc14; have hF : fieldsL x.kind = [8, 10] := (by rw [hk]; rfl); have ho := hG.lim.2.2
    (refine AW.seq_k ?_; intro K hK)
    refine AW.ad [(0, 1, .own 42 [x.av])] mix rfl ?_
    refine adP 0 rfl (fun T' ok => op_move rfl rfl) (by exact ⟨rfl, trivial⟩) (by kernel_rfl) (by kernel_rfl) ?_; (simp only [nA, Nat.reduceBEq, Nat.reduceEqDiff, ↓reduceIte])
    (refine adP 1 rfl (fun T' ok => op_fa_ptr rfl rfl (by exact ok.1) fl42_9 (by exact sz3) (by decide) rfl) (by exact ⟨rfl, trivial⟩) (by kernel_rfl) (by kernel_rfl) ?_); (try simp only [nA, Nat.reduceBEq, Nat.reduceEqDiff, ↓reduceIte, Nat.reduceAdd, Nat.reduceSub])
    (refine adR 2 rfl (fun T' ok => op_load_ptr1 rfl rfl (by exact ok.1) rfl ag3 rfl rfl) (by exact ⟨rfl, trivial⟩) (by kernel_rfl) (by kernel_rfl) ?_); (try simp only [nA, Nat.reduceBEq, Nat.reduceEqDiff, ↓reduceIte, Nat.reduceAdd, Nat.reduceSub])
    (refine adP 4 rfl (fun T' ok => op_fa_ptr rfl rfl (by exact ok.1) fl42_11 (by exact sz40) (by decide) rfl) (by exact ⟨rfl, trivial⟩) (by kernel_rfl) (by kernel_rfl) ?_); (try simp only [nA, Nat.reduceBEq, Nat.reduceEqDiff, ↓reduceIte, Nat.reduceAdd, Nat.reduceSub])
    (refine adR 5 rfl (fun T' ok => op_load_ptr1 rfl rfl (by exact ok.1) rfl ag40 rfl rfl) (by exact ⟨rfl, trivial⟩) (by kernel_rfl) (by kernel_rfl) ?_); (try simp only [nA, Nat.reduceBEq, Nat.reduceEqDiff, ↓reduceIte, Nat.reduceAdd, Nat.reduceSub])
    refine adP 6 rfl (fun T' ok => op_len_ro (n := x.ops.length) rfl rfl Tryz.underlying40 (.inr (.inl ⟨_, rfl, by simp⟩))) (by exact ⟨rfl, trivial⟩) (by kernel_rfl) (by kernel_rfl) ?_; (try simp only [nA, Nat.reduceBEq, Nat.reduceEqDiff, ↓reduceIte, Nat.reduceAdd, Nat.reduceSub])
    refine adJ 3 rfl (op_callA rfl en15 (C15 (bs := hd0 x) (n := x.device) (by rw [hd_len]; decide)) (by exact rfl) (RL.cons .sl (RL.cons (.base (by exact View.same rfl)) (RL.nil))) (bv_vc _) (List.length_map _)) (by kernel_rfl) (by exact ⟨rfl, trivial⟩) ?_; (simp only [nA, Nat.reduceBEq, Nat.reduceEqDiff, ↓reduceIte])
    refine adJ 7 rfl (op_callA rfl en15 (C15 (bs := hd0 x ++ b4 x.device) (n := (x.ops.length : Nat)) (by rw [app_4, hd_len]; decide)) (by exact rfl) (RL.cons .sl (RL.cons (.base (by exact View.same rfl)) (RL.nil))) (bv_vc _) (List.length_map _)) (by kernel_rfl) (by exact ⟨rfl, trivial⟩) ?_; (simp only [nA, Nat.reduceBEq, Nat.reduceEqDiff, ↓reduceIte])
    refine adP 8 rfl (fun T' ok => op_assign rfl rfl) (by exact ⟨rfl, trivial⟩) (by kernel_rfl) (by kernel_rfl) ?_; (simp only [nA])
    refine adDone (by kernel_rfl) ?_
    (refine hK _ ?_; clear hK K; (skip))
    (refine AW.seq_k ?_; intro K hK)
    refine AW.region ?_
    refine awP (op_assign rfl rfl) ?_; (try simp only [nA, Nat.reduceBEq, Nat.reduceEqDiff, ↓reduceIte, Nat.reduceAdd, Nat.reduceSub])
    refine AWL.nil ?_
    (refine hK _ ?_; clear hK K; (skip))
    refine AW.block ?_
    refine AW.loopI (fun (q : Nat × Nat × Nat) => [(1, .ptr 0 1 0 0), (5, .sl 1 q.2.1 0 (((hd0 x ++ b4 x.device) ++ b4 (x.ops.length : Nat)) ++ (x.ops.take q.1).flatMap eOp).length), (7, .v (.int .i64 (q.1 : Nat)))]) (fun q => ⟨[(1, .own 42 [x.av]), (q.2.1, wO (((hd0 x ++ b4 x.device) ++ b4 (x.ops.length : Nat)) ++ (x.ops.take q.1).flatMap eOp))], q.2.2⟩) (fun q => q.1 ≤ x.ops.length) (fun q => x.ops.length - q.1) (0, 4, 5) (by simp) ⟨rfl, by show AV.sl 1 4 0 (((hd0 x ++ b4 x.device) ++ b4 (x.ops.length : Nat))).length = _; simp, rfl, trivial⟩ (by simp) ?_; rintro ⟨i, kk, ep⟩ ρ hi; dsimp only at hi ⊢; simp only [updL]; have hft := flatTk (xs := x.ops) (e := eOp) (k := 40) (i := i) fun r _ => by rw [op_len]; omega
    (refine AW.seq_k ?_; intro K hK)
    (refine AW.seq_k ?_; intro K hK)
    refine AW.region ?_
    refine awP (op_move rfl rfl) ?_; (simp only [nA, ↓reduceIte])
    (refine awP (op_fa_ptr rfl rfl rfl fl42_11 (by exact sz40) (by decide) rfl) ?_); (try simp only [nA, Nat.reduceBEq, Nat.reduceEqDiff, ↓reduceIte, Nat.reduceAdd, Nat.reduceSub])
    (refine awR (op_load_ptr1 rfl rfl rfl rfl ag40 rfl rfl) ?_); (try simp only [nA, Nat.reduceBEq, Nat.reduceEqDiff, ↓reduceIte, Nat.reduceAdd, Nat.reduceSub])
    refine awP (op_len_ro (n := x.ops.length) rfl rfl Tryz.underlying40 (.inr (.inl ⟨_, rfl, by simp⟩))) ?_; (try simp only [nA, Nat.reduceBEq, Nat.reduceEqDiff, ↓reduceIte, Nat.reduceAdd, Nat.reduceSub])
    refine awP (op_lss rfl rfl rfl) ?_; (try simp only [nA, Nat.reduceBEq, Nat.reduceEqDiff, ↓reduceIte, Nat.reduceAdd, Nat.reduceSub])
    refine AWL.nil ?_
    (refine hK _ ?_; clear hK K; (skip))
    refine AW.cond rfl rfl rfl (fun hc => ?_) (fun hc => ?_)
    ·
     have hc15 := hc; have hlt : i < x.ops.length := (by simpa using hc15)
     refine AW.skip ?_
     (refine hK _ ?_; clear hK K; (skip))
     (refine AW.seq_k ?_; intro K hK)
     refine AW.block ?_
     refine AW.region ?_
     refine awP (op_move rfl rfl) ?_; (simp only [nA, ↓reduceIte])
     (refine awP (op_fa_ptr rfl rfl rfl fl42_11 (by exact sz40) (by decide) rfl) ?_); (try simp only [nA, Nat.reduceBEq, Nat.reduceEqDiff, ↓reduceIte, Nat.reduceAdd, Nat.reduceSub])
     (refine awR (op_load_ptr1 rfl rfl rfl rfl ag40 rfl rfl) ?_); (try simp only [nA, Nat.reduceBEq, Nat.reduceEqDiff, ↓reduceIte, Nat.reduceAdd, Nat.reduceSub])
     refine awP (op_move rfl rfl) ?_; (simp only [nA, ↓reduceIte])
     refine awP (op_ia_ro i rfl (.inl rfl) rfl Tryz.underlying40 rfl (get_mapD (by omega)) (by exact sz39) (bl rfl)) ?_; (try simp only [nA, Nat.reduceBEq, Nat.reduceEqDiff, ↓reduceIte, Nat.reduceAdd, Nat.reduceSub])
     (refine awR (op_load_rop rfl rfl ag39 sz39 (bl rfl) (by decide) rfl) ?_); (try simp only [nA, Nat.reduceBEq, Nat.reduceEqDiff, ↓reduceIte, Nat.reduceAdd, Nat.reduceSub])
     refine awJ (op_callA rfl en19 (C19 (bs := (((hd0 x ++ b4 x.device) ++ b4 (x.ops.length : Nat)) ++ (x.ops.take i).flatMap eOp)) (o := x.ops.getD i default) (by rw [List.length_append, app_4, app_4, hd_len]; omega)) (by exact rfl) (RL.cons .sl (RL.cons (.base (by exact View.same rfl)) (RL.nil))) (bv_vc _) (List.length_map _)) ?_; (try simp only [nA, Nat.reduceBEq, Nat.reduceEqDiff, ↓reduceIte, Nat.reduceAdd, Nat.reduceSub])
     refine awP (op_assign rfl rfl) ?_; (simp only [nA])
     refine AWL.nil ?_
     (try simp only [thenE, inBlk, Nat.reduceEqDiff, ↓reduceIte])
     (refine hK _ ?_; clear hK K; (skip))
     refine AW.region ?_
     refine awP (op_move rfl rfl) ?_; (simp only [nA, ↓reduceIte])
     (refine awP (op_addi rfl rfl rfl (by omega)) ?_); (try simp only [nA, Nat.reduceBEq, Nat.reduceEqDiff, ↓reduceIte, Nat.reduceAdd, Nat.reduceSub])
     refine awP (op_assign rfl rfl) ?_; (simp only [nA])
     skip
     refine AWL.nil ?_
     have hB := take_flatG (e := eOp) (bs := ((hd0 x ++ b4 x.device) ++ b4 (x.ops.length : Nat))) hlt; rw [hB]; refine ⟨(i + 1, _, _), by dsimp only; omega, by dsimp only; omega, ⟨rfl, rfl, by dsimp only; exact congrArg (fun z => AV.v (.int .i64 z)) (by omega), trivial⟩, (by rfl), (by rfl)⟩
    have hc15 := hc; have hnl : ¬ i < x.ops.length := (by simpa using hc15); rw [show x.ops.take i = x.ops from List.take_of_length_le (by omega)]
    refine AW.exit ?_; (try simp only [thenE, inBlk, Nat.reduceEqDiff, ↓reduceIte])
    clear hK K
    (try simp only [thenE, inBlk, Nat.reduceEqDiff, ↓reduceIte])
    exact ⟨(_, _, _), enc_12 hF, ⟨rfl, trivial⟩, (by rfl), (by trivial)⟩
   have hc14 := hc
   (refine AW.seq_k ?_; intro K hK)
   refine AW.region ?_
   (refine awP (op_eql rfl rfl rfl) ?_); (try simp only [nA, Nat.reduceBEq, Nat.reduceEqDiff, ↓reduceIte, Nat.reduceAdd, Nat.reduceSub])
   refine awP (op_assign rfl rfl) ?_; (simp only [nA])
   refine AWL.nil ?_
   (refine hK _ ?_; clear hK K; (skip))
   refine AW.cond rfl rfl rfl (fun hc => ?_) (fun hc => ?_)
   ·
    have hc16 := hc; have hk := of_decide_eq_true hc16; have hF : fieldsL x.kind = [11] := (by rw [hk]; rfl); have hfl := (fl_good (f := x.fl) (hG.pr 11 (by rw [hF]; simp))).2
    refine AW.region ?_
    refine awP (op_move rfl rfl) ?_; (simp only [nA, ↓reduceIte])
    (refine awP (op_fa_ptr rfl rfl rfl fl42_12 (by exact sz33) (by decide) rfl) ?_); (try simp only [nA, Nat.reduceBEq, Nat.reduceEqDiff, ↓reduceIte, Nat.reduceAdd, Nat.reduceSub])
    (refine awR (op_load_ptr rfl rfl rfl rfl ag33 sz33 (bl rfl) rfl) ?_); (try simp only [nA, Nat.reduceBEq, Nat.reduceEqDiff, ↓reduceIte, Nat.reduceAdd, Nat.reduceSub])
    refine awJ (op_callA rfl en18 (C18 (bs := hd0 x) (f := x.fl) (by rw [hd_len]; decide) (by omega) (by omega)) (by exact rfl) (RL.cons .sl (RL.cons (.base (by exact View.same rfl)) (RL.nil))) (bv_vc _) (List.length_map _)) ?_; (simp only [nA, Nat.reduceBEq, Nat.reduceEqDiff, ↓reduceIte])
    refine awP (op_assign rfl rfl) ?_; (simp only [nA])
    refine AWL.nil ?_
    (try simp only [thenE, inBlk, Nat.reduceEqDiff, ↓reduceIte])
    exact ⟨(_, _, _), enc_1 hF, ⟨rfl, trivial⟩, (by rfl), (by trivial)⟩
   have hc16 := hc
   refine AW.skip ?_
   (try simp only [thenE, inBlk, Nat.reduceEqDiff, ↓reduceIte])
   exact ⟨(_, _, _), enc_0 (by have h2 : ¬ (x.kind = 2 ∨ x.kind = 10) := (fun h => by have := hb2.2 h; rw [this] at hc4; cases hc4); have h6 : ¬ (x.kind = 6 ∨ x.kind = 7) := (fun h => by have := hb6.2 h; rw [this] at hc10; cases hc10); simp only [decide_eq_false_iff_not] at hc2 hc5 hc7 hc8 hc11 hc12 hc13 hc14 hc16; unfold fieldsL; repeat rw [if_neg (by omega)]), ⟨rfl, trivial⟩, (by rfl), (by trivial)⟩
  rintro ⟨bs, kk, ep⟩ ρ hbs; dsimp only at hbs ⊢; subst hbs; simp only [updL]
  (refine AW.seq_k ?_; intro K hK)
  refine AW.region ?_
  refine awP (op_move rfl rfl) ?_; (simp only [nA])
  refine awP (op_assign rfl rfl) ?_; (simp only [nA])
  refine awP (op_assign rfl rfl) ?_; (try simp only [nA, Nat.reduceBEq, Nat.reduceEqDiff, ↓reduceIte, Nat.reduceAdd, Nat.reduceSub])
  refine AWL.nil ?_
  (refine hK _ ?_; clear hK K; (skip))
  refine AW.gh (Gh.freeze 2 (bl rfl) rfl rfl (bv_flat _) (es' := (encB x).map bv) (List.take_of_length_le (by rw [List.length_map]; exact Nat.le_refl _))) ?_; (try simp only [nA, Nat.reduceBEq, Nat.reduceEqDiff, ↓reduceIte, Nat.reduceAdd, Nat.reduceSub])
  refine AW.ret ?_; (try simp only [thenE, inBlk, Nat.reduceEqDiff, ↓reduceIte]); rw [enc_ok hG]; exact RQ.of0 rfl (.tmp (bl rfl) rfl rfl (.tmp (bl rfl) rfl rfl .nil))
end Go.Proofs.YtfmnaigedgmhoaaGreatDoor
namespace Go.Proofs.YtfmnaigedgmhoaaGreatDoor
open Go.RowKit
set_option linter.unusedSimpArgs false
set_option linter.unusedVariables false
set_option maxRecDepth 100000
theorem sz74 : sizeIs Tryz.prog 74 1 := by unfold sizeIs; kernel_rfl
abbrev fnA (f : FuncId) : AV := .v (.func (.func f) #[] #[])
abbrev rdsL : List FuncId := [41, 42, 43, 44, 45, 46, 47, 48, 49, 50, 51, 52]
abbrev rdsA : List AV := [fnA 41, fnA 42, fnA 43, fnA 44, fnA 45, fnA 46, fnA 47, fnA 48, fnA 49, fnA 50, fnA 51, fnA 52]
set_option maxHeartbeats 8000000 in
theorem C27 : Fn Tryz.prog 27 [] [] [.agg rdsA] [] := by
  refine Spec.body Tryz.func27 rfl Tryz.ntmps27 (by simp) rfl ?_; intro S0 own0 v0 w0 gl
  (refine AW.seq_k ?_; intro K hK)
  refine AW.region ?_
  refine awJ (op_alloc rfl ze75 rfl) ?_; (simp only [nA, Nat.reduceBEq, Nat.reduceEqDiff, ↓reduceIte])
  refine AWL.nil ?_
  (refine hK _ ?_; clear hK K; (try simp only [nA, Nat.reduceBEq, Nat.reduceEqDiff, ↓reduceIte, Nat.reduceAdd, Nat.reduceSub]))
  (refine AW.seq_k ?_; intro K hK)
  refine AW.region ?_
  refine awP (op_buildArr (xs := rdsA) rfl [(0, [fnA 41]), (1, [fnA 42]), (2, [fnA 43]), (3, [fnA 44]), (4, [fnA 45]), (5, [fnA 46]), (6, [fnA 47]), (7, [fnA 48]), (8, [fnA 49]), (9, [fnA 50]), (10, [fnA 51]), (11, [fnA 52])] Tryz.underlying75 sz74 ze75 rfl rfl rfl) ?_; (try simp only [nA, Nat.reduceBEq, Nat.reduceEqDiff, ↓reduceIte, Nat.reduceAdd, Nat.reduceSub])
  refine awJ (op_store rfl rfl rfl rfl rfl rfl sz75 rfl (bl rfl) rfl) ?_; (simp only [nA, Nat.reduceBEq, Nat.reduceEqDiff, ↓reduceIte])
  refine AWL.nil ?_
  (refine hK _ ?_; clear hK K; (skip))
  skip
  refine AW.ret ?_; (try simp only [thenE, inBlk, Nat.reduceEqDiff, ↓reduceIte]); exact RQ.of0 rfl (.cell (bl rfl) rfl rfl rfl ag75 sz75 (bl rfl) rfl rfl .nil)
end Go.Proofs.YtfmnaigedgmhoaaGreatDoor
namespace Go.Proofs.YtfmnaigedgmhoaaGreatDoor
open Go.RowKit
set_option linter.unusedSimpArgs false
set_option linter.unusedVariables false
set_option maxRecDepth 100000
abbrev rowY (y : Ev) (s : RS) : List AV := rdC y (.own 60 (y.reports.map Report.av)) (.own 39 (y.ops.map Op.av)) s
set_option maxHeartbeats 8000000 in
theorem C41p {p : Nat} {y : Ev} {s : RS} (hp : p ≤ 11) (hl : s.b.length ≤ 1000000) (h6 : p = 6 → y.reports = []) (h10 : p = 10 → y.ops = []) : Fn Tryz.prog (41 + p) [.own 73 [rowY y s]] [.ptr 0 0 0 0] [] [.own 73 [rowY (dM rE p y s).1 (dM rE p y s).2]] := by
  match p, hp, h6, h10 with
  | 0, _, _, _ => exact C41v (C62 hl)
  | 1, _, _, _ => exact C42v (C63 hl)
  | 2, _, _, _ => exact C43v (C64 hl)
  | 3, _, _, _ => exact C44v (C62 hl)
  | 4, _, _, _ => exact C45v (C62 hl)
  | 5, _, _, _ => exact C46v (C65 hl)
  | 6, _, h6, _ =>
    have e := h6 rfl
    have h := C47 (x := y) (os := .own 39 (y.ops.map Op.av)) hl
    show Fn Tryz.prog 47 [.own 73 [rdC y (.own 60 (y.reports.map Report.av)) (.own 39 (y.ops.map Op.av)) s]] [.ptr 0 0 0 0] [] [.own 73 [rdC y (.own 60 ((lsM rE (rpM rE) y.reports s).1.map Report.av)) (.own 39 (y.ops.map Op.av)) (lsM rE (rpM rE) y.reports s).2]]
    rw [e]
    exact h
  | 7, _, _, _ => exact C48v (C62 hl) (C62 (len1 hl)) (C66 (len1 (len1 hl)))
  | 8, _, _, _ => exact C49v (C62 hl)
  | 9, _, _, _ => exact C50v (C67 hl)
  | 10, _, _, h10 =>
    have e := h10 rfl
    have h := C51 (x := y) (rs := .own 60 (y.reports.map Report.av)) hl
    show Fn Tryz.prog 51 [.own 73 [rdC y (.own 60 (y.reports.map Report.av)) (.own 39 (y.ops.map Op.av)) s]] [.ptr 0 0 0 0] [] [.own 73 [rdC y (.own 60 (y.reports.map Report.av)) (.own 39 ((lsM rE (opM rE) y.ops s).1.map Op.av)) (lsM rE (opM rE) y.ops s).2]]
    rw [e]
    exact h
  | 11, _, _, _ => exact C52v (C66 hl)
theorem en_p {p : Nat} (hp : p ≤ 11) : Enters Tryz.prog (41 + p) := by
  match p, hp with
  | 0, _ => exact en41
  | 1, _ => exact en42
  | 2, _ => exact en43
  | 3, _ => exact en44
  | 4, _ => exact en45
  | 5, _ => exact en46
  | 6, _ => exact en47
  | 7, _ => exact en48
  | 8, _ => exact en49
  | 9, _ => exact en50
  | 10, _ => exact en51
  | 11, _ => exact en52
theorem rds_get {p : Nat} (hp : p ≤ 11) : rdsA[p]? = some (fnA (41 + p)) := by
  match p, hp with
  | 0, _ => rfl
  | 1, _ => rfl
  | 2, _ => rfl
  | 3, _ => rfl
  | 4, _ => rfl
  | 5, _ => rfl
  | 6, _ => rfl
  | 7, _ => rfl
  | 8, _ => rfl
  | 9, _ => rfl
  | 10, _ => rfl
  | 11, _ => rfl
theorem repM_len {α : Type} {m : M α} (h : ∀ s, (m s).2.b.length ≤ s.b.length) : ∀ (n : Nat) (acc : List α) (s : RS), (repM m n acc s).2.b.length ≤ s.b.length
  | 0, _, _ => Nat.le_refl _
  | n + 1, acc, s => by
    show (if s.bad = true then (acc, s) else repM m n (acc ++ [(m s).1]) (m s).2).2.b.length ≤ _
    split
    · exact Nat.le_refl _
    exact Nat.le_trans (repM_len h n _ _) (h s)
theorem lsM_len {α : Type} {m : M α} (h : ∀ s, (m s).2.b.length ≤ s.b.length) (acc : List α) (s : RS) : (lsM rE m acc s).2.b.length ≤ s.b.length := Nat.le_trans (repM_len h _ _ _) (numE_len s)
theorem flM_le (s : RS) : (flM rE s).2.b.length ≤ s.b.length := Nat.le_trans (numE_len _) (Nat.le_trans (wdE_len _) (Nat.le_trans (numE_len _) (wdE_len s)))
theorem dM_len (p : Nat) (y : Ev) (s : RS) : (dM rE p y s).2.b.length ≤ s.b.length := by
  match p with
  | 0 => exact numE_len s
  | 1 => exact wdE_len s
  | 2 => exact pl_le s
  | 3 => exact numE_len s
  | 4 => exact numE_len s
  | 5 => exact trE_len s
  | 6 => exact lsM_len rp_le _ s
  | 7 => exact Nat.le_trans (flM_le _) (Nat.le_trans (numE_len _) (numE_len s))
  | 8 => exact numE_len s
  | 9 => exact op_le s
  | 10 => exact lsM_len op_le _ s
  | 11 => exact flM_le s
  | n + 12 => exact Nat.le_refl _
theorem dM_lists (p : Nat) (y : Ev) (s : RS) : (p ≠ 6 → (dM rE p y s).1.reports = y.reports) ∧ (p ≠ 10 → (dM rE p y s).1.ops = y.ops) ∧ (dM rE p y s).1.kind = y.kind := by
  match p with
  | 0 => exact ⟨fun _ => rfl, fun _ => rfl, rfl⟩
  | 1 => exact ⟨fun _ => rfl, fun _ => rfl, rfl⟩
  | 2 => exact ⟨fun _ => rfl, fun _ => rfl, rfl⟩
  | 3 => exact ⟨fun _ => rfl, fun _ => rfl, rfl⟩
  | 4 => exact ⟨fun _ => rfl, fun _ => rfl, rfl⟩
  | 5 => exact ⟨fun _ => rfl, fun _ => rfl, rfl⟩
  | 6 => exact ⟨fun h => absurd rfl h, fun _ => rfl, rfl⟩
  | 7 => exact ⟨fun _ => rfl, fun _ => rfl, rfl⟩
  | 8 => exact ⟨fun _ => rfl, fun _ => rfl, rfl⟩
  | 9 => exact ⟨fun _ => rfl, fun _ => rfl, rfl⟩
  | 10 => exact ⟨fun _ => rfl, fun h => absurd rfl h, rfl⟩
  | 11 => exact ⟨fun _ => rfl, fun _ => rfl, rfl⟩
  | n + 12 => exact ⟨fun _ => rfl, fun _ => rfl, rfl⟩
theorem decM_snoc (R : Rdr) : ∀ (l : List Nat) (p : Nat) (y : Ev) (s : RS), decM R (l ++ [p]) y s = dM R p (decM R l y s).1 (decM R l y s).2
  | [], _, _, _ => rfl
  | q :: l, p, y, s => decM_snoc R l p (dM R q y s).1 (dM R q y s).2
/-- What is read of the first i parts. -/
def rdP (k : Int) (r : BL) (i : Nat) : Ev × RS := decM rE ((fieldsL k).take i) (ev0 k) ⟨r, false⟩
theorem fld_get {k : Int} {i : Nat} (h2 : i < (fieldsL k).length) : ((fldI k).getD i default).toNat = (fieldsL k)[i] := by
  unfold fldI
  rw [List.getD_eq_getElem?_getD, List.getElem?_map, List.getElem?_eq_getElem h2]
  exact Int.toNat_natCast _
theorem rdP_step {k : Int} {r : BL} {i : Nat} (h : i < (fldI k).length) : dM rE ((fldI k).getD i default).toNat (rdP k r i).1 (rdP k r i).2 = rdP k r (i + 1) := by
  have h2 : i < (fieldsL k).length := by unfold fldI at h; rw [List.length_map] at h; exact h
  have e := fld_get h2
  unfold rdP
  rw [e, List.take_add_one, List.getElem?_eq_getElem h2]
  exact (decM_snoc rE _ _ _ _).symm
theorem rdP_len (k : Int) (r : BL) : ∀ (i : Nat), (rdP k r i).2.b.length ≤ r.length
  | 0 => Nat.le_refl _
  | i + 1 => by
    by_cases h : i < (fldI k).length
    · rw [← rdP_step h]
      exact Nat.le_trans (dM_len _ _ _) (rdP_len k r i)
    have e : rdP k r (i + 1) = rdP k r i := by
      unfold rdP
      have h2 : (fieldsL k).length ≤ i := by unfold fldI at h; rw [List.length_map] at h; omega
      rw [List.take_of_length_le (by omega), List.take_of_length_le h2]
    rw [e]
    exact rdP_len k r i
theorem decM_lists : ∀ (l : List Nat) (y : Ev) (s : RS), (6 ∉ l → (decM rE l y s).1.reports = y.reports) ∧ (10 ∉ l → (decM rE l y s).1.ops = y.ops) ∧ (decM rE l y s).1.kind = y.kind
  | [], _, _ => ⟨fun _ => rfl, fun _ => rfl, rfl⟩
  | p :: l, y, s => by
    have h1 := dM_lists p y s
    have h2 := decM_lists l (dM rE p y s).1 (dM rE p y s).2
    refine ⟨fun h => ?_, fun h => ?_, h2.2.2.trans h1.2.2⟩
    · exact (h2.1 fun h' => h (by simp [h'])).trans (h1.1 fun e => h (by simp [e]))
    exact (h2.2.1 fun h' => h (by simp [h'])).trans (h1.2.1 fun e => h (by simp [e]))
theorem rdP_lists {k : Int} {r : BL} {i : Nat} (h : i < (fldI k).length) : (((fldI k).getD i default).toNat = 6 → (rdP k r i).1.reports = []) ∧ (((fldI k).getD i default).toNat = 10 → (rdP k r i).1.ops = []) := by
  have h2 : i < (fieldsL k).length := by unfold fldI at h; rw [List.length_map] at h; exact h
  have e := fld_get h2
  have hn := fields_nodup k
  have hni : (fieldsL k)[i] ∉ (fieldsL k).take i := fun hm => by
    obtain ⟨j, hj, ej⟩ := List.mem_iff_getElem.1 hm
    rw [List.length_take] at hj
    rw [List.getElem_take] at ej
    have := (List.getElem_inj hn).1 ej
    omega
  have h3 := decM_lists ((fieldsL k).take i) (ev0 k) ⟨r, false⟩
  rw [e]
  exact ⟨fun h6 => h3.1 (h6 ▸ hni), fun h10 => h3.2.1 (h10 ▸ hni)⟩
theorem rdP_end {k : Int} {r : BL} {i : Nat} (h : ¬ i < (fldI k).length) : rdP k r i = decM rE (fieldsL k) (ev0 k) ⟨r, false⟩ := by
  unfold rdP
  rw [List.take_of_length_le (by unfold fldI at h; rw [List.length_map] at h; omega)]
end Go.Proofs.YtfmnaigedgmhoaaGreatDoor
namespace Go.Proofs.YtfmnaigedgmhoaaGreatDoor
open Go.RowKit
set_option linter.unusedSimpArgs false
set_option linter.unusedVariables false
set_option maxRecDepth 100000
theorem ag74 : aggB Tryz.prog 95 = some false := by unfold aggB; kernel_rfl
def rdD (a : UInt8) (r : BL) : Ev × RS := decM rE (fieldsL (a.toNat : Int)) (ev0 (a.toNat : Int)) ⟨r, false⟩
theorem decB_rd (a : UInt8) (r : BL) : decB (a :: r) = if (rdD a r).2.bad = true ∨ (rdD a r).2.b ≠ [] then none else some (rdD a r).1 := (runD_eq rE_ok (a :: r)).symm
theorem dec_k {b : BL} (h : (decide ((b.length : Int) = 0) || !inB ((b.getD 0 default).toNat : Int) 1 14) = true) : decV b = (ev0 0, 4) := by
  match b, h with
  | [], _ => rfl
  | a :: r, h =>
    have h2 : inB (a.toNat : Int) 1 14 = false := by
      rcases (Bool.or_eq_true _ _).mp h with h | h
      · have := of_decide_eq_true h
        rw [List.length_cons] at this
        omega
      simpa using h
    unfold decV
    dsimp only
    rw [if_pos h2]
theorem dec_no {a : UInt8} {r : BL} (hk : inB (a.toNat : Int) 1 14 = true) (h : (rdD a r).2.bad = true ∨ (rdD a r).2.b ≠ [] ∨ valV (rdD a r).1 ≠ 0) : decV (a :: r) = (ev0 0, 3) := by
  unfold decV
  dsimp only
  rw [if_neg (by rw [hk]; decide), decB_rd]
  by_cases h1 : (rdD a r).2.bad = true ∨ (rdD a r).2.b ≠ []
  · rw [if_pos h1]
  rw [if_neg h1]
  have h2 : valV (rdD a r).1 ≠ 0 := by
    rcases h with h | h | h
    · exact absurd (.inl h) h1
    · exact absurd (.inr h) h1
    exact h
  dsimp only
  rw [if_neg h2]
theorem dec_yes {a : UInt8} {r : BL} (hk : inB (a.toNat : Int) 1 14 = true) (h1 : (rdD a r).2.bad = false) (h2 : (rdD a r).2.b = []) (h3 : valV (rdD a r).1 = 0) : decV (a :: r) = ((rdD a r).1, 0) := by
  unfold decV
  dsimp only
  rw [if_neg (by rw [hk]; decide), decB_rd, if_neg (fun h => h.elim (fun h => by rw [h1] at h; cases h) fun h => h h2)]
  dsimp only
  rw [if_pos h3]
theorem only_lists : ∀ (l : List Nat) (x y : Ev), (6 ∉ l → (onlyP l x y).reports = y.reports) ∧ (10 ∉ l → (onlyP l x y).ops = y.ops) ∧ (1 ∉ l → (onlyP l x y).text = y.text)
  | [], _, _ => ⟨fun _ => rfl, fun _ => rfl, fun _ => rfl⟩
  | p :: l, x, y => by
    have h2 := only_lists l x (setP p x y)
    have h1 : (p ≠ 6 → (setP p x y).reports = y.reports) ∧ (p ≠ 10 → (setP p x y).ops = y.ops) ∧ (p ≠ 1 → (setP p x y).text = y.text) := by
      unfold setP
      split <;> refine ⟨fun h => ?_, fun h => ?_, fun h => ?_⟩ <;> first | rfl | exact absurd rfl h
    exact ⟨fun h => (h2.1 fun h' => h (by simp [h'])).trans (h1.1 fun e => h (by simp [e])), fun h => (h2.2.1 fun h' => h (by simp [h'])).trans (h1.2.1 fun e => h (by simp [e])), fun h => (h2.2.2 fun h' => h (by simp [h'])).trans (h1.2.2 fun e => h (by simp [e]))⟩
theorem part_in {α : Type} {e : α → BL} : ∀ {l : List α} {x : α}, x ∈ l → (e x).length ≤ (l.flatMap e).length
  | y :: l, x, h => by
    rw [List.flatMap_cons, List.length_append]
    rcases List.mem_cons.1 h with rfl | h
    · omega
    have := part_in (e := e) h; omega
theorem len_in {α : Type} {e : α → BL} (he : ∀ x, 1 ≤ (e x).length) : ∀ (l : List α), l.length ≤ (l.flatMap e).length
  | [] => Nat.le_refl _
  | y :: l => by
    rw [List.flatMap_cons, List.length_append, List.length_cons]
    have := len_in he l
    have := he y
    omega
theorem rp_len1 (r : Report) : (eRp r).length = 9 + r.read.size := by
  show (b4 r.device ++ ([_] ++ eWd r.read)).length = _
  simp only [List.length_append, b4_len, wd_len, List.length_cons, List.length_nil]
  omega
theorem rd_sm {a : UInt8} {r : BL} (hl : r.length ≤ 1000000) (hk : inB (a.toNat : Int) 1 14 = true) (h1 : (rdD a r).2.bad = false) (h2 : (rdD a r).2.b = []) : (rdD a r).1.Sm := by
  have hd : decB (a :: r) = some (rdD a r).1 := by rw [decB_rd, if_neg (fun h => h.elim (fun h => by rw [h1] at h; cases h) fun h => h h2)]
  have hkk : (rdD a r).1.kind = (a.toNat : Int) := (decM_lists (fieldsL (a.toNat : Int)) (ev0 (a.toNat : Int)) ⟨r, false⟩).2.2
  obtain ⟨he, ho, -⟩ := decB_of hd (by rw [hkk]; exact inB_iff.1 hk)
  generalize (rdD a r).1 = x at he ho
  have hr : r = (fieldsL x.kind).flatMap (ePart x) := (List.cons.inj he).2
  have hp : ∀ p ∈ fieldsL x.kind, (ePart x p).length ≤ 1000000 := fun p hp => by
    have := part_in (e := ePart x) hp
    rw [← hr] at this
    omega
  have hol := only_lists (fieldsL x.kind) x (ev0 x.kind)
  rw [show onlyP (fieldsL x.kind) x (ev0 x.kind) = x from ho.symm] at hol
  refine ⟨?_, ?_, ?_, ?_⟩
  · by_cases h : 6 ∈ fieldsL x.kind
    · have h3 : (b4 (x.reports.length : Nat) ++ x.reports.flatMap eRp).length ≤ 1000000 := hp 6 h
      rw [List.length_append] at h3
      have := len_in (e := eRp) (fun x => by rw [rp_len1]; omega) x.reports
      omega
    rw [hol.1 h]; exact Nat.zero_le _
  · by_cases h : 10 ∈ fieldsL x.kind
    · have h3 : (b4 (x.ops.length : Nat) ++ x.ops.flatMap eOp).length ≤ 1000000 := hp 10 h
      rw [List.length_append] at h3
      have := len_in (e := eOp) (fun x => by rw [op_len]; omega) x.ops
      omega
    rw [hol.2.1 h]; exact Nat.zero_le _
  · by_cases h : 1 ∈ fieldsL x.kind
    · have h3 : (eWd x.text).length ≤ 1000000 := hp 1 h
      rw [wd_len] at h3
      omega
    rw [hol.2.2 h]; exact Nat.zero_le _
  intro q hq
  by_cases h : 6 ∈ fieldsL x.kind
  · have h3 : (b4 (x.reports.length : Nat) ++ x.reports.flatMap eRp).length ≤ 1000000 := hp 6 h
    rw [List.length_append] at h3
    have h4 := part_in (e := eRp) hq
    rw [rp_len1] at h4
    omega
  rw [hol.1 h] at hq; cases hq
theorem le_rd (k : Int) (r : BL) : RL (Le2 Tryz.prog) [rdC (ev0 k) (.v (.slice none 0 0)) (.v (.slice none 0 0)) ⟨r, false⟩].flatten [rowY (ev0 k) ⟨r, false⟩].flatten := by
  repeat (first | exact RL.nil | refine RL.cons Le2.same ?_ | refine RL.cons (Le2.nilo sz60) ?_ | refine RL.cons (Le2.nilo sz39) ?_)
set_option maxHeartbeats 8000000 in
theorem C9 {b : BL} (hl : b.length ≤ 1000000) : Fn Tryz.prog 9 [] [.ro (b.map bv)] [.agg (decV b).1.av, .v (.int .i64 (decV b).2)] [] := by
  refine Spec.body Tryz.func9 rfl Tryz.ntmps9 (by simp) rfl ?_; intro S0 own0 v0 w0 gl
  (refine AW.seq_k ?_; intro K hK)
  refine AW.region ?_
  refine awJ (op_alloc rfl ze42 rfl) ?_; (simp only [nA, Nat.reduceBEq, Nat.reduceEqDiff, ↓reduceIte])
  refine awP (op_assign rfl rfl) ?_
  refine AWL.nil ?_
  (refine hK _ ?_; clear hK K; (try simp only [nA, Nat.reduceBEq, Nat.reduceEqDiff, ↓reduceIte, Nat.reduceAdd, Nat.reduceSub]))
  (refine AW.seq_k ?_; intro K hK)
  (refine AW.seq_k ?_; intro K hK)
  refine AW.region (AWL.quiet ?_)
  refine aqP (op_move rfl rfl) ?_
  refine aqP (op_len_ro (n := b.length) rfl rfl Tryz.underlying22 (.inr (.inl ⟨_, rfl, by simp⟩))) ?_
  (refine aqP (op_eql rfl rfl rfl) ?_)
  refine aqP (op_move rfl rfl) ?_
  refine' aqOr' [_, _, _, _, _, _] [12,13,14,15,16,17] rfl rfl rfl rfl rfl rfl rfl rfl rfl rfl rfl rfl (fun hb => ?_) ?_; rotate_left
  ·
   (try simp only [hcS] at hb)
   refine aqP (op_move rfl rfl) ?_
   refine aqP (op_ia_ro 0 rfl (.inl rfl) rfl Tryz.underlying22 rfl (get_mapD (f := bv) (xs := b) (by omega)) (by exact sz5) (bl rfl)) ?_
   (refine aqR (op_load_rop1 rfl rfl ag5) ?_)
   refine aqP (op_conv rfl rfl Tryz.underlying5 Tryz.underlying3 (wrapB _)) ?_
   refine aqQ (op_callQ (b := true) rfl en26 (C26 (n := ((b.getD 0 default).toNat : Nat)) (lo := 1) (hi := 14)) (RL.cons (by exact View.same rfl) (RL.cons (by exact View.same rfl) (RL.cons (by exact View.same rfl) (RL.nil)))) rfl) ?_; (simp only [nA, ↓reduceIte])
   refine aqP (op_not rfl rfl rfl) ?_
   (refine aqSeg rfl rfl rfl ?_; repeat (first | exact fun _ _ => rfl | refine upd_out rfl ?_))
  simp only [nA, ↓reduceIte]
  refine AQ.nil ?_
  (refine hK _ ?_; clear hK K; (skip))
  refine AW.cond rfl rfl rfl (fun hc => ?_) (fun hc => ?_)
  ·
   have hc1 := hc
   (refine AW.seq_k ?_; intro K hK)
   refine AW.region ?_
   refine awP (op_build2 (xs := [.v (.int .i64 0), .v (.int .i64 0), .v (.string ⟨#[]⟩), .v (.int .i64 0), .v (.int .i64 0), .v (.int .i64 0), .v (.int .i64 0), .v (.int .i64 0), .v (.bool false), .v (.slice none 0 0), .v (.int .i64 0), .v (.int .i64 0), .v (.string ⟨#[]⟩), .v (.int .i64 0), .v (.string ⟨#[]⟩), .v (.int .i64 0), .v (.int .i64 0), .v (.int .i64 0), .v (.int .i64 0), .v (.int .i64 0), .v (.int .i64 0), .v (.int .i64 0), .v (.int .i64 0), .v (.int .i64 0), .v (.int .i64 0), .v (.int .i64 0), .v (.int .i64 0), .v (.slice none 0 0), .v (.string ⟨#[]⟩), .v (.int .i64 0), .v (.string ⟨#[]⟩), .v (.int .i64 0)]) rfl pl42 ze42 [] rfl rfl rfl) ?_
   refine awJ (op_store rfl rfl rfl rfl rfl rfl sz42 rfl (bl rfl) rfl) ?_; (simp only [nA, Nat.reduceBEq, Nat.reduceEqDiff, ↓reduceIte])
   refine awP (op_assign rfl rfl) ?_
   refine AWL.nil ?_
   (refine hK _ ?_; clear hK K; (try simp only [nA, Nat.reduceBEq, Nat.reduceEqDiff, ↓reduceIte, Nat.reduceAdd, Nat.reduceSub]))
   refine AW.gh (Gh.slot (r := 0) (es' := [(ev0 0).av]) rfl rfl (le_ev0s 0)) ?_; (try simp only [nA, Nat.reduceBEq, Nat.reduceEqDiff, ↓reduceIte, Nat.reduceAdd, Nat.reduceSub])
   refine AW.ret ?_; (try simp only [thenE, inBlk, Nat.reduceEqDiff, ↓reduceIte]); rw [dec_k hc1]; exact RQ.of0 rfl (.cell (bl rfl) rfl rfl rfl ag42 sz42 (bl rfl) rfl rfl (.tmp (bl rfl) rfl rfl .nil))
  have hc1 := hc; obtain ⟨a, r, rfl⟩ : ∃ a r, b = a :: r := (by match b, hc1 with | [], h => (simp at h) | a :: r, _ => exact ⟨a, r, rfl⟩); have hk0 : inB ((a.toNat : Nat) : Int) 1 14 = true := (by have h := (Bool.or_eq_false_iff.1 hc1).2; simpa using h); have hk := inB_iff.1 hk0; have hrl : r.length ≤ 1000000 := (by simp at hl; omega)
  refine AW.skip ?_
  (refine hK _ ?_; clear hK K; (try simp only [nA, Nat.reduceBEq, Nat.reduceEqDiff, ↓reduceIte, Nat.reduceAdd, Nat.reduceSub]))
  (refine AW.seq_k ?_; intro K hK)
  refine AW.quiet_tail 8 mix (by kernel_rfl) rfl rfl ?_
  refine aqP (op_move rfl rfl) ?_
  refine aqP (op_slice_ro 1 (a :: r).length rfl (.inl rfl) (by exact ⟨_, rfl⟩) (by simp [bndIs]) (by simp) (by simp) Tryz.underlying22 sz5 (bv_len (a :: r)) (es' := r.map bv) (by rw [List.take_of_length_le (by simp)]; rfl)) ?_; (simp only [nA, Nat.reduceEqDiff, ↓reduceIte])
  refine aqP (op_move rfl rfl) ?_
  refine aqP (op_ia_ro 0 rfl (.inl rfl) rfl Tryz.underlying22 rfl rfl (by exact sz5) (bl rfl)) ?_
  (refine aqR (op_load_rop1 rfl rfl ag5) ?_)
  refine aqP (op_conv rfl rfl Tryz.underlying5 Tryz.underlying3 (wrapB _)) ?_
  refine aqP (op_build2 (xs := [_, .v (.int .i64 0), .v (.string ⟨#[]⟩), .v (.int .i64 0), .v (.int .i64 0), .v (.int .i64 0), .v (.int .i64 0), .v (.int .i64 0), .v (.bool false), .v (.slice none 0 0), .v (.int .i64 0), .v (.int .i64 0), .v (.string ⟨#[]⟩), .v (.int .i64 0), .v (.string ⟨#[]⟩), .v (.int .i64 0), .v (.int .i64 0), .v (.int .i64 0), .v (.int .i64 0), .v (.int .i64 0), .v (.int .i64 0), .v (.int .i64 0), .v (.int .i64 0), .v (.int .i64 0), .v (.int .i64 0), .v (.int .i64 0), .v (.int .i64 0), .v (.slice none 0 0), .v (.string ⟨#[]⟩), .v (.int .i64 0), .v (.string ⟨#[]⟩), .v (.int .i64 0)]) rfl pl42 ze42 [(0, [_])] rfl rfl rfl) ?_
  refine aqP (op_build2 (xs := [_, _, _, _, _, _, _, _, _, _, _, _, _, _, _, _, _, _, _, _, _, _, _, _, _, _, _, _, _, _, _, _, _, .v (.bool false)]) rfl pl73 ze73 [(0, [_]), (1, [_, _, _, _, _, _, _, _, _, _, _, _, _, _, _, _, _, _, _, _, _, _, _, _, _, _, _, _, _, _, _, _])] rfl rfl rfl) ?_
  refine AQ.nil ?_
  refine awJ (op_box rfl rfl rfl sz73 rfl) ?_; (simp only [nA, Nat.reduceBEq, Nat.reduceEqDiff, ↓reduceIte]); refine AWL.gh (Gh.slot2 (r := 1) (es' := [rowY (ev0 ((a.toNat : Nat) : Int)) ⟨r, false⟩]) rfl rfl (le_rd ((a.toNat : Nat) : Int) r)) ?_; (try simp only [nA, Nat.reduceBEq, Nat.reduceEqDiff, ↓reduceIte, Nat.reduceAdd, Nat.reduceSub])
  refine awP (op_assign rfl rfl) ?_
  refine AWL.nil ?_
  (refine hK _ ?_; clear hK K; (simp only [nA]))
  (refine AW.seq_k ?_; intro K hK)
  refine AW.region ?_
  refine awJ (OpQ.j (op_callQA (b := true) rfl en27 (C27) (RL.nil) rfl)) ?_; (try simp only [nA, Nat.reduceBEq, Nat.reduceEqDiff, ↓reduceIte, Nat.reduceAdd, Nat.reduceSub])
  refine awJ (op_alloc rfl ze75 rfl) ?_; (simp only [nA, Nat.reduceBEq, Nat.reduceEqDiff, ↓reduceIte])
  refine awJ (op_store rfl rfl rfl rfl rfl rfl sz75 rfl (bl rfl) rfl) ?_; (simp only [nA, Nat.reduceBEq, Nat.reduceEqDiff, ↓reduceIte])
  refine AWL.nil ?_
  (refine hK _ ?_; clear hK K; (skip))
  (refine AW.seq_k ?_; intro K hK)
  (refine AW.seq_k ?_; intro K hK)
  refine AW.region ?_
  refine awP (op_move rfl rfl) ?_
  (refine awP (op_nil_slot rfl rfl rfl) ?_)
  (refine awP (op_fa_ptr rfl rfl rfl fl73_1 (by exact sz42) (by decide) rfl) ?_)
  (refine awP (op_fa_ptr rfl rfl rfl fl42_0 (by exact sz3) (by decide) rfl) ?_)
  (refine awR (op_load_ptr1 rfl rfl rfl rfl ag3 rfl rfl) ?_)
  refine awP (op_ia_glob (((a.toNat : Nat) : Int)).toNat rfl rfl Tryz.underlying78 (by show ((a.toNat : Nat) : Int) = _; omega) (fldI_row hk) (by exact sz77)) ?_
  (refine awR (op_load_rop1 rfl rfl ag77) ?_)
  refine awP (op_len_ro (n := (fldI ((a.toNat : Nat) : Int)).length) rfl rfl Tryz.underlying77 (.inr (.inl ⟨_, rfl, by simp⟩))) ?_
  refine awP (op_move rfl rfl) ?_
  refine AWL.nil ?_
  (refine hK _ ?_; clear hK K; (simp only [nA, Nat.reduceBEq, Nat.reduceEqDiff, ↓reduceIte]))
  refine AW.block ?_
  have hfn := fldI_len ((a.toNat : Nat) : Int); refine AW.loopI (fun i => [(2, .ptr 0 1 0 0), (4, .ptr 1 2 0 0), (5, .ptr 2 3 0 0), (36, .ro ((fldI ((a.toNat : Nat) : Int)).map fun n => [.v (.int .i64 n)])), (37, .v (.int .i64 (fldI ((a.toNat : Nat) : Int)).length)), (38, .v (.int .i64 (i : Nat)))]) (fun i => ⟨[(1, .own 42 [evC (ev0 0) (.v (.slice none 0 0)) (.v (.slice none 0 0))]), (2, .own 73 [rowY (rdP ((a.toNat : Nat) : Int) r i).1 (rdP ((a.toNat : Nat) : Int) r i).2]), (3, .own 75 [rdsA])], 4⟩) (fun i => i ≤ (fldI ((a.toNat : Nat) : Int)).length) (fun i => (fldI ((a.toNat : Nat) : Int)).length - i) 0 (by simp) ⟨rfl, rfl, rfl, rfl, rfl, rfl, trivial⟩ rfl ?_; intro i ρ hi; simp only [updL]
  (refine AW.seq_k ?_; intro K hK)
  refine AW.region ?_
  refine awP (op_lss rfl rfl rfl) ?_
  refine AWL.nil ?_
  (refine hK _ ?_; clear hK K; (try simp only [nA, Nat.reduceBEq, Nat.reduceEqDiff, ↓reduceIte, Nat.reduceAdd, Nat.reduceSub]))
  (refine AW.seq_k ?_; intro K hK)
  refine AW.cond rfl rfl rfl (fun hc => ?_) (fun hc => ?_)
  ·
   have hc2 := hc; have hlt : i < (fldI ((a.toNat : Nat) : Int)).length := (by simpa using hc2); have hpb := fldI_bd hlt; have hp11 : ((fldI ((a.toNat : Nat) : Int)).getD i default).toNat ≤ 11 := (by omega); have h610 := rdP_lists (r := r) hlt
   refine AW.skip ?_
   (refine hK _ ?_; clear hK K; (skip))
   (refine AW.seq_k ?_; intro K hK)
   refine AW.block ?_
   (refine AW.seq_k ?_; intro K hK)
   refine AW.region ?_
   refine awP (op_ia_ro i rfl (.inl rfl) rfl Tryz.underlying77 rfl (get_mapD (by omega)) (by exact sz79) (bl rfl)) ?_
   (refine awR (op_load_rop1 rfl rfl ag79) ?_)
   refine awP (op_assign rfl rfl) ?_
   refine AWL.nil ?_
   (refine hK _ ?_; clear hK K; (simp only [nA]))
   refine AW.region ?_
   refine awP (op_move rfl rfl) ?_
   refine awP (op_ia_arr ((fldI ((a.toNat : Nat) : Int)).getD i default).toNat 1 rfl rfl rfl rfl Tryz.underlying75 (by omega) (by omega) sz74 (j' := ((fldI ((a.toNat : Nat) : Int)).getD i default).toNat) (by omega)) ?_
   refine awR (op_load_ptr1 (row := rdsA) rfl rfl rfl rfl ag74 (rds_get hp11) rfl) ?_
   refine awP (op_move rfl rfl) ?_
   refine awJ (op_val1 rfl rfl (en_p hp11) (C41p hp11 (Nat.le_trans (rdP_len ((a.toNat : Nat) : Int) r i) hrl) h610.1 h610.2) (by exact rfl) (RL.cons .ptr RL.nil) (by exact ⟨_, _, _, rfl, rfl, rfl⟩) (by exact rfl) (by exact rfl) (by exact rfl)) ?_; (simp only [nA, ↓reduceIte])
   refine AWL.nil ?_
   (try simp only [thenE, inBlk, Nat.reduceEqDiff, ↓reduceIte])
   (refine hK _ ?_; clear hK K; (skip))
   refine AW.region ?_
   (refine awP (op_addi rfl rfl rfl (by omega)) ?_)
   refine awP (op_move rfl rfl) ?_
   skip
   refine AWL.nil ?_
   refine ⟨i + 1, by omega, by omega, ⟨rfl, rfl, rfl, rfl, rfl, rfl, trivial⟩, congrArg (fun z : Ev × RS => (⟨[(1, .own 42 [evC (ev0 0) (.v (.slice none 0 0)) (.v (.slice none 0 0))]), (2, .own 73 [rowY z.1 z.2]), (3, .own 75 [rdsA])], 4⟩ : Sl)) (rdP_step hlt), (by rfl)⟩
  have hc2 := hc; have hnl : ¬ i < (fldI ((a.toNat : Nat) : Int)).length := (by simpa using hc2); rw [show rdP ((a.toNat : Nat) : Int) r i = rdD a r from rdP_end hnl]; refine AW.gh (Gh.freezeC (r := 1) 0 10 rfl rfl rfl (rp_flat _) rfl) ?_; (try simp only [nA, Nat.reduceBEq, Nat.reduceEqDiff, ↓reduceIte, Nat.reduceAdd, Nat.reduceSub]); refine AW.gh (Gh.freezeC (r := 1) 0 28 rfl rfl rfl (op_flat _) rfl) ?_; (try simp only [nA, Nat.reduceBEq, Nat.reduceEqDiff, ↓reduceIte, Nat.reduceAdd, Nat.reduceSub])
  refine AW.exit ?_; (try simp only [thenE, inBlk, Nat.reduceEqDiff, ↓reduceIte])
  clear hK K
  (refine hK _ ?_; clear hK K; (skip))
  (refine AW.seq_k ?_; intro K hK)
  (refine AW.seq_k ?_; intro K hK)
  refine AW.region (AWL.quiet ?_)
  refine aqP (op_move rfl rfl) ?_
  (refine aqP (op_nil_slot rfl rfl rfl) ?_)
  (refine aqP (op_fa_ptr rfl rfl rfl fl73_2 (by exact sz4) (by decide) rfl) ?_)
  (refine aqR (op_load_ptr1 rfl rfl rfl rfl ag4 rfl rfl) ?_)
  refine aqP (op_move rfl rfl) ?_
  refine' aqOr' [_, _, _, _, _, _] [53,54,55,56,57,58] rfl rfl rfl rfl rfl rfl rfl rfl rfl rfl rfl rfl (fun hb => ?_) ?_; rotate_left
  ·
   (try simp only [hcS] at hb)
   refine aqP (op_move rfl rfl) ?_
   (refine aqP (op_nil_slot rfl rfl rfl) ?_)
   (refine aqP (op_fa_ptr rfl rfl rfl fl73_0 (by exact sz22) (by decide) rfl) ?_)
   (refine aqR (op_load_ptr1 rfl rfl rfl rfl ag22 rfl rfl) ?_)
   refine aqP (op_len_ro (n := (rdD a r).2.b.length) rfl rfl Tryz.underlying22 (.inr (.inl ⟨_, rfl, by simp⟩))) ?_
   refine aqP (op_gtr rfl rfl rfl) ?_
   (refine aqSeg rfl rfl rfl ?_; repeat (first | exact fun _ _ => rfl | refine upd_out rfl ?_))
  simp only [nA, ↓reduceIte]
  refine aqP (op_move rfl rfl) ?_
  refine' aqOr' [_, _, _, _, _, _] [61,62,63,64,65,66] rfl rfl rfl rfl rfl rfl rfl rfl rfl rfl rfl rfl (fun hb => ?_) ?_; rotate_left
  ·
   (try simp only [hcS] at hb)
   refine aqP (op_move rfl rfl) ?_
   (refine aqP (op_nil_slot rfl rfl rfl) ?_)
   (refine aqP (op_fa_ptr rfl rfl rfl fl73_1 (by exact sz42) (by decide) rfl) ?_)
   (refine aqR (op_load_ptr rfl rfl rfl rfl ag42 sz42 (bl rfl) rfl) ?_)
   refine aqQ (op_callQ (b := true) rfl en28 (C28 (x := (rdD a r).1) (by have hq : (rdD a r).2.bad = false ∧ (rdD a r).2.b = [] := (by simpa using hb); exact rd_sm hrl hk0 hq.1 hq.2)) (RL.cons (by exact View.same rfl) (RL.nil)) rfl) ?_; (simp only [nA, Nat.reduceEqDiff, ↓reduceIte])
   (refine aqP (op_neq rfl rfl rfl) ?_)
   (refine aqSeg rfl rfl rfl ?_; repeat (first | exact fun _ _ => rfl | refine upd_out rfl ?_))
  simp only [nA]
  refine AQ.nil ?_
  (refine hK _ ?_; clear hK K; (skip))
  refine AW.cond rfl rfl rfl (fun hc => ?_) (fun hc => ?_)
  ·
   have hc3 := hc
   (refine AW.seq_k ?_; intro K hK)
   refine AW.region ?_
   refine awP (op_build2 (xs := [.v (.int .i64 0), .v (.int .i64 0), .v (.string ⟨#[]⟩), .v (.int .i64 0), .v (.int .i64 0), .v (.int .i64 0), .v (.int .i64 0), .v (.int .i64 0), .v (.bool false), .v (.slice none 0 0), .v (.int .i64 0), .v (.int .i64 0), .v (.string ⟨#[]⟩), .v (.int .i64 0), .v (.string ⟨#[]⟩), .v (.int .i64 0), .v (.int .i64 0), .v (.int .i64 0), .v (.int .i64 0), .v (.int .i64 0), .v (.int .i64 0), .v (.int .i64 0), .v (.int .i64 0), .v (.int .i64 0), .v (.int .i64 0), .v (.int .i64 0), .v (.int .i64 0), .v (.slice none 0 0), .v (.string ⟨#[]⟩), .v (.int .i64 0), .v (.string ⟨#[]⟩), .v (.int .i64 0)]) rfl pl42 ze42 [] rfl rfl rfl) ?_
   refine awJ (op_store rfl rfl rfl rfl rfl rfl sz42 rfl (bl rfl) rfl) ?_; (try simp only [nA, Nat.reduceBEq, Nat.reduceEqDiff, ↓reduceIte, Nat.reduceAdd, Nat.reduceSub])
   refine awP (op_assign rfl rfl) ?_
   refine AWL.nil ?_
   (refine hK _ ?_; clear hK K; (try simp only [nA, Nat.reduceBEq, Nat.reduceEqDiff, ↓reduceIte, Nat.reduceAdd, Nat.reduceSub]))
   refine AW.gh (Gh.slot (r := 0) (es' := [(ev0 0).av]) rfl rfl (le_ev0s 0)) ?_; (try simp only [nA, Nat.reduceBEq, Nat.reduceEqDiff, ↓reduceIte, Nat.reduceAdd, Nat.reduceSub])
   refine AW.ret ?_; (try simp only [thenE, inBlk, Nat.reduceEqDiff, ↓reduceIte]); rw [dec_no hk0 (by have hq : ((rdD a r).2.bad = true ∨ ¬ (rdD a r).2.b = []) ∨ ¬ valV (rdD a r).1 = 0 := (by simpa [List.length_pos_iff] using hc3); rcases hq with (h | h) | h; exact .inl h; exact .inr (.inl h); exact .inr (.inr h))]; exact RQ.of0 rfl (.cell (bl rfl) rfl rfl rfl ag42 sz42 (bl rfl) rfl rfl (.tmp (bl rfl) rfl rfl .nil))
  have hc3 := hc
  refine AW.skip ?_
  (refine hK _ ?_; clear hK K; (skip))
  (refine AW.seq_k ?_; intro K hK)
  refine AW.region ?_
  refine awP (op_move rfl rfl) ?_
  (refine awP (op_nil_slot rfl rfl rfl) ?_)
  (refine awP (op_fa_ptr rfl rfl rfl fl73_1 (by exact sz42) (by decide) rfl) ?_)
  (refine awR (op_load_ptr rfl rfl rfl rfl ag42 sz42 (bl rfl) rfl) ?_)
  refine awJ (op_store rfl rfl rfl rfl rfl rfl sz42 rfl (bl rfl) rfl) ?_; (simp only [nA, Nat.reduceEqDiff, ↓reduceIte])
  refine awP (op_assign rfl rfl) ?_
  refine AWL.nil ?_
  (refine hK _ ?_; clear hK K; (try simp only [nA, Nat.reduceBEq, Nat.reduceEqDiff, ↓reduceIte, Nat.reduceAdd, Nat.reduceSub]))
  skip
  refine AW.ret ?_; (try simp only [thenE, inBlk, Nat.reduceEqDiff, ↓reduceIte]); obtain ⟨⟨h1, h2⟩, h3⟩ : ((rdD a r).2.bad = false ∧ (rdD a r).2.b = []) ∧ valV (rdD a r).1 = 0 := (by simpa using hc3); rw [dec_yes hk0 h1 h2 h3]; exact RQ.of0 rfl (.cell (bl rfl) rfl rfl rfl ag42 sz42 (bl rfl) rfl rfl (.tmp (bl rfl) rfl rfl .nil))
end Go.Proofs.YtfmnaigedgmhoaaGreatDoor
namespace Go.Proofs.YtfmnaigedgmhoaaGreatDoor
open Go.RowKit
set_option linter.unusedSimpArgs false
set_option linter.unusedVariables false
set_option maxRecDepth 100000
def rN (l : List Int) : Nat → Nat → Nat
  | 0, k => k
  | j + 1, k => rN l j (rawN l k)
def opV (l : List Int) (k : Nat) (d : Int) : Op := ⟨gmod (rawV l k) 1048577, d, 1 + gmod (rawV l (rN l 1 k)) 99, 1 + gmod (rawV l (rN l 2 k)) 2, 1 + gmod (rawV l (rN l 3 k)) 999, pieceV l (rN l 4 k) 1000⟩
set_option maxHeartbeats 8000000 in
theorem C24 {l : List Int} {k : Nat} {d : Int} (hl : l.length ≤ 2000) : Fn Tryz.prog 24 [.own 53 [srcRow l k]] [.ptr 0 0 0 0, .v (.int .i64 d)] [.agg (opV l k d).av] [.own 53 [srcRow l (rN l 7 k)]] := by
  have h1 := gmod_bd (x := rawV l (rN l 1 k)) (n := 99) (by decide)
  have h2 := gmod_bd (x := rawV l (rN l 2 k)) (n := 2) (by decide)
  have h3 := gmod_bd (x := rawV l (rN l 3 k)) (n := 999) (by decide)
  refine Spec.body Tryz.func24 rfl Tryz.ntmps24 (by simp) rfl ?_; intro S0 own0 v0 w0 gl
  (refine AW.seq_k ?_; intro K hK)
  refine AW.region ?_
  refine awJ (op_alloc rfl ze39 rfl) ?_; (simp only [nA, Nat.reduceBEq, Nat.reduceEqDiff, ↓reduceIte])
  refine AWL.nil ?_
  (refine hK _ ?_; clear hK K; (try simp only [nA, Nat.reduceBEq, Nat.reduceEqDiff, ↓reduceIte, Nat.reduceAdd, Nat.reduceSub]))
  (refine AW.seq_k ?_; intro K hK)
  refine AW.region ?_
  refine awP (op_move rfl rfl) ?_; (simp only [nA, ↓reduceIte])
  refine awJ (op_call1 rfl en8 (C8 (k := k) (n := 1048577) hl (by decide)) (by exact rfl) (RL.cons .ptr (RL.cons (.base (by exact View.same rfl)) (RL.nil))) (by exact ⟨_, _, _, rfl, rfl, rfl⟩) (by exact rfl) (by exact rfl) (by exact rfl)) ?_; (try simp only [nA, Nat.reduceBEq, Nat.reduceEqDiff, ↓reduceIte, Nat.reduceAdd, Nat.reduceSub])
  refine awP (op_move rfl rfl) ?_; (simp only [nA, ↓reduceIte])
  refine awP (op_move rfl rfl) ?_; (simp only [nA, ↓reduceIte])
  refine awJ (op_call1 rfl en8 (C8 (k := rN l 1 k) (n := 99) hl (by decide)) (by exact rfl) (RL.cons .ptr (RL.cons (.base (by exact View.same rfl)) (RL.nil))) (by exact ⟨_, _, _, rfl, rfl, rfl⟩) (by exact rfl) (by exact rfl) (by exact rfl)) ?_; (try simp only [nA, Nat.reduceBEq, Nat.reduceEqDiff, ↓reduceIte, Nat.reduceAdd, Nat.reduceSub])
  (refine awP (op_addi rfl rfl rfl (by omega)) ?_); (try simp only [nA, Nat.reduceBEq, Nat.reduceEqDiff, ↓reduceIte, Nat.reduceAdd, Nat.reduceSub])
  refine awP (op_move rfl rfl) ?_; (simp only [nA, ↓reduceIte])
  refine awJ (op_call1 rfl en8 (C8 (k := rN l 2 k) (n := 2) hl (by decide)) (by exact rfl) (RL.cons .ptr (RL.cons (.base (by exact View.same rfl)) (RL.nil))) (by exact ⟨_, _, _, rfl, rfl, rfl⟩) (by exact rfl) (by exact rfl) (by exact rfl)) ?_; (try simp only [nA, Nat.reduceBEq, Nat.reduceEqDiff, ↓reduceIte, Nat.reduceAdd, Nat.reduceSub])
  (refine awP (op_addi rfl rfl rfl (by omega)) ?_); (try simp only [nA, Nat.reduceBEq, Nat.reduceEqDiff, ↓reduceIte, Nat.reduceAdd, Nat.reduceSub])
  refine awP (op_move rfl rfl) ?_; (simp only [nA, ↓reduceIte])
  refine awJ (op_call1 rfl en8 (C8 (k := rN l 3 k) (n := 999) hl (by decide)) (by exact rfl) (RL.cons .ptr (RL.cons (.base (by exact View.same rfl)) (RL.nil))) (by exact ⟨_, _, _, rfl, rfl, rfl⟩) (by exact rfl) (by exact rfl) (by exact rfl)) ?_; (try simp only [nA, Nat.reduceBEq, Nat.reduceEqDiff, ↓reduceIte, Nat.reduceAdd, Nat.reduceSub])
  (refine awP (op_addi rfl rfl rfl (by omega)) ?_); (try simp only [nA, Nat.reduceBEq, Nat.reduceEqDiff, ↓reduceIte, Nat.reduceAdd, Nat.reduceSub])
  refine awP (op_move rfl rfl) ?_; (simp only [nA, ↓reduceIte])
  refine awJ (op_call1 rfl en40 (C40 (k := rN l 4 k) (n := 1000) hl (by decide)) (by exact rfl) (RL.cons .ptr (RL.cons (.base (by exact View.same rfl)) (RL.nil))) (by exact ⟨_, _, _, rfl, rfl, rfl⟩) (by exact rfl) (by exact rfl) (by exact rfl)) ?_; (try simp only [nA, Nat.reduceBEq, Nat.reduceEqDiff, ↓reduceIte, Nat.reduceAdd, Nat.reduceSub])
  refine awP (op_build2 (xs := [_, _, _, _, _, _, _, _, _, _]) rfl pl39 ze39 [(0, [_]), (1, [_]), (2, [_]), (3, [_]), (4, [_]), (5, [_, _, _, _, _])] rfl rfl rfl) ?_; (simp only [nA, ↓reduceIte])
  refine awJ (op_store rfl rfl rfl rfl rfl rfl sz39 rfl (bl rfl) rfl) ?_; (simp only [nA, Nat.reduceBEq, Nat.reduceEqDiff, ↓reduceIte])
  refine AWL.nil ?_
  (refine hK _ ?_; clear hK K; (skip))
  skip
  refine AW.ret ?_; (try simp only [thenE, inBlk, Nat.reduceEqDiff, ↓reduceIte]); exact RQ.of (.inl rfl) rfl (.cell (bl rfl) rfl rfl rfl ag39 sz39 (bl rfl) rfl rfl .nil) (by simp) rfl (one_out rfl)
def evT : List ByteArray := [⟨#[]⟩, ⟨#[65]⟩, ⟨#[66, 83, 77, 10, 46, 86, 47, 49, 76, 67, 80, 72, 47, 49, 10, 69, 78, 68, 66, 83, 77, 10]⟩, ⟨#[0, 255]⟩]
def rpT : List ByteArray := [⟨#[]⟩, ⟨#[]⟩, ⟨#[48, 49, 49, 55, 48, 48, 49, 48, 48, 48]⟩, ⟨#[48, 49, 49, 55, 48, 48, 49, 48, 63, 48]⟩]
abbrev tmL : List Int := [0, 1, 300, 1048576]
def repsV (l : List Int) : Nat → Nat → List Report → List Report × Nat
  | 0, k, acc => (acc, k)
  | n + 1, k, acc => if gmod (rawV l k) 6 = 5 then repsV l n (rN l 3 k) (acc ++ [⟨((23 - n : Nat) : Int), decide (gmod (rawV l (rN l 1 k)) 2 = 1), textV l (rN l 2 k) rpT⟩]) else repsV l n (rN l 1 k) acc
def opsV (l : List Int) (d : Int) : Nat → Nat → List Op → List Op × Nat
  | 0, k, acc => (acc, k)
  | n + 1, k, acc => opsV l d n (rN l 7 k) (acc ++ [opV l k d])
def evK (l : List Int) (k : Nat) : Int := 1 + gmod (rawV l k) 14
def evD (l : List Int) (k : Nat) : Int := 1 + gmod (rawV l (rN l 1 k)) 6
def evV (l : List Int) (k : Nat) : Ev × Nat :=
  if evK l k = 1 then ({ ev0 (evK l k) with text := textV l (rN l 1 k) evT }, rN l 2 k)
  else if evK l k = 2 ∨ evK l k = 10 then ({ ev0 (evK l k) with plate := platesP (gmod (rawV l (rN l 1 k)) 1000), node := gmod (rawV l (rN l 2 k)) 24 }, rN l 3 k)
  else if evK l k = 3 then ({ ev0 (evK l k) with time := pickV l (rN l 1 k) tmL, reports := (repsV l 24 (rN l 2 k) []).1 }, (repsV l 24 (rN l 2 k) []).2)
  else if evK l k = 4 then ({ ev0 (evK l k) with image := gmod (rawV l (rN l 1 k)) 1048577, clear := decide (gmod (rawV l (rN l 2 k)) 2 = 1) }, rN l 3 k)
  else if evK l k = 5 then ({ ev0 (evK l k) with rev := ⟨1 + gmod (rawV l (rN l 1 k)) 5, gmod (rawV l (rN l 2 k)) 1048577, flS l (rN l 3 k)⟩ }, rN l 6 k)
  else if evK l k = 6 ∨ evK l k = 7 then ({ ev0 (evK l k) with node := gmod (rawV l (rN l 1 k)) 24 }, rN l 2 k)
  else if evK l k = 8 then ({ ev0 (evK l k) with op := { opV l (rN l 2 k) (evD l k) with kind := 1 }, node := gmod (rawV l (rN l 9 k)) 24 }, rN l 10 k)
  else if evK l k = 9 then ({ ev0 (evK l k) with op := { opV l (rN l 2 k) (evD l k) with kind := 2 } }, rN l 9 k)
  else if evK l k = 11 then ({ ev0 (evK l k) with device := evD l k }, rN l 2 k)
  else if evK l k = 12 then ({ ev0 (evK l k) with device := evD l k, ops := (opsV l (evD l k) (gmod (rawV l (rN l 2 k)) 6).toNat (rN l 3 k) []).1 }, (opsV l (evD l k) (gmod (rawV l (rN l 2 k)) 6).toNat (rN l 3 k) []).2)
  else if evK l k = 13 then ({ ev0 (evK l k) with fl := flS l (rN l 1 k) }, rN l 4 k)
  else (ev0 (evK l k), rN l 1 k)
section
variable {l : List Int} {k : Nat}
theorem evV_1 (h : evK l k = 1) : evV l k = ({ ev0 (evK l k) with text := textV l (rN l 1 k) evT }, rN l 2 k) := by
  unfold evV; rw [if_pos h]
theorem evV_2 (h : evK l k = 2 ∨ evK l k = 10) : evV l k = ({ ev0 (evK l k) with plate := platesP (gmod (rawV l (rN l 1 k)) 1000), node := gmod (rawV l (rN l 2 k)) 24 }, rN l 3 k) := by
  unfold evV; rw [if_neg (by omega), if_pos h]
theorem evV_3 (h : evK l k = 3) : evV l k = ({ ev0 (evK l k) with time := pickV l (rN l 1 k) tmL, reports := (repsV l 24 (rN l 2 k) []).1 }, (repsV l 24 (rN l 2 k) []).2) := by
  unfold evV; rw [if_neg (by omega), if_neg (by omega), if_pos h]
theorem evV_4 (h : evK l k = 4) : evV l k = ({ ev0 (evK l k) with image := gmod (rawV l (rN l 1 k)) 1048577, clear := decide (gmod (rawV l (rN l 2 k)) 2 = 1) }, rN l 3 k) := by
  unfold evV; rw [if_neg (by omega), if_neg (by omega), if_neg (by omega), if_pos h]
theorem evV_5 (h : evK l k = 5) : evV l k = ({ ev0 (evK l k) with rev := ⟨1 + gmod (rawV l (rN l 1 k)) 5, gmod (rawV l (rN l 2 k)) 1048577, flS l (rN l 3 k)⟩ }, rN l 6 k) := by
  unfold evV; rw [if_neg (by omega), if_neg (by omega), if_neg (by omega), if_neg (by omega), if_pos h]
theorem evV_6 (h : evK l k = 6 ∨ evK l k = 7) : evV l k = ({ ev0 (evK l k) with node := gmod (rawV l (rN l 1 k)) 24 }, rN l 2 k) := by
  unfold evV; rw [if_neg (by omega), if_neg (by omega), if_neg (by omega), if_neg (by omega), if_neg (by omega), if_pos h]
theorem evV_8 (h : evK l k = 8) : evV l k = ({ ev0 (evK l k) with op := { opV l (rN l 2 k) (evD l k) with kind := 1 }, node := gmod (rawV l (rN l 9 k)) 24 }, rN l 10 k) := by
  unfold evV; rw [if_neg (by omega), if_neg (by omega), if_neg (by omega), if_neg (by omega), if_neg (by omega), if_neg (by omega), if_pos h]
theorem evV_9 (h : evK l k = 9) : evV l k = ({ ev0 (evK l k) with op := { opV l (rN l 2 k) (evD l k) with kind := 2 } }, rN l 9 k) := by
  unfold evV; rw [if_neg (by omega), if_neg (by omega), if_neg (by omega), if_neg (by omega), if_neg (by omega), if_neg (by omega), if_neg (by omega), if_pos h]
theorem evV_11 (h : evK l k = 11) : evV l k = ({ ev0 (evK l k) with device := evD l k }, rN l 2 k) := by
  unfold evV; rw [if_neg (by omega), if_neg (by omega), if_neg (by omega), if_neg (by omega), if_neg (by omega), if_neg (by omega), if_neg (by omega), if_neg (by omega), if_pos h]
theorem evV_12 (h : evK l k = 12) : evV l k = ({ ev0 (evK l k) with device := evD l k, ops := (opsV l (evD l k) (gmod (rawV l (rN l 2 k)) 6).toNat (rN l 3 k) []).1 }, (opsV l (evD l k) (gmod (rawV l (rN l 2 k)) 6).toNat (rN l 3 k) []).2) := by
  unfold evV; rw [if_neg (by omega), if_neg (by omega), if_neg (by omega), if_neg (by omega), if_neg (by omega), if_neg (by omega), if_neg (by omega), if_neg (by omega), if_neg (by omega), if_pos h]
theorem evV_13 (h : evK l k = 13) : evV l k = ({ ev0 (evK l k) with fl := flS l (rN l 1 k) }, rN l 4 k) := by
  unfold evV; rw [if_neg (by omega), if_neg (by omega), if_neg (by omega), if_neg (by omega), if_neg (by omega), if_neg (by omega), if_neg (by omega), if_neg (by omega), if_neg (by omega), if_neg (by omega), if_pos h]
theorem evV_0 (h : evK l k ≠ 1 ∧ ¬ (evK l k = 2 ∨ evK l k = 10) ∧ evK l k ≠ 3 ∧ evK l k ≠ 4 ∧ evK l k ≠ 5 ∧ ¬ (evK l k = 6 ∨ evK l k = 7) ∧ ¬ (evK l k = 8 ∨ evK l k = 9) ∧ evK l k ≠ 11 ∧ evK l k ≠ 12 ∧ evK l k ≠ 13) : evV l k = (ev0 (evK l k), rN l 1 k) := by
  unfold evV; rw [if_neg (by omega), if_neg (by omega), if_neg (by omega), if_neg (by omega), if_neg (by omega), if_neg (by omega), if_neg (by omega), if_neg (by omega), if_neg (by omega), if_neg (by omega), if_neg (by omega)]
end
end Go.Proofs.YtfmnaigedgmhoaaGreatDoor
