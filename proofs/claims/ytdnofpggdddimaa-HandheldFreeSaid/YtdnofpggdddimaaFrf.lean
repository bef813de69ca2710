import Derived.Test.YtdnofpggdddimaaFre
namespace Go.Proofs.Ytdnofpggdddimaa
open Go.RowKit
set_option linter.unusedSimpArgs false
set_option linter.unusedVariables false
set_option maxRecDepth 100000
abbrev zeroH : Hand := ⟨0, 0, 0, false, [], [], []⟩
abbrev zeroO : Op := default
def scanE (h : Hand) (k : Int) (p : Piece) (n t : Int) : Int :=
  if valH h ≠ 0 then valH h
  else if !decide (k = 1) && !decide (k = 2) then 4
  else if (!piB p || !inB n 1 999) || !inB t 0 1048576 then 1
  else if t < h.last then 9
  else if decide (h.next = 1048576) || (h.offline && decide ((h.log.length : Int) = 60)) then 2
  else if h.offline && decide (k = 1) then loadErr h p n else 0
theorem scan_b3 (p : Piece) (n t : Int) : ((((!piB p || decide (n < 1)) || decide (n > 999)) || decide (t < 0)) || decide (t > 1048576)) = ((!piB p || !inB n 1 999) || !inB t 0 1048576) := by
  unfold inB
  rw [show decide (n < 1) = !decide (n ≥ 1) from by rw [← decide_not]; exact decide_eq_decide.2 (by omega), show decide (n > 999) = !decide (n ≤ 999) from by rw [← decide_not]; exact decide_eq_decide.2 (by omega),
    show decide (t < 0) = !decide (t ≥ 0) from by rw [← decide_not]; exact decide_eq_decide.2 (by omega), show decide (t > 1048576) = !decide (t ≤ 1048576) from by rw [← decide_not]; exact decide_eq_decide.2 (by omega)]
  simp [Bool.or_assoc]
theorem scan_b6 {o : Bool} {k : Int} (hk : ¬ ((!decide (k = 1) && !decide (k = 2)) = true)) (h : (!o || decide (k = 2)) = true) : ¬ ((o && decide (k = 1)) = true) := by
  cases o <;> simp at *
  omega
theorem scan_c6 {o : Bool} {k : Int} (hk : ¬ ((!decide (k = 1) && !decide (k = 2)) = true)) (h : (!o || decide (k = 2)) = false) : (o && decide (k = 1)) = true := by
  cases o <;> simp at *
  omega
theorem flight_2 {l : List Container} {n : Int} : (flightOf l n).2 = !decide (idxI (fun c : Container => decide (c.number = n)) l < 0) := by
  unfold flightOf
  by_cases h : idxI (fun c : Container => decide (c.number = n)) l < 0
  · rw [if_pos h, decide_eq_true h]; rfl
  · rw [if_neg h, decide_eq_false h]; rfl
theorem flight_1 {l : List Container} {n : Int} (h : (flightOf l n).2 = true) : ¬ (idxI (fun c : Container => decide (c.number = n)) l < 0) ∧ (flightOf l n).1 = (l.getD (idxI (fun c : Container => decide (c.number = n)) l).toNat default).flight := by
  rw [flight_2] at h
  have h' : ¬ (idxI (fun c : Container => decide (c.number = n)) l < 0) := by simpa using h
  unfold flightOf
  rw [if_neg h']
  exact ⟨h', rfl⟩
theorem load_6 {h : Hand} {p : Piece} {n : Int} (h1 : (flightOf h.conts n).2 = false) : loadErr h p n = 6 := by
  rw [flight_2] at h1
  unfold loadErr
  rw [if_pos (by simpa using h1)]
theorem load_10 {h : Hand} {p : Piece} {n : Int} (h1 : (flightOf h.conts n).2 = true) (h2 : grantedB h.grants p (flightOf h.conts n).1 = false) : loadErr h p n = 10 := by
  obtain ⟨g1, g2⟩ := flight_1 h1
  unfold loadErr
  rw [if_neg g1, if_pos (by rw [← g2]; exact h2)]
theorem load_5 {h : Hand} {p : Piece} {n : Int} (h1 : (flightOf h.conts n).2 = true) (h2 : grantedB h.grants p (flightOf h.conts n).1 = true) (h3 : loadedB h.log p.plate = true) : loadErr h p n = 5 := by
  obtain ⟨g1, g2⟩ := flight_1 h1
  unfold loadErr
  rw [if_neg g1, if_neg (by rw [← g2, h2]; decide), if_pos h3]
theorem load_0 {h : Hand} {p : Piece} {n : Int} (h1 : (flightOf h.conts n).2 = true) (h2 : grantedB h.grants p (flightOf h.conts n).1 = true) (h3 : loadedB h.log p.plate = false) : loadErr h p n = 0 := by
  obtain ⟨g1, g2⟩ := flight_1 h1
  unfold loadErr
  rw [if_neg g1, if_neg (by rw [← g2, h2]; decide), if_neg (by rw [h3]; decide)]
theorem C61 {h : Hand} {k n t : Int} {p : Piece} (hs : h.Sm) : Fn Try.prog 61 [] [.agg h.av, .v (.int .i64 k), .agg p.av, .v (.int .i64 n), .v (.int .i64 t)] [.v (.int .i64 (scanE h k p n t))] [] := by
  refine Spec.body Try.func61 rfl Try.ntmps61 (by simp) rfl ?_; intro S0 own0 v0 w0
  (refine AW.seq_k ?_; intro K hK)
  refine AW.region ?_
  refine awJ (op_box rfl rfl rfl sz26 rfl) ?_; (simp only [nA, Nat.reduceBEq, Nat.reduceEqDiff, ↓reduceIte, Nat.reduceAdd, Nat.reduceSub])
  refine awJ (op_box rfl rfl rfl sz31 rfl) ?_; (simp only [nA, Nat.reduceBEq, Nat.reduceEqDiff, ↓reduceIte, Nat.reduceAdd, Nat.reduceSub])
  refine awP (op_assign rfl rfl) ?_
  refine AWL.nil ?_
  (refine hK _ ?_; clear hK K; (simp only [nA, Nat.reduceBEq, Nat.reduceEqDiff, ↓reduceIte, Nat.reduceAdd, Nat.reduceSub]))
  (refine AW.seq_k ?_; intro K hK)
  (refine AW.seq_k ?_; intro K hK)
  refine AW.region ?_
  (refine awR (op_load_ptr rfl rfl rfl rfl ag26 sz26 (Nat.le_of_ble_eq_true rfl) rfl) ?_)
  refine awJ (OpQ.j (op_callQ (b := true) rfl en19 (C19 (h := h) hs) (RL.cons (by exact View.same rfl) (RL.nil)) rfl)) ?_; (simp only [nA, Nat.reduceBEq, Nat.reduceEqDiff, ↓reduceIte, Nat.reduceAdd, Nat.reduceSub])
  refine awP (op_assign rfl rfl) ?_
  refine AWL.nil ?_
  (refine hK _ ?_; clear hK K; (simp only [nA, Nat.reduceBEq, Nat.reduceEqDiff, ↓reduceIte, Nat.reduceAdd, Nat.reduceSub]))
  (refine AW.seq_k ?_; intro K hK)
  refine AW.region ?_
  refine awP (op_move rfl rfl) ?_
  (refine awP (op_neq rfl rfl rfl) ?_)
  refine AWL.nil ?_
  (refine hK _ ?_; clear hK K; (simp only [nA, Nat.reduceBEq, Nat.reduceEqDiff, ↓reduceIte, Nat.reduceAdd, Nat.reduceSub]))
  refine AW.cond rfl rfl rfl (fun hc => ?_) (fun hc => ?_)
  ·
   have hc1 := hc; have g1 : valH h ≠ 0 := (by simpa using hc1)
   (refine AW.seq_k ?_; intro K hK)
   refine AW.region ?_
   refine awP (op_move rfl rfl) ?_
   refine awP (op_assign rfl rfl) ?_
   refine AWL.nil ?_
   (refine hK _ ?_; clear hK K; (simp only [nA, Nat.reduceBEq, Nat.reduceEqDiff, ↓reduceIte, Nat.reduceAdd, Nat.reduceSub]))
   skip
   refine AW.ret ?_; (simp only [thenE, inBlk, Nat.reduceEqDiff, ↓reduceIte]); rw [show scanE h k p n t = valH h by unfold scanE; rw [if_pos g1]]; exact RQ.of0 rfl (.tmp (Nat.le_of_ble_eq_true rfl) rfl rfl .nil)
  ·
   have hc1 := hc; have g1 : ¬ (valH h ≠ 0) := (by simpa using hc1)
   refine AW.skip ?_
   (refine hK _ ?_; clear hK K; (skip))
   (refine AW.seq_k ?_; intro K hK)
   (refine AW.seq_k ?_; intro K hK)
   refine AW.region (AWL.quiet ?_)
   refine aqP (op_move rfl rfl) ?_
   (refine aqP (op_neq rfl rfl rfl) ?_)
   refine aqP (op_move rfl rfl) ?_
   refine' aqAnd' [_, _] [22,23] rfl rfl rfl rfl rfl rfl rfl rfl rfl rfl rfl rfl (fun hb => ?_) ?_; rotate_left
   ·
    (try simp only [hcS] at hb)
    refine aqP (op_move rfl rfl) ?_
    (refine aqP (op_neq rfl rfl rfl) ?_)
    (refine aqSeg rfl rfl rfl ?_; repeat (first | exact fun _ _ => rfl | refine upd_out rfl ?_))
   (simp only [nA, Nat.reduceBEq, Nat.reduceEqDiff, ↓reduceIte, Nat.reduceAdd, Nat.reduceSub])
   refine AQ.nil ?_
   (refine hK _ ?_; clear hK K; (skip))
   refine AW.cond rfl rfl rfl (fun hc => ?_) (fun hc => ?_)
   ·
    have hc2 := hc; skip
    (refine AW.seq_k ?_; intro K hK)
    refine AW.region ?_
    refine awP (op_assign rfl rfl) ?_
    refine AWL.nil ?_
    (refine hK _ ?_; clear hK K; (simp only [nA, Nat.reduceBEq, Nat.reduceEqDiff, ↓reduceIte, Nat.reduceAdd, Nat.reduceSub]))
    skip
    refine AW.ret ?_; (simp only [thenE, inBlk, Nat.reduceEqDiff, ↓reduceIte]); rw [show scanE h k p n t = 4 by unfold scanE; rw [if_neg g1, if_pos hc2]]; exact RQ.of0 rfl (.tmp (Nat.le_of_ble_eq_true rfl) rfl rfl .nil)
   ·
    have hc2 := hc; have g2 : ¬ ((!decide (k = 1) && !decide (k = 2)) = true) := (by rw [show (!decide (k = 1) && !decide (k = 2)) = false from hc2]; decide)
    refine AW.skip ?_
    (refine hK _ ?_; clear hK K; (skip))
    (refine AW.seq_k ?_; intro K hK)
    (refine AW.seq_k ?_; intro K hK)
    refine AW.region (AWL.quiet ?_)
    (refine aqR (op_load_ptr rfl rfl rfl rfl ag31 sz31 (Nat.le_of_ble_eq_true rfl) rfl) ?_)
    refine aqQ (op_callQ (b := true) rfl en55 (C55 (p := p)) (RL.cons (by exact View.same rfl) (RL.nil)) rfl) ?_; (simp only [nA, Nat.reduceBEq, Nat.reduceEqDiff, ↓reduceIte, Nat.reduceAdd, Nat.reduceSub])
    refine aqP (op_not rfl rfl rfl) ?_
    refine aqP (op_move rfl rfl) ?_
    refine' aqOr' [_, _] [29,30] rfl rfl rfl rfl rfl rfl rfl rfl rfl rfl rfl rfl (fun hb => ?_) ?_; rotate_left
    ·
     (try simp only [hcS] at hb)
     refine aqP (op_move rfl rfl) ?_
     refine aqP (op_lss rfl rfl rfl) ?_
     (refine aqSeg rfl rfl rfl ?_; repeat (first | exact fun _ _ => rfl | refine upd_out rfl ?_))
    (simp only [nA, Nat.reduceBEq, Nat.reduceEqDiff, ↓reduceIte, Nat.reduceAdd, Nat.reduceSub])
    refine aqP (op_move rfl rfl) ?_
    refine' aqOr' [_, _] [33,34] rfl rfl rfl rfl rfl rfl rfl rfl rfl rfl rfl rfl (fun hb => ?_) ?_; rotate_left
    ·
     (try simp only [hcS] at hb)
     refine aqP (op_move rfl rfl) ?_
     refine aqP (op_gtr rfl rfl rfl) ?_
     (refine aqSeg rfl rfl rfl ?_; repeat (first | exact fun _ _ => rfl | refine upd_out rfl ?_))
    (simp only [nA, Nat.reduceBEq, Nat.reduceEqDiff, ↓reduceIte, Nat.reduceAdd, Nat.reduceSub])
    refine aqP (op_move rfl rfl) ?_
    refine' aqOr' [_, _] [37,38] rfl rfl rfl rfl rfl rfl rfl rfl rfl rfl rfl rfl (fun hb => ?_) ?_; rotate_left
    ·
     (try simp only [hcS] at hb)
     refine aqP (op_move rfl rfl) ?_
     refine aqP (op_lss rfl rfl rfl) ?_
     (refine aqSeg rfl rfl rfl ?_; repeat (first | exact fun _ _ => rfl | refine upd_out rfl ?_))
    (simp only [nA, Nat.reduceBEq, Nat.reduceEqDiff, ↓reduceIte, Nat.reduceAdd, Nat.reduceSub])
    refine aqP (op_move rfl rfl) ?_
    refine' aqOr' [_, _] [41,42] rfl rfl rfl rfl rfl rfl rfl rfl rfl rfl rfl rfl (fun hb => ?_) ?_; rotate_left
    ·
     (try simp only [hcS] at hb)
     refine aqP (op_move rfl rfl) ?_
     refine aqP (op_gtr rfl rfl rfl) ?_
     (refine aqSeg rfl rfl rfl ?_; repeat (first | exact fun _ _ => rfl | refine upd_out rfl ?_))
    (simp only [nA, Nat.reduceBEq, Nat.reduceEqDiff, ↓reduceIte, Nat.reduceAdd, Nat.reduceSub])
    refine AQ.nil ?_
    (refine hK _ ?_; clear hK K; (skip))
    refine AW.cond rfl rfl rfl (fun hc => ?_) (fun hc => ?_)
    ·
     have hc3 := hc; have e3 : (((((!piB p || decide (n < 1)) || decide (n > 999)) || decide (t < 0)) || decide (t > 1048576))) = ((!piB p || !inB n 1 999) || !inB t 0 1048576) := scan_b3 p n t; have g3 : ((!piB p || !inB n 1 999) || !inB t 0 1048576) = true := (by rw [← e3]; exact hc3)
     (refine AW.seq_k ?_; intro K hK)
     refine AW.region ?_
     refine awP (op_assign rfl rfl) ?_
     refine AWL.nil ?_
     (refine hK _ ?_; clear hK K; (simp only [nA, Nat.reduceBEq, Nat.reduceEqDiff, ↓reduceIte, Nat.reduceAdd, Nat.reduceSub]))
     skip
     refine AW.ret ?_; (simp only [thenE, inBlk, Nat.reduceEqDiff, ↓reduceIte]); rw [show scanE h k p n t = 1 by unfold scanE; rw [if_neg g1, if_neg g2, if_pos g3]]; exact RQ.of0 rfl (.tmp (Nat.le_of_ble_eq_true rfl) rfl rfl .nil)
    ·
     have hc3 := hc; have e3 : (((((!piB p || decide (n < 1)) || decide (n > 999)) || decide (t < 0)) || decide (t > 1048576))) = ((!piB p || !inB n 1 999) || !inB t 0 1048576) := scan_b3 p n t; have g3 : ¬ (((!piB p || !inB n 1 999) || !inB t 0 1048576) = true) := (by rw [← e3]; rw [show (((((!piB p || decide (n < 1)) || decide (n > 999)) || decide (t < 0)) || decide (t > 1048576))) = false from hc3]; decide)
     refine AW.skip ?_
     (refine hK _ ?_; clear hK K; (skip))
     (refine AW.seq_k ?_; intro K hK)
     (refine AW.seq_k ?_; intro K hK)
     refine AW.region ?_
     refine awP (op_move rfl rfl) ?_
     (refine awP (op_fa_ptr rfl rfl rfl fl26_2 (by exact sz3) (by decide) rfl) ?_)
     (refine awR (op_load_ptr1 rfl rfl rfl rfl ag3 rfl rfl) ?_)
     refine awP (op_lss rfl rfl rfl) ?_
     refine AWL.nil ?_
     (refine hK _ ?_; clear hK K; (simp only [nA, Nat.reduceBEq, Nat.reduceEqDiff, ↓reduceIte, Nat.reduceAdd, Nat.reduceSub]))
     refine AW.cond rfl rfl rfl (fun hc => ?_) (fun hc => ?_)
     ·
      have hc4 := hc; have g4 : t < h.last := (by simpa using hc4)
      (refine AW.seq_k ?_; intro K hK)
      refine AW.region ?_
      refine awP (op_assign rfl rfl) ?_
      refine AWL.nil ?_
      (refine hK _ ?_; clear hK K; (simp only [nA, Nat.reduceBEq, Nat.reduceEqDiff, ↓reduceIte, Nat.reduceAdd, Nat.reduceSub]))
      skip
      refine AW.ret ?_; (simp only [thenE, inBlk, Nat.reduceEqDiff, ↓reduceIte]); rw [show scanE h k p n t = 9 by unfold scanE; rw [if_neg g1, if_neg g2, if_neg g3, if_pos g4]]; exact RQ.of0 rfl (.tmp (Nat.le_of_ble_eq_true rfl) rfl rfl .nil)
     ·
      have hc4 := hc; have g4 : ¬ (t < h.last) := (by simpa using hc4)
      refine AW.skip ?_
      (refine hK _ ?_; clear hK K; (skip))
      (refine AW.seq_k ?_; intro K hK)
      (refine AW.seq_k ?_; intro K hK)
      refine AW.region (AWL.quiet ?_)
      (refine aqP (op_fa_ptr rfl rfl rfl fl26_1 (by exact sz3) (by decide) rfl) ?_)
      (refine aqR (op_load_ptr1 rfl rfl rfl rfl ag3 rfl rfl) ?_)
      (refine aqP (op_eql rfl rfl rfl) ?_)
      refine aqP (op_move rfl rfl) ?_
      refine' aqOrN' [_, _, _, _, _, _, _, _] [52,53,54,55,56,57,58,59] rfl rfl rfl rfl rfl rfl rfl rfl rfl rfl rfl rfl (fun hb => ?_) ?_; rotate_left
      ·
       (try simp only [hcS] at hb)
       (refine aqP (op_fa_ptr rfl rfl rfl fl26_3 (by exact sz4) (by decide) rfl) ?_)
       (refine aqR (op_load_ptr1 rfl rfl rfl rfl ag4 rfl rfl) ?_)
       refine aqP (op_move rfl rfl) ?_
       refine' aqAnd' [_, _, _, _] [55,56,57,58] rfl rfl rfl rfl rfl rfl rfl rfl rfl rfl rfl rfl (fun hb => ?_) ?_; rotate_left
       ·
        (try simp only [hcS] at hb)
        (refine aqP (op_fa_ptr rfl rfl rfl fl26_6 (by exact sz24) (by decide) rfl) ?_)
        (refine aqR (op_load_ptr1 rfl rfl rfl rfl ag24 rfl rfl) ?_)
        refine aqP (op_len_ro (n := h.log.length) rfl rfl Try.underlying24 (.inr (.inl ⟨_, rfl, by simp⟩))) ?_
        (refine aqP (op_eql rfl rfl rfl) ?_)
        (refine aqSeg rfl rfl rfl ?_; repeat (first | exact fun _ _ => rfl | refine upd_out rfl ?_))
       (simp only [nA, Nat.reduceBEq, Nat.reduceEqDiff, ↓reduceIte, Nat.reduceAdd, Nat.reduceSub])
       (refine aqSeg rfl rfl rfl ?_; repeat (first | exact fun _ _ => rfl | refine upd_out rfl ?_ | refine era_out rfl ?_))
      (simp only [nA, Nat.reduceBEq, Nat.reduceEqDiff, ↓reduceIte, Nat.reduceAdd, Nat.reduceSub])
      refine AQ.nil ?_
      (refine hK _ ?_; clear hK K; (skip))
      refine AW.cond rfl rfl rfl (fun hc => ?_) (fun hc => ?_)
      ·
       have hc5 := hc; skip
       (refine AW.seq_k ?_; intro K hK)
       refine AW.region ?_
       refine awP (op_assign rfl rfl) ?_
       refine AWL.nil ?_
       (refine hK _ ?_; clear hK K; (simp only [nA, Nat.reduceBEq, Nat.reduceEqDiff, ↓reduceIte, Nat.reduceAdd, Nat.reduceSub]))
       skip
       refine AW.ret ?_; (simp only [thenE, inBlk, Nat.reduceEqDiff, ↓reduceIte]); rw [show scanE h k p n t = 2 by unfold scanE; rw [if_neg g1, if_neg g2, if_neg g3, if_neg g4, if_pos hc5]]; exact RQ.of0 rfl (.tmp (Nat.le_of_ble_eq_true rfl) rfl rfl .nil)
      ·
       have hc5 := hc; have g5 : ¬ ((decide (h.next = 1048576) || (h.offline && decide ((h.log.length : Int) = 60))) = true) := (by rw [show (decide (h.next = 1048576) || (h.offline && decide ((h.log.length : Int) = 60))) = false from hc5]; decide)
       refine AW.skip ?_
       (refine hK _ ?_; clear hK K; (skip))
       (refine AW.seq_k ?_; intro K hK)
       (refine AW.seq_k ?_; intro K hK)
       refine AW.region (AWL.quiet ?_)
       (refine aqP (op_fa_ptr rfl rfl rfl fl26_3 (by exact sz4) (by decide) rfl) ?_)
       (refine aqR (op_load_ptr1 rfl rfl rfl rfl ag4 rfl rfl) ?_)
       refine aqP (op_not rfl rfl rfl) ?_
       refine aqP (op_move rfl rfl) ?_
       refine' aqOr' [_, _] [65,66] rfl rfl rfl rfl rfl rfl rfl rfl rfl rfl rfl rfl (fun hb => ?_) ?_; rotate_left
       ·
        (try simp only [hcS] at hb)
        refine aqP (op_move rfl rfl) ?_
        (refine aqP (op_eql rfl rfl rfl) ?_)
        (refine aqSeg rfl rfl rfl ?_; repeat (first | exact fun _ _ => rfl | refine upd_out rfl ?_))
       (simp only [nA, Nat.reduceBEq, Nat.reduceEqDiff, ↓reduceIte, Nat.reduceAdd, Nat.reduceSub])
       refine AQ.nil ?_
       (refine hK _ ?_; clear hK K; (skip))
       refine AW.cond rfl rfl rfl (fun hc => ?_) (fun hc => ?_)
       ·
        have hc6 := hc; have g6 : ¬ ((h.offline && decide (k = 1)) = true) := scan_b6 g2 hc6
        (refine AW.seq_k ?_; intro K hK)
        refine AW.region ?_
        refine awP (op_assign rfl rfl) ?_
        refine AWL.nil ?_
        (refine hK _ ?_; clear hK K; (simp only [nA, Nat.reduceBEq, Nat.reduceEqDiff, ↓reduceIte, Nat.reduceAdd, Nat.reduceSub]))
        skip
        refine AW.ret ?_; (simp only [thenE, inBlk, Nat.reduceEqDiff, ↓reduceIte]); rw [show scanE h k p n t = 0 by unfold scanE; rw [if_neg g1, if_neg g2, if_neg g3, if_neg g4, if_neg g5, if_neg g6]]; exact RQ.of0 rfl (.tmp (Nat.le_of_ble_eq_true rfl) rfl rfl .nil)
       ·
        have hc6 := hc; have g6 : (h.offline && decide (k = 1)) = true := scan_c6 g2 hc6
        refine AW.skip ?_
        (refine hK _ ?_; clear hK K; (skip))
        (refine AW.seq_k ?_; intro K hK)
        refine AW.region ?_
        (refine awP (op_fa_ptr rfl rfl rfl fl26_5 (by exact sz23) (by decide) rfl) ?_)
        (refine awR (op_load_ptr1 rfl rfl rfl rfl ag23 rfl rfl) ?_)
        refine awP (op_move rfl rfl) ?_
        refine awJ (op_call (b := false) rfl en78 (C78 (l := h.conts) (n := n) (by have := hs.c; omega)) (RL.cons (by exact View.same rfl) (RL.cons (by exact View.same rfl) (RL.nil))) rfl (fun h => by cases h) rfl rfl) ?_; (simp only [nA, Nat.reduceBEq, Nat.reduceEqDiff, ↓reduceIte, Nat.reduceAdd, Nat.reduceSub])
        refine awP (op_move rfl rfl) ?_
        refine awP (op_extract rfl rfl rfl) ?_
        refine awP (op_extract rfl rfl rfl) ?_
        refine awJ (op_alloc rfl ze73 rfl) ?_; (simp only [nA, Nat.reduceBEq, Nat.reduceEqDiff, ↓reduceIte, Nat.reduceAdd, Nat.reduceSub])
        refine awJ (op_store rfl rfl rfl rfl rfl rfl sz73 rfl (Nat.le_of_ble_eq_true rfl) rfl) ?_; (simp only [nA, Nat.reduceBEq, Nat.reduceEqDiff, ↓reduceIte, Nat.reduceAdd, Nat.reduceSub])
        refine awP (op_assign rfl rfl) ?_
        refine AWL.nil ?_
        (refine hK _ ?_; clear hK K; (simp only [nA, Nat.reduceBEq, Nat.reduceEqDiff, ↓reduceIte, Nat.reduceAdd, Nat.reduceSub]))
        (refine AW.seq_k ?_; intro K hK)
        (refine AW.seq_k ?_; intro K hK)
        refine AW.region ?_
        refine awP (op_move rfl rfl) ?_
        refine awP (op_not rfl rfl rfl) ?_
        refine AWL.nil ?_
        (refine hK _ ?_; clear hK K; (simp only [nA, Nat.reduceBEq, Nat.reduceEqDiff, ↓reduceIte, Nat.reduceAdd, Nat.reduceSub]))
        refine AW.cond rfl rfl rfl (fun hc => ?_) (fun hc => ?_)
        ·
         have hc7 := hc; skip
         (refine AW.seq_k ?_; intro K hK)
         refine AW.region ?_
         refine awP (op_assign rfl rfl) ?_
         refine AWL.nil ?_
         (refine hK _ ?_; clear hK K; (simp only [nA, Nat.reduceBEq, Nat.reduceEqDiff, ↓reduceIte, Nat.reduceAdd, Nat.reduceSub]))
         skip
         refine AW.ret ?_; (simp only [thenE, inBlk, Nat.reduceEqDiff, ↓reduceIte]); rw [show scanE h k p n t = loadErr h p n by unfold scanE; rw [if_neg g1, if_neg g2, if_neg g3, if_neg g4, if_neg g5, if_pos g6]]; rw [load_6 (by simpa using hc7)]; exact RQ.of0 rfl (.tmp (Nat.le_of_ble_eq_true rfl) rfl rfl .nil)
        ·
         have hc7 := hc; skip
         refine AW.skip ?_
         (refine hK _ ?_; clear hK K; (skip))
         (refine AW.seq_k ?_; intro K hK)
         (refine AW.seq_k ?_; intro K hK)
         refine AW.region ?_
         (refine awP (op_fa_ptr rfl rfl rfl fl26_4 (by exact sz22) (by decide) rfl) ?_)
         (refine awR (op_load_ptr1 rfl rfl rfl rfl ag22 rfl rfl) ?_)
         (refine awR (op_load_ptr rfl rfl rfl rfl ag31 sz31 (Nat.le_of_ble_eq_true rfl) rfl) ?_)
         (refine awR (op_load_ptr rfl rfl rfl rfl ag73 sz73 (Nat.le_of_ble_eq_true rfl) rfl) ?_)
         refine awJ (OpQ.j (op_callQ (b := true) rfl en79 (C79 (l := h.grants) (p := p) (f := (flightOf h.conts n).1) (by have := hs.g; omega)) (RL.cons (by exact View.same rfl) (RL.cons (by exact View.same rfl) (RL.cons (by exact View.same rfl) (RL.nil)))) rfl)) ?_; (simp only [nA, Nat.reduceBEq, Nat.reduceEqDiff, ↓reduceIte, Nat.reduceAdd, Nat.reduceSub])
         refine awP (op_not rfl rfl rfl) ?_
         refine AWL.nil ?_
         (refine hK _ ?_; clear hK K; (simp only [nA, Nat.reduceBEq, Nat.reduceEqDiff, ↓reduceIte, Nat.reduceAdd, Nat.reduceSub]))
         refine AW.cond rfl rfl rfl (fun hc => ?_) (fun hc => ?_)
         ·
          have hc8 := hc; skip
          (refine AW.seq_k ?_; intro K hK)
          refine AW.region ?_
          refine awP (op_assign rfl rfl) ?_
          refine AWL.nil ?_
          (refine hK _ ?_; clear hK K; (simp only [nA, Nat.reduceBEq, Nat.reduceEqDiff, ↓reduceIte, Nat.reduceAdd, Nat.reduceSub]))
          skip
          refine AW.ret ?_; (simp only [thenE, inBlk, Nat.reduceEqDiff, ↓reduceIte]); rw [show scanE h k p n t = loadErr h p n by unfold scanE; rw [if_neg g1, if_neg g2, if_neg g3, if_neg g4, if_neg g5, if_pos g6]]; rw [load_10 (by simpa using hc7) (by simpa using hc8)]; exact RQ.of0 rfl (.tmp (Nat.le_of_ble_eq_true rfl) rfl rfl .nil)
         ·
          have hc8 := hc; skip
          refine AW.skip ?_
          (refine hK _ ?_; clear hK K; (skip))
          (refine AW.seq_k ?_; intro K hK)
          (refine AW.seq_k ?_; intro K hK)
          refine AW.region ?_
          (refine awP (op_fa_ptr rfl rfl rfl fl26_6 (by exact sz24) (by decide) rfl) ?_)
          (refine awR (op_load_ptr1 rfl rfl rfl rfl ag24 rfl rfl) ?_)
          (refine awP (op_fa_ptr rfl rfl rfl fl31_0 (by exact sz29) (by decide) rfl) ?_)
          (refine awR (op_load_ptr rfl rfl rfl rfl ag29 sz29 (Nat.le_of_ble_eq_true rfl) rfl) ?_)
          refine awJ (OpQ.j (op_callQ (b := true) rfl en39 (C39 (l := h.log) (p := p.plate) (by have := hs.l; omega)) (RL.cons (by exact View.same rfl) (RL.cons (by exact View.same rfl) (RL.nil))) rfl)) ?_; (simp only [nA, Nat.reduceBEq, Nat.reduceEqDiff, ↓reduceIte, Nat.reduceAdd, Nat.reduceSub])
          refine AWL.nil ?_
          (refine hK _ ?_; clear hK K; (skip))
          refine AW.cond rfl rfl rfl (fun hc => ?_) (fun hc => ?_)
          ·
           have hc9 := hc; skip
           (refine AW.seq_k ?_; intro K hK)
           refine AW.region ?_
           refine awP (op_assign rfl rfl) ?_
           refine AWL.nil ?_
           (refine hK _ ?_; clear hK K; (simp only [nA, Nat.reduceBEq, Nat.reduceEqDiff, ↓reduceIte, Nat.reduceAdd, Nat.reduceSub]))
           skip
           refine AW.ret ?_; (simp only [thenE, inBlk, Nat.reduceEqDiff, ↓reduceIte]); rw [show scanE h k p n t = loadErr h p n by unfold scanE; rw [if_neg g1, if_neg g2, if_neg g3, if_neg g4, if_neg g5, if_pos g6]]; rw [load_5 (by simpa using hc7) (by simpa using hc8) hc9]; exact RQ.of0 rfl (.tmp (Nat.le_of_ble_eq_true rfl) rfl rfl .nil)
          ·
           have hc9 := hc; skip
           refine AW.skip ?_
           (refine hK _ ?_; clear hK K; (skip))
           (refine AW.seq_k ?_; intro K hK)
           refine AW.region ?_
           refine awP (op_assign rfl rfl) ?_
           refine AWL.nil ?_
           (refine hK _ ?_; clear hK K; (simp only [nA, Nat.reduceBEq, Nat.reduceEqDiff, ↓reduceIte, Nat.reduceAdd, Nat.reduceSub]))
           skip
           refine AW.ret ?_; rw [show scanE h k p n t = loadErr h p n by unfold scanE; rw [if_neg g1, if_neg g2, if_neg g3, if_neg g4, if_neg g5, if_pos g6]]; rw [load_0 (by simpa using hc7) (by simpa using hc8) hc9]; exact RQ.of0 rfl (.tmp (Nat.le_of_ble_eq_true rfl) rfl rfl .nil)
end Go.Proofs.Ytdnofpggdddimaa
namespace Go.Proofs.Ytdnofpggdddimaa
open Go.RowKit
set_option linter.unusedSimpArgs false
set_option linter.unusedVariables false
set_option maxRecDepth 100000
theorem C58 {e : Int} : Fn Try.prog 58 [] [.v (.int .i64 e)] [.agg zeroH.av, .agg zeroO.av, .v (.int .i64 e)] [] := by
  refine Spec.body Try.func58 rfl Try.ntmps58 (by simp) rfl ?_; intro S0 own0 v0 w0
  (refine AW.seq_k ?_; intro K hK)
  refine AW.region ?_
  refine awJ (op_alloc rfl ze26 rfl) ?_; (simp only [nA, Nat.reduceBEq, Nat.reduceEqDiff, ↓reduceIte, Nat.reduceAdd, Nat.reduceSub])
  refine awJ (op_alloc rfl ze33 rfl) ?_; (simp only [nA, Nat.reduceBEq, Nat.reduceEqDiff, ↓reduceIte, Nat.reduceAdd, Nat.reduceSub])
  refine awP (op_assign rfl rfl) ?_
  refine AWL.nil ?_
  (refine hK _ ?_; clear hK K; (simp only [nA, Nat.reduceBEq, Nat.reduceEqDiff, ↓reduceIte, Nat.reduceAdd, Nat.reduceSub]))
  (refine AW.seq_k ?_; intro K hK)
  refine AW.region ?_
  refine awP (op_build2 (xs := [.v (.int .i64 0), .v (.int .i64 0), .v (.int .i64 0), .v (.bool false), .v (.slice none 0 0), .v (.slice none 0 0), .v (.slice none 0 0)]) rfl pl26 ze26 [] rfl rfl rfl) ?_
  refine awP (op_build2 (xs := [.v (.int .i64 0), .v (.int .i64 0), .v (.int .i64 0), .v (.int .i64 0), .v (.int .i64 0), .v (.int .i64 0), .v (.int .i64 0), .v (.int .i64 0), .v (.int .i64 0), .v (.int .i64 0)]) rfl pl33 ze33 [] rfl rfl rfl) ?_
  refine awP (op_move rfl rfl) ?_
  refine awJ (op_store rfl rfl rfl rfl rfl rfl sz26 rfl (Nat.le_of_ble_eq_true rfl) rfl) ?_; (simp only [nA, Nat.reduceBEq, Nat.reduceEqDiff, ↓reduceIte, Nat.reduceAdd, Nat.reduceSub])
  refine awJ (op_store rfl rfl rfl rfl rfl rfl sz33 rfl (Nat.le_of_ble_eq_true rfl) rfl) ?_; (simp only [nA, Nat.reduceBEq, Nat.reduceEqDiff, ↓reduceIte, Nat.reduceAdd, Nat.reduceSub])
  refine awP (op_assign rfl rfl) ?_
  refine AWL.nil ?_
  (refine hK _ ?_; clear hK K; (simp only [nA, Nat.reduceBEq, Nat.reduceEqDiff, ↓reduceIte, Nat.reduceAdd, Nat.reduceSub]))
  refine AW.gh (Gh.cell0 (r := 0) (A := none) (c := 0) (row := [.v (.int .i64 0), .v (.int .i64 0), .v (.int .i64 0), .v (.bool false), .v (.slice none 0 0), .v (.slice none 0 0), .v (.slice none 0 0)]) 0 4 rfl rfl rfl (by decide) rfl) ?_; refine AW.gh (Gh.cell0 (r := 0) (A := none) (c := 0) (row := [.v (.int .i64 0), .v (.int .i64 0), .v (.int .i64 0), .v (.bool false), .ro [], .v (.slice none 0 0), .v (.slice none 0 0)]) 0 5 rfl rfl rfl (by decide) rfl) ?_; refine AW.gh (Gh.cell0 (r := 0) (A := none) (c := 0) (row := [.v (.int .i64 0), .v (.int .i64 0), .v (.int .i64 0), .v (.bool false), .ro [], .ro [], .v (.slice none 0 0)]) 0 6 rfl rfl rfl (by decide) rfl) ?_; (simp only [nA, Nat.reduceBEq, Nat.reduceEqDiff, ↓reduceIte, Nat.reduceAdd, Nat.reduceSub])
  refine AW.ret ?_; exact RQ.of0 rfl (.cell (Nat.le_of_ble_eq_true rfl) rfl rfl rfl ag26 sz26 (Nat.le_of_ble_eq_true rfl) rfl rfl (.cell (Nat.le_of_ble_eq_true rfl) rfl rfl rfl ag33 sz33 (Nat.le_of_ble_eq_true rfl) rfl rfl (.tmp (Nat.le_of_ble_eq_true rfl) rfl rfl .nil)))
def newOp (h : Hand) (k : Int) (p : Piece) (n t : Int) : Op := ⟨t, h.number, h.next, k, n, p⟩
def scanH (h : Hand) (k : Int) (p : Piece) (n t : Int) : Hand := ⟨h.number, h.next + 1, t, h.offline, h.grants, h.conts.map bareC, if h.offline then h.log ++ [newOp h k p n t] else h.log⟩
def scanR (h : Hand) (k : Int) (p : Piece) (n t : Int) : Hand × Op × Int := if scanE h k p n t = 0 then (scanH h k p n t, newOp h k p n t, 0) else (zeroH, zeroO, scanE h k p n t)
theorem scan_err {h : Hand} {k : Int} {p : Piece} {n t e : Int} (he : scanE h k p n t = e) (h0 : e ≠ 0) : scanR h k p n t = (zeroH, zeroO, e) := by
  unfold scanR
  rw [if_neg (by rw [he]; exact h0), he]
theorem scan_on {h : Hand} {k : Int} {p : Piece} {n t : Int} (he : scanE h k p n t = 0) (ho : h.offline = true) : scanR h k p n t = (⟨h.number, h.next + 1, t, h.offline, h.grants, h.conts.map bareC, h.log ++ [newOp h k p n t]⟩, newOp h k p n t, 0) := by
  unfold scanR scanH
  rw [if_pos he, if_pos ho]
theorem scan_off {h : Hand} {k : Int} {p : Piece} {n t : Int} (he : scanE h k p n t = 0) (ho : h.offline = false) : scanR h k p n t = (⟨h.number, h.next + 1, t, h.offline, h.grants, h.conts.map bareC, h.log⟩, newOp h k p n t, 0) := by
  unfold scanR scanH
  rw [if_pos he, if_neg (by rw [ho]; decide)]
theorem scan_val {h : Hand} {k : Int} {p : Piece} {n t : Int} (he : scanE h k p n t = 0) : valH h = 0 := by
  by_cases hv : valH h = 0
  · exact hv
  · unfold scanE at he
    rw [if_pos hv] at he
    exact absurd he hv
theorem val_parts {h : Hand} (hv : valH h = 0) : numB h = true ∧ barB h = true ∧ grsB h.grants = true ∧ empB h.conts = true ∧ logB h = true := by
  unfold valH at hv
  by_cases hb : ((((numB h && barB h) && grsB h.grants) && empB h.conts) && logB h) = true
  · simp only [Bool.and_eq_true] at hb
    exact ⟨hb.1.1.1.1, hb.1.1.1.2, hb.1.1.2, hb.1.2, hb.2⟩
  · rw [if_neg hb] at hv; cases hv
theorem C26 {h : Hand} {k n t : Int} {p : Piece} (hs : h.Sm) : Fn Try.prog 26 [] [.agg h.av, .v (.int .i64 k), .agg p.av, .v (.int .i64 n), .v (.int .i64 t)] [.agg (scanR h k p n t).1.av, .agg (scanR h k p n t).2.1.av, .v (.int .i64 (scanR h k p n t).2.2)] [] := by
  refine Spec.body Try.func26 rfl Try.ntmps26 (by simp) rfl ?_; intro S0 own0 v0 w0
  (refine AW.seq_k ?_; intro K hK)
  refine AW.region ?_
  refine awJ (op_box rfl rfl rfl sz26 rfl) ?_; (simp only [nA, Nat.reduceBEq, Nat.reduceEqDiff, ↓reduceIte, Nat.reduceAdd, Nat.reduceSub])
  refine awJ (op_box rfl rfl rfl sz31 rfl) ?_; (simp only [nA, Nat.reduceBEq, Nat.reduceEqDiff, ↓reduceIte, Nat.reduceAdd, Nat.reduceSub])
  refine awJ (op_alloc rfl ze26 rfl) ?_; (simp only [nA, Nat.reduceBEq, Nat.reduceEqDiff, ↓reduceIte, Nat.reduceAdd, Nat.reduceSub])
  refine awJ (op_alloc rfl ze33 rfl) ?_; (simp only [nA, Nat.reduceBEq, Nat.reduceEqDiff, ↓reduceIte, Nat.reduceAdd, Nat.reduceSub])
  refine awP (op_assign rfl rfl) ?_
  refine AWL.nil ?_
  (refine hK _ ?_; clear hK K; (simp only [nA, Nat.reduceBEq, Nat.reduceEqDiff, ↓reduceIte, Nat.reduceAdd, Nat.reduceSub]))
  (refine AW.seq_k ?_; intro K hK)
  refine AW.region ?_
  refine awP (op_assign rfl rfl) ?_
  refine AWL.nil ?_
  (refine hK _ ?_; clear hK K; (simp only [nA, Nat.reduceBEq, Nat.reduceEqDiff, ↓reduceIte, Nat.reduceAdd, Nat.reduceSub]))
  (refine AW.seq_k ?_; intro K hK)
  (refine AW.seq_k ?_; intro K hK)
  refine AW.region ?_
  (refine awR (op_load_ptr rfl rfl rfl rfl ag26 sz26 (Nat.le_of_ble_eq_true rfl) rfl) ?_)
  refine awJ (OpQ.j (op_callQ (b := true) rfl en18 (C18 (h := h) hs) (RL.cons (by exact View.same rfl) (RL.nil)) rfl)) ?_; (simp only [nA, Nat.reduceBEq, Nat.reduceEqDiff, ↓reduceIte, Nat.reduceAdd, Nat.reduceSub])
  refine awP (op_assign rfl rfl) ?_
  refine AWL.nil ?_
  (refine hK _ ?_; clear hK K; (simp only [nA, Nat.reduceBEq, Nat.reduceEqDiff, ↓reduceIte, Nat.reduceAdd, Nat.reduceSub]))
  (refine AW.seq_k ?_; intro K hK)
  refine AW.region ?_
  refine awP (op_move rfl rfl) ?_
  (refine awP (op_neq rfl rfl rfl) ?_)
  refine AWL.nil ?_
  (refine hK _ ?_; clear hK K; (simp only [nA, Nat.reduceBEq, Nat.reduceEqDiff, ↓reduceIte, Nat.reduceAdd, Nat.reduceSub]))
  refine AW.cond rfl rfl rfl (fun hc => ?_) (fun hc => ?_)
  ·
   have hc1 := hc; have g1 : valH h ≠ 0 := (by simpa using hc1)
   (refine AW.seq_k ?_; intro K hK)
   refine AW.region ?_
   refine awP (op_move rfl rfl) ?_
   refine awP (op_move rfl rfl) ?_
   refine awJ (op_valS (b := false) rfl rfl en58 (C58) (RL.cons (by exact View.same rfl) (RL.nil)) rfl (fun h => by cases h) rfl rfl) ?_; (simp only [nA, Nat.reduceBEq, Nat.reduceEqDiff, ↓reduceIte, Nat.reduceAdd, Nat.reduceSub])
   refine awP (op_extract rfl rfl rfl) ?_
   refine awP (op_extract rfl rfl rfl) ?_
   refine awP (op_extract rfl rfl rfl) ?_
   refine awJ (op_store rfl rfl rfl rfl rfl rfl sz26 rfl (Nat.le_of_ble_eq_true rfl) rfl) ?_; (simp only [nA, Nat.reduceBEq, Nat.reduceEqDiff, ↓reduceIte, Nat.reduceAdd, Nat.reduceSub])
   refine awJ (op_store rfl rfl rfl rfl rfl rfl sz33 rfl (Nat.le_of_ble_eq_true rfl) rfl) ?_; (simp only [nA, Nat.reduceBEq, Nat.reduceEqDiff, ↓reduceIte, Nat.reduceAdd, Nat.reduceSub])
   refine awP (op_assign rfl rfl) ?_
   refine AWL.nil ?_
   (refine hK _ ?_; clear hK K; (simp only [nA, Nat.reduceBEq, Nat.reduceEqDiff, ↓reduceIte, Nat.reduceAdd, Nat.reduceSub]))
   skip
   refine AW.ret ?_; (simp only [thenE, inBlk, Nat.reduceEqDiff, ↓reduceIte]); rw [scan_err (e := valH h) (by unfold scanE; rw [if_pos g1]) g1]; exact RQ.of0 rfl (.cell (Nat.le_of_ble_eq_true rfl) rfl rfl rfl ag26 sz26 (Nat.le_of_ble_eq_true rfl) rfl rfl (.cell (Nat.le_of_ble_eq_true rfl) rfl rfl rfl ag33 sz33 (Nat.le_of_ble_eq_true rfl) rfl rfl (.tmp (Nat.le_of_ble_eq_true rfl) rfl rfl .nil)))
  ·
   have hc1 := hc; have g1 : ¬ (valH h ≠ 0) := (by simpa using hc1)
   refine AW.skip ?_
   (refine hK _ ?_; clear hK K; (skip))
   (refine AW.seq_k ?_; intro K hK)
   (refine AW.seq_k ?_; intro K hK)
   refine AW.region (AWL.quiet ?_)
   refine aqP (op_move rfl rfl) ?_
   (refine aqP (op_neq rfl rfl rfl) ?_)
   refine aqP (op_move rfl rfl) ?_
   refine' aqAnd' [_, _] [32,33] rfl rfl rfl rfl rfl rfl rfl rfl rfl rfl rfl rfl (fun hb => ?_) ?_; rotate_left
   ·
    (try simp only [hcS] at hb)
    refine aqP (op_move rfl rfl) ?_
    (refine aqP (op_neq rfl rfl rfl) ?_)
    (refine aqSeg rfl rfl rfl ?_; repeat (first | exact fun _ _ => rfl | refine upd_out rfl ?_))
   (simp only [nA, Nat.reduceBEq, Nat.reduceEqDiff, ↓reduceIte, Nat.reduceAdd, Nat.reduceSub])
   refine AQ.nil ?_
   (refine hK _ ?_; clear hK K; (skip))
   refine AW.cond rfl rfl rfl (fun hc => ?_) (fun hc => ?_)
   ·
    have hc2 := hc; skip
    (refine AW.seq_k ?_; intro K hK)
    refine AW.region ?_
    refine awP (op_move rfl rfl) ?_
    refine awJ (op_valS (b := false) rfl rfl en58 (C58) (RL.cons (by exact View.same rfl) (RL.nil)) rfl (fun h => by cases h) rfl rfl) ?_; (simp only [nA, Nat.reduceBEq, Nat.reduceEqDiff, ↓reduceIte, Nat.reduceAdd, Nat.reduceSub])
    refine awP (op_extract rfl rfl rfl) ?_
    refine awP (op_extract rfl rfl rfl) ?_
    refine awP (op_extract rfl rfl rfl) ?_
    refine awJ (op_store rfl rfl rfl rfl rfl rfl sz26 rfl (Nat.le_of_ble_eq_true rfl) rfl) ?_; (simp only [nA, Nat.reduceBEq, Nat.reduceEqDiff, ↓reduceIte, Nat.reduceAdd, Nat.reduceSub])
    refine awJ (op_store rfl rfl rfl rfl rfl rfl sz33 rfl (Nat.le_of_ble_eq_true rfl) rfl) ?_; (simp only [nA, Nat.reduceBEq, Nat.reduceEqDiff, ↓reduceIte, Nat.reduceAdd, Nat.reduceSub])
    refine awP (op_assign rfl rfl) ?_
    refine AWL.nil ?_
    (refine hK _ ?_; clear hK K; (simp only [nA, Nat.reduceBEq, Nat.reduceEqDiff, ↓reduceIte, Nat.reduceAdd, Nat.reduceSub]))
    skip
    refine AW.ret ?_; (simp only [thenE, inBlk, Nat.reduceEqDiff, ↓reduceIte]); rw [scan_err (e := 4) (by unfold scanE; rw [if_neg g1, if_pos hc2]) (by decide)]; exact RQ.of0 rfl (.cell (Nat.le_of_ble_eq_true rfl) rfl rfl rfl ag26 sz26 (Nat.le_of_ble_eq_true rfl) rfl rfl (.cell (Nat.le_of_ble_eq_true rfl) rfl rfl rfl ag33 sz33 (Nat.le_of_ble_eq_true rfl) rfl rfl (.tmp (Nat.le_of_ble_eq_true rfl) rfl rfl .nil)))
   ·
    have hc2 := hc; have g2 : ¬ ((!decide (k = 1) && !decide (k = 2)) = true) := (by rw [show (!decide (k = 1) && !decide (k = 2)) = false from hc2]; decide)
    refine AW.skip ?_
    (refine hK _ ?_; clear hK K; (skip))
    (refine AW.seq_k ?_; intro K hK)
    (refine AW.seq_k ?_; intro K hK)
    refine AW.region (AWL.quiet ?_)
    (refine aqR (op_load_ptr rfl rfl rfl rfl ag31 sz31 (Nat.le_of_ble_eq_true rfl) rfl) ?_)
    refine aqQ (op_callQ (b := true) rfl en54 (C54 (p := p)) (RL.cons (by exact View.same rfl) (RL.nil)) rfl) ?_; (simp only [nA, Nat.reduceBEq, Nat.reduceEqDiff, ↓reduceIte, Nat.reduceAdd, Nat.reduceSub])
    refine aqP (op_not rfl rfl rfl) ?_
    refine aqP (op_move rfl rfl) ?_
    refine' aqOr' [_, _, _] [44,45,46] rfl rfl rfl rfl rfl rfl rfl rfl rfl rfl rfl rfl (fun hb => ?_) ?_; rotate_left
    ·
     (try simp only [hcS] at hb)
     refine aqP (op_move rfl rfl) ?_
     refine aqQ (op_callQ (b := true) rfl en43 (C43) (RL.cons (by exact View.same rfl) (RL.cons (by exact View.same rfl) (RL.cons (by exact View.same rfl) (RL.nil)))) rfl) ?_; (simp only [nA, Nat.reduceBEq, Nat.reduceEqDiff, ↓reduceIte, Nat.reduceAdd, Nat.reduceSub])
     refine aqP (op_not rfl rfl rfl) ?_
     (refine aqSeg rfl rfl rfl ?_; repeat (first | exact fun _ _ => rfl | refine upd_out rfl ?_))
    (simp only [nA, Nat.reduceBEq, Nat.reduceEqDiff, ↓reduceIte, Nat.reduceAdd, Nat.reduceSub])
    refine aqP (op_move rfl rfl) ?_
    refine' aqOr' [_, _, _] [49,50,51] rfl rfl rfl rfl rfl rfl rfl rfl rfl rfl rfl rfl (fun hb => ?_) ?_; rotate_left
    ·
     (try simp only [hcS] at hb)
     refine aqP (op_move rfl rfl) ?_
     refine aqQ (op_callQ (b := true) rfl en43 (C43) (RL.cons (by exact View.same rfl) (RL.cons (by exact View.same rfl) (RL.cons (by exact View.same rfl) (RL.nil)))) rfl) ?_; (simp only [nA, Nat.reduceBEq, Nat.reduceEqDiff, ↓reduceIte, Nat.reduceAdd, Nat.reduceSub])
     refine aqP (op_not rfl rfl rfl) ?_
     (refine aqSeg rfl rfl rfl ?_; repeat (first | exact fun _ _ => rfl | refine upd_out rfl ?_))
    (simp only [nA, Nat.reduceBEq, Nat.reduceEqDiff, ↓reduceIte, Nat.reduceAdd, Nat.reduceSub])
    refine AQ.nil ?_
    (refine hK _ ?_; clear hK K; (skip))
    refine AW.cond rfl rfl rfl (fun hc => ?_) (fun hc => ?_)
    ·
     have hc3 := hc; skip
     (refine AW.seq_k ?_; intro K hK)
     refine AW.region ?_
     refine awP (op_move rfl rfl) ?_
     refine awJ (op_valS (b := false) rfl rfl en58 (C58) (RL.cons (by exact View.same rfl) (RL.nil)) rfl (fun h => by cases h) rfl rfl) ?_; (simp only [nA, Nat.reduceBEq, Nat.reduceEqDiff, ↓reduceIte, Nat.reduceAdd, Nat.reduceSub])
     refine awP (op_extract rfl rfl rfl) ?_
     refine awP (op_extract rfl rfl rfl) ?_
     refine awP (op_extract rfl rfl rfl) ?_
     refine awJ (op_store rfl rfl rfl rfl rfl rfl sz26 rfl (Nat.le_of_ble_eq_true rfl) rfl) ?_; (simp only [nA, Nat.reduceBEq, Nat.reduceEqDiff, ↓reduceIte, Nat.reduceAdd, Nat.reduceSub])
     refine awJ (op_store rfl rfl rfl rfl rfl rfl sz33 rfl (Nat.le_of_ble_eq_true rfl) rfl) ?_; (simp only [nA, Nat.reduceBEq, Nat.reduceEqDiff, ↓reduceIte, Nat.reduceAdd, Nat.reduceSub])
     refine awP (op_assign rfl rfl) ?_
     refine AWL.nil ?_
     (refine hK _ ?_; clear hK K; (simp only [nA, Nat.reduceBEq, Nat.reduceEqDiff, ↓reduceIte, Nat.reduceAdd, Nat.reduceSub]))
     skip
     refine AW.ret ?_; (simp only [thenE, inBlk, Nat.reduceEqDiff, ↓reduceIte]); rw [scan_err (e := 1) (by unfold scanE; rw [if_neg g1, if_neg g2, if_pos hc3]) (by decide)]; exact RQ.of0 rfl (.cell (Nat.le_of_ble_eq_true rfl) rfl rfl rfl ag26 sz26 (Nat.le_of_ble_eq_true rfl) rfl rfl (.cell (Nat.le_of_ble_eq_true rfl) rfl rfl rfl ag33 sz33 (Nat.le_of_ble_eq_true rfl) rfl rfl (.tmp (Nat.le_of_ble_eq_true rfl) rfl rfl .nil)))
    ·
     have hc3 := hc; have g3 : ¬ (((!piB p || !inB n 1 999) || !inB t 0 1048576) = true) := (by rw [show ((!piB p || !inB n 1 999) || !inB t 0 1048576) = false from hc3]; decide)
     refine AW.skip ?_
     (refine hK _ ?_; clear hK K; (skip))
     (refine AW.seq_k ?_; intro K hK)
     (refine AW.seq_k ?_; intro K hK)
     refine AW.region ?_
     refine awP (op_move rfl rfl) ?_
     (refine awP (op_fa_ptr rfl rfl rfl fl26_2 (by exact sz3) (by decide) rfl) ?_)
     (refine awR (op_load_ptr1 rfl rfl rfl rfl ag3 rfl rfl) ?_)
     refine awP (op_lss rfl rfl rfl) ?_
     refine AWL.nil ?_
     (refine hK _ ?_; clear hK K; (simp only [nA, Nat.reduceBEq, Nat.reduceEqDiff, ↓reduceIte, Nat.reduceAdd, Nat.reduceSub]))
     refine AW.cond rfl rfl rfl (fun hc => ?_) (fun hc => ?_)
     ·
      have hc4 := hc; have g4 : t < h.last := (by simpa using hc4)
      (refine AW.seq_k ?_; intro K hK)
      refine AW.region ?_
      refine awP (op_move rfl rfl) ?_
      refine awJ (op_valS (b := false) rfl rfl en58 (C58) (RL.cons (by exact View.same rfl) (RL.nil)) rfl (fun h => by cases h) rfl rfl) ?_; (simp only [nA, Nat.reduceBEq, Nat.reduceEqDiff, ↓reduceIte, Nat.reduceAdd, Nat.reduceSub])
      refine awP (op_extract rfl rfl rfl) ?_
      refine awP (op_extract rfl rfl rfl) ?_
      refine awP (op_extract rfl rfl rfl) ?_
      refine awJ (op_store rfl rfl rfl rfl rfl rfl sz26 rfl (Nat.le_of_ble_eq_true rfl) rfl) ?_; (simp only [nA, Nat.reduceBEq, Nat.reduceEqDiff, ↓reduceIte, Nat.reduceAdd, Nat.reduceSub])
      refine awJ (op_store rfl rfl rfl rfl rfl rfl sz33 rfl (Nat.le_of_ble_eq_true rfl) rfl) ?_; (simp only [nA, Nat.reduceBEq, Nat.reduceEqDiff, ↓reduceIte, Nat.reduceAdd, Nat.reduceSub])
      refine awP (op_assign rfl rfl) ?_
      refine AWL.nil ?_
      (refine hK _ ?_; clear hK K; (simp only [nA, Nat.reduceBEq, Nat.reduceEqDiff, ↓reduceIte, Nat.reduceAdd, Nat.reduceSub]))
      skip
      refine AW.ret ?_; (simp only [thenE, inBlk, Nat.reduceEqDiff, ↓reduceIte]); rw [scan_err (e := 9) (by unfold scanE; rw [if_neg g1, if_neg g2, if_neg g3, if_pos g4]) (by decide)]; exact RQ.of0 rfl (.cell (Nat.le_of_ble_eq_true rfl) rfl rfl rfl ag26 sz26 (Nat.le_of_ble_eq_true rfl) rfl rfl (.cell (Nat.le_of_ble_eq_true rfl) rfl rfl rfl ag33 sz33 (Nat.le_of_ble_eq_true rfl) rfl rfl (.tmp (Nat.le_of_ble_eq_true rfl) rfl rfl .nil)))
     ·
      have hc4 := hc; have g4 : ¬ (t < h.last) := (by simpa using hc4)
      refine AW.skip ?_
      (refine hK _ ?_; clear hK K; (skip))
      (refine AW.seq_k ?_; intro K hK)
      (refine AW.seq_k ?_; intro K hK)
      refine AW.region (AWL.quiet ?_)
      (refine aqP (op_fa_ptr rfl rfl rfl fl26_1 (by exact sz3) (by decide) rfl) ?_)
      (refine aqR (op_load_ptr1 rfl rfl rfl rfl ag3 rfl rfl) ?_)
      (refine aqP (op_eql rfl rfl rfl) ?_)
      refine aqP (op_move rfl rfl) ?_
      refine' aqOrN' [_, _, _, _, _, _, _, _] [71,72,73,74,75,76,77,78] rfl rfl rfl rfl rfl rfl rfl rfl rfl rfl rfl rfl (fun hb => ?_) ?_; rotate_left
      ·
       (try simp only [hcS] at hb)
       (refine aqP (op_fa_ptr rfl rfl rfl fl26_3 (by exact sz4) (by decide) rfl) ?_)
       (refine aqR (op_load_ptr1 rfl rfl rfl rfl ag4 rfl rfl) ?_)
       refine aqP (op_move rfl rfl) ?_
       refine' aqAnd' [_, _, _, _] [74,75,76,77] rfl rfl rfl rfl rfl rfl rfl rfl rfl rfl rfl rfl (fun hb => ?_) ?_; rotate_left
       ·
        (try simp only [hcS] at hb)
        (refine aqP (op_fa_ptr rfl rfl rfl fl26_6 (by exact sz24) (by decide) rfl) ?_)
        (refine aqR (op_load_ptr1 rfl rfl rfl rfl ag24 rfl rfl) ?_)
        refine aqP (op_len_ro (n := h.log.length) rfl rfl Try.underlying24 (.inr (.inl ⟨_, rfl, by simp⟩))) ?_
        (refine aqP (op_eql rfl rfl rfl) ?_)
        (refine aqSeg rfl rfl rfl ?_; repeat (first | exact fun _ _ => rfl | refine upd_out rfl ?_))
       (simp only [nA, Nat.reduceBEq, Nat.reduceEqDiff, ↓reduceIte, Nat.reduceAdd, Nat.reduceSub])
       (refine aqSeg rfl rfl rfl ?_; repeat (first | exact fun _ _ => rfl | refine upd_out rfl ?_ | refine era_out rfl ?_))
      (simp only [nA, Nat.reduceBEq, Nat.reduceEqDiff, ↓reduceIte, Nat.reduceAdd, Nat.reduceSub])
      refine AQ.nil ?_
      (refine hK _ ?_; clear hK K; (skip))
      refine AW.cond rfl rfl rfl (fun hc => ?_) (fun hc => ?_)
      ·
       have hc5 := hc; skip
       (refine AW.seq_k ?_; intro K hK)
       refine AW.region ?_
       refine awP (op_move rfl rfl) ?_
       refine awJ (op_valS (b := false) rfl rfl en58 (C58) (RL.cons (by exact View.same rfl) (RL.nil)) rfl (fun h => by cases h) rfl rfl) ?_; (simp only [nA, Nat.reduceBEq, Nat.reduceEqDiff, ↓reduceIte, Nat.reduceAdd, Nat.reduceSub])
       refine awP (op_extract rfl rfl rfl) ?_
       refine awP (op_extract rfl rfl rfl) ?_
       refine awP (op_extract rfl rfl rfl) ?_
       refine awJ (op_store rfl rfl rfl rfl rfl rfl sz26 rfl (Nat.le_of_ble_eq_true rfl) rfl) ?_; (simp only [nA, Nat.reduceBEq, Nat.reduceEqDiff, ↓reduceIte, Nat.reduceAdd, Nat.reduceSub])
       refine awJ (op_store rfl rfl rfl rfl rfl rfl sz33 rfl (Nat.le_of_ble_eq_true rfl) rfl) ?_; (simp only [nA, Nat.reduceBEq, Nat.reduceEqDiff, ↓reduceIte, Nat.reduceAdd, Nat.reduceSub])
       refine awP (op_assign rfl rfl) ?_
       refine AWL.nil ?_
       (refine hK _ ?_; clear hK K; (simp only [nA, Nat.reduceBEq, Nat.reduceEqDiff, ↓reduceIte, Nat.reduceAdd, Nat.reduceSub]))
       skip
       refine AW.ret ?_; (simp only [thenE, inBlk, Nat.reduceEqDiff, ↓reduceIte]); rw [scan_err (e := 2) (by unfold scanE; rw [if_neg g1, if_neg g2, if_neg g3, if_neg g4, if_pos hc5]) (by decide)]; exact RQ.of0 rfl (.cell (Nat.le_of_ble_eq_true rfl) rfl rfl rfl ag26 sz26 (Nat.le_of_ble_eq_true rfl) rfl rfl (.cell (Nat.le_of_ble_eq_true rfl) rfl rfl rfl ag33 sz33 (Nat.le_of_ble_eq_true rfl) rfl rfl (.tmp (Nat.le_of_ble_eq_true rfl) rfl rfl .nil)))
      ·
       have hc5 := hc; have g5 : ¬ ((decide (h.next = 1048576) || (h.offline && decide ((h.log.length : Int) = 60))) = true) := (by rw [show (decide (h.next = 1048576) || (h.offline && decide ((h.log.length : Int) = 60))) = false from hc5]; decide)
       refine AW.skip ?_
       (refine hK _ ?_; clear hK K; (skip))
       refine AW.join (ι := Unit) (fun _ => [(1, .v (.int .i64 k)), (3, .v (.int .i64 n)), (4, .v (.int .i64 t)), (5, .ptr 0 1 0 0), (7, .ptr 1 2 0 0), (10, .ptr 2 3 0 0), (11, .ptr 3 4 0 0)]) (fun _ => ⟨[(1, .own 26 [h.av]), (2, .own 31 [p.av]), (3, .own 26 [[.v (.int .i64 0), .v (.int .i64 0), .v (.int .i64 0), .v (.bool false), .v (.slice none 0 0), .v (.slice none 0 0), .v (.slice none 0 0)]]), (4, .own 33 [zeroO.av])], 5⟩) (fun _ => scanE h k p n t = 0) ?_ ?_
       ·
        (refine AW.seq_k ?_; intro K hK)
        refine AW.region (AWL.quiet ?_)
        (refine aqP (op_fa_ptr rfl rfl rfl fl26_3 (by exact sz4) (by decide) rfl) ?_)
        (refine aqR (op_load_ptr1 rfl rfl rfl rfl ag4 rfl rfl) ?_)
        refine aqP (op_move rfl rfl) ?_
        refine' aqAnd' [_, _] [88,89] rfl rfl rfl rfl rfl rfl rfl rfl rfl rfl rfl rfl (fun hb => ?_) ?_; rotate_left
        ·
         (try simp only [hcS] at hb)
         refine aqP (op_move rfl rfl) ?_
         (refine aqP (op_eql rfl rfl rfl) ?_)
         (refine aqSeg rfl rfl rfl ?_; repeat (first | exact fun _ _ => rfl | refine upd_out rfl ?_))
        (simp only [nA, Nat.reduceBEq, Nat.reduceEqDiff, ↓reduceIte, Nat.reduceAdd, Nat.reduceSub])
        refine AQ.nil ?_
        (refine hK _ ?_; clear hK K; (simp only [nA, Nat.reduceBEq, Nat.reduceEqDiff, ↓reduceIte, Nat.reduceAdd, Nat.reduceSub]))
        refine AW.cond rfl rfl rfl (fun hc => ?_) (fun hc => ?_)
        ·
         have hc6 := hc; skip
         (refine AW.seq_k ?_; intro K hK)
         refine AW.region ?_
         (refine awR (op_load_ptr rfl rfl rfl rfl ag26 sz26 (Nat.le_of_ble_eq_true rfl) rfl) ?_)
         (refine awR (op_load_ptr rfl rfl rfl rfl ag31 sz31 (Nat.le_of_ble_eq_true rfl) rfl) ?_)
         refine awP (op_move rfl rfl) ?_
         refine awJ (OpQ.j (op_callQ (b := true) rfl en59 (C59 (h := h) (p := p) (n := n) hs) (RL.cons (by exact View.same rfl) (RL.cons (by exact View.same rfl) (RL.cons (by exact View.same rfl) (RL.nil)))) rfl)) ?_; (simp only [nA, Nat.reduceBEq, Nat.reduceEqDiff, ↓reduceIte, Nat.reduceAdd, Nat.reduceSub])
         refine awP (op_assign rfl rfl) ?_
         refine AWL.nil ?_
         (refine hK _ ?_; clear hK K; (simp only [nA, Nat.reduceBEq, Nat.reduceEqDiff, ↓reduceIte, Nat.reduceAdd, Nat.reduceSub]))
         (refine AW.seq_k ?_; intro K hK)
         refine AW.region ?_
         refine awP (op_move rfl rfl) ?_
         (refine awP (op_neq rfl rfl rfl) ?_)
         refine AWL.nil ?_
         (refine hK _ ?_; clear hK K; (simp only [nA, Nat.reduceBEq, Nat.reduceEqDiff, ↓reduceIte, Nat.reduceAdd, Nat.reduceSub]))
         refine AW.cond rfl rfl rfl (fun hc => ?_) (fun hc => ?_)
         ·
          have hc7 := hc; skip
          (refine AW.seq_k ?_; intro K hK)
          refine AW.region ?_
          refine awP (op_move rfl rfl) ?_
          refine awP (op_move rfl rfl) ?_
          refine awJ (op_valS (b := false) rfl rfl en58 (C58) (RL.cons (by exact View.same rfl) (RL.nil)) rfl (fun h => by cases h) rfl rfl) ?_; (simp only [nA, Nat.reduceBEq, Nat.reduceEqDiff, ↓reduceIte, Nat.reduceAdd, Nat.reduceSub])
          refine awP (op_extract rfl rfl rfl) ?_
          refine awP (op_extract rfl rfl rfl) ?_
          refine awP (op_extract rfl rfl rfl) ?_
          refine awJ (op_store rfl rfl rfl rfl rfl rfl sz26 rfl (Nat.le_of_ble_eq_true rfl) rfl) ?_; (simp only [nA, Nat.reduceBEq, Nat.reduceEqDiff, ↓reduceIte, Nat.reduceAdd, Nat.reduceSub])
          refine awJ (op_store rfl rfl rfl rfl rfl rfl sz33 rfl (Nat.le_of_ble_eq_true rfl) rfl) ?_; (simp only [nA, Nat.reduceBEq, Nat.reduceEqDiff, ↓reduceIte, Nat.reduceAdd, Nat.reduceSub])
          refine awP (op_assign rfl rfl) ?_
          refine AWL.nil ?_
          (refine hK _ ?_; clear hK K; (simp only [nA, Nat.reduceBEq, Nat.reduceEqDiff, ↓reduceIte, Nat.reduceAdd, Nat.reduceSub]))
          skip
          refine AW.ret ?_; (simp only [thenE, inBlk, Nat.reduceEqDiff, ↓reduceIte]); rw [scan_err (e := loadErr h p n) (by unfold scanE; rw [if_neg g1, if_neg g2, if_neg g3, if_neg g4, if_neg g5, if_pos hc6]) (by simpa using hc7)]; exact RQ.of0 rfl (.cell (Nat.le_of_ble_eq_true rfl) rfl rfl rfl ag26 sz26 (Nat.le_of_ble_eq_true rfl) rfl rfl (.cell (Nat.le_of_ble_eq_true rfl) rfl rfl rfl ag33 sz33 (Nat.le_of_ble_eq_true rfl) rfl rfl (.tmp (Nat.le_of_ble_eq_true rfl) rfl rfl .nil)))
         ·
          have hc7 := hc; skip
          refine AW.skip ?_
          refine ⟨(), (by unfold scanE; rw [if_neg g1, if_neg g2, if_neg g3, if_neg g4, if_neg g5, if_pos hc6]; simpa using hc7), ⟨rfl, rfl, rfl, rfl, rfl, rfl, rfl, trivial⟩, rfl, rfl⟩
        ·
         have hc6 := hc; have g6 : ¬ ((h.offline && decide (k = 1)) = true) := (by rw [show (h.offline && decide (k = 1)) = false from hc6]; decide)
         refine AW.skip ?_
         refine ⟨(), (by unfold scanE; rw [if_neg g1, if_neg g2, if_neg g3, if_neg g4, if_neg g5, if_neg g6]), ⟨rfl, rfl, rfl, rfl, rfl, rfl, rfl, trivial⟩, rfl, rfl⟩
       intro _ ρ hE; simp only [updL]; have hv := val_parts (scan_val hE); have hnx := num_next hv.1; have hll := hs.l; have hcn : (copyH h).next = h.next := rfl
       (refine AW.seq_k ?_; intro K hK)
       refine AW.region ?_
       refine awP (op_move rfl rfl) ?_
       (refine awP (op_fa_ptr rfl rfl rfl fl26_0 (by exact sz3) (by decide) rfl) ?_)
       (refine awR (op_load_ptr1 rfl rfl rfl rfl ag3 rfl rfl) ?_)
       (refine awP (op_fa_ptr rfl rfl rfl fl26_1 (by exact sz3) (by decide) rfl) ?_)
       (refine awR (op_load_ptr1 rfl rfl rfl rfl ag3 rfl rfl) ?_)
       refine awP (op_move rfl rfl) ?_
       refine awP (op_move rfl rfl) ?_
       (refine awR (op_load_ptr rfl rfl rfl rfl ag31 sz31 (Nat.le_of_ble_eq_true rfl) rfl) ?_)
       refine awP (op_build2 (xs := [_, _, _, _, _, _, _, _, _, _]) rfl pl33 ze33 [(0, [_]), (1, [_]), (2, [_]), (3, [_]), (4, [_]), (5, [_, _, _, _, _])] rfl rfl rfl) ?_
       refine awJ (op_alloc rfl ze33 rfl) ?_; (simp only [nA, Nat.reduceBEq, Nat.reduceEqDiff, ↓reduceIte, Nat.reduceAdd, Nat.reduceSub])
       refine awJ (op_store rfl rfl rfl rfl rfl rfl sz33 rfl (Nat.le_of_ble_eq_true rfl) rfl) ?_; (simp only [nA, Nat.reduceBEq, Nat.reduceEqDiff, ↓reduceIte, Nat.reduceAdd, Nat.reduceSub])
       refine AWL.nil ?_
       (refine hK _ ?_; clear hK K; (skip))
       (refine AW.seq_k ?_; intro K hK)
       refine AW.region ?_
       (refine awR (op_load_ptr rfl rfl rfl rfl ag26 sz26 (Nat.le_of_ble_eq_true rfl) rfl) ?_)
       refine awJ (op_call (b := false) rfl en60 (C60 (h := h) hs) (RL.cons (by exact View.same rfl) (RL.nil)) rfl (fun h => by cases h) rfl rfl) ?_; (simp only [nA, Nat.reduceBEq, Nat.reduceEqDiff, ↓reduceIte, Nat.reduceAdd, Nat.reduceSub])
       refine awJ (op_alloc rfl ze26 rfl) ?_; (simp only [nA, Nat.reduceBEq, Nat.reduceEqDiff, ↓reduceIte, Nat.reduceAdd, Nat.reduceSub])
       refine awJ (op_store rfl rfl rfl rfl rfl rfl sz26 rfl (Nat.le_of_ble_eq_true rfl) rfl) ?_; (simp only [nA, Nat.reduceBEq, Nat.reduceEqDiff, ↓reduceIte, Nat.reduceAdd, Nat.reduceSub])
       refine AWL.nil ?_
       (refine hK _ ?_; clear hK K; (skip))
       (refine AW.seq_k ?_; intro K hK)
       refine AW.region ?_
       (refine awP (op_fa_ptr rfl rfl rfl fl26_1 (by exact sz3) (by decide) rfl) ?_)
       (refine awR (op_load_ptr1 rfl rfl rfl rfl ag3 rfl rfl) ?_)
       (refine awP (op_addi rfl rfl rfl (by omega)) ?_)
       (refine awP (op_fa_ptr rfl rfl rfl fl26_1 (by exact sz3) (by decide) rfl) ?_)
       refine awJ (op_store rfl rfl rfl rfl rfl rfl sz3 rfl (Nat.le_of_ble_eq_true rfl) rfl) ?_; (simp only [nA, Nat.reduceBEq, Nat.reduceEqDiff, ↓reduceIte, Nat.reduceAdd, Nat.reduceSub])
       refine AWL.nil ?_
       (refine hK _ ?_; clear hK K; (skip))
       (refine AW.seq_k ?_; intro K hK)
       refine AW.region ?_
       refine awP (op_move rfl rfl) ?_
       (refine awP (op_fa_ptr rfl rfl rfl fl26_2 (by exact sz3) (by decide) rfl) ?_)
       refine awJ (op_store rfl rfl rfl rfl rfl rfl sz3 rfl (Nat.le_of_ble_eq_true rfl) rfl) ?_; (simp only [nA, Nat.reduceBEq, Nat.reduceEqDiff, ↓reduceIte, Nat.reduceAdd, Nat.reduceSub])
       refine AWL.nil ?_
       (refine hK _ ?_; clear hK K; (skip))
       (refine AW.seq_k ?_; intro K hK)
       (refine AW.seq_k ?_; intro K hK)
       refine AW.region ?_
       (refine awP (op_fa_ptr rfl rfl rfl fl26_3 (by exact sz4) (by decide) rfl) ?_)
       (refine awR (op_load_ptr1 rfl rfl rfl rfl ag4 rfl rfl) ?_)
       refine AWL.nil ?_
       (refine hK _ ?_; clear hK K; (simp only [nA, Nat.reduceBEq, Nat.reduceEqDiff, ↓reduceIte, Nat.reduceAdd, Nat.reduceSub]))
       refine AW.cond rfl rfl rfl (fun hc => ?_) (fun hc => ?_)
       ·
        have hc8 := hc; have ho : h.offline = true := hc8
        (refine AW.seq_k ?_; intro K hK)
        refine AW.region ?_
        (refine awP (op_fa_ptr rfl rfl rfl fl26_6 (by exact sz24) (by decide) rfl) ?_)
        (refine awR (op_load_ptr1 rfl rfl rfl rfl ag24 rfl rfl) ?_)
        refine awP (op_len_ro (n := h.log.length) rfl rfl Try.underlying24 (.inr (.inl ⟨_, rfl, by simp⟩))) ?_
        refine awP (op_assign rfl rfl) ?_
        refine AWL.nil ?_
        (refine hK _ ?_; clear hK K; (simp only [nA, Nat.reduceBEq, Nat.reduceEqDiff, ↓reduceIte, Nat.reduceAdd, Nat.reduceSub]))
        refine AW.adk 9 (FixL [(0, 1, .own 26 [h.av]), (4, 5, .own 33 [((newOp h k p n t)).av]), (5, 6, .own 26 [[.v (.int .i64 h.number), .v (.int .i64 (h.next + 1)), .v (.int .i64 t), .v (.bool h.offline), .ro (h.grants.map Grant.av), .ro ((h.conts.map bareC).map Container.av), .ro (h.log.map Op.av)]])]) mix rfl ?_
        (refine akP 0 rfl (fun T' ok => op_fa_ptr rfl rfl (by exact ok.1) fl26_6 (by exact sz24) (by decide) rfl) (by exact ⟨rfl, rfl, rfl, trivial⟩) (by kernel_rfl) (by kernel_rfl) (by kernel_rfl) ?_); (simp only [nA, Nat.reduceBEq, Nat.reduceEqDiff, ↓reduceIte, Nat.reduceAdd, Nat.reduceSub])
        (refine akR 1 rfl (fun T' ok => op_load_ptr1 rfl rfl (by exact ok.1) rfl ag24 rfl rfl) (by exact ⟨rfl, rfl, rfl, trivial⟩) (by kernel_rfl) (by kernel_rfl) (by kernel_rfl) ?_); (simp only [nA, Nat.reduceBEq, Nat.reduceEqDiff, ↓reduceIte, Nat.reduceAdd, Nat.reduceSub])
        refine akP 2 rfl (fun T' ok => op_move rfl rfl) (by exact ⟨rfl, rfl, rfl, trivial⟩) (by kernel_rfl) (by kernel_rfl) (by kernel_rfl) ?_; (simp only [nA, Nat.reduceBEq, Nat.reduceEqDiff, ↓reduceIte, Nat.reduceAdd, Nat.reduceSub])
        refine akP 3 rfl (fun T' ok => op_move rfl rfl) (by exact ⟨rfl, rfl, rfl, trivial⟩) (by kernel_rfl) (by kernel_rfl) (by kernel_rfl) ?_; (simp only [nA, Nat.reduceBEq, Nat.reduceEqDiff, ↓reduceIte, Nat.reduceAdd, Nat.reduceSub])
        refine akP 4 rfl (fun T' ok => op_slice_full h.log.length rfl (.inl rfl) rfl rfl (by simp) Try.underlying24 sz33 (opv_len _) (es' := h.log.map Op.av) (List.take_of_length_le (by simp))) (by exact ⟨rfl, rfl, rfl, trivial⟩) (by kernel_rfl) (by kernel_rfl) (by kernel_rfl) ?_; (simp only [nA, Nat.reduceBEq, Nat.reduceEqDiff, ↓reduceIte, Nat.reduceAdd, Nat.reduceSub])
        (refine akR 5 rfl (fun T' ok => op_load_ptr rfl rfl (by exact ok.2.1) rfl ag33 sz33 (Nat.le_of_ble_eq_true rfl) rfl) (by exact ⟨rfl, rfl, rfl, trivial⟩) (by kernel_rfl) (by kernel_rfl) (by kernel_rfl) ?_); (simp only [nA, Nat.reduceBEq, Nat.reduceEqDiff, ↓reduceIte, Nat.reduceAdd, Nat.reduceSub])
        refine akF 6 rfl (fun T' ok => OpJ.frz (op_buildSlice rfl [(0, ((newOp h k p n t)).av)] [((newOp h k p n t)).av] Try.underlying24 ze33 rfl (by simp) rfl (by simp) rfl (Nat.le_of_ble_eq_true rfl) (by simp [maxLen])) (opv_flat [(newOp h k p n t)]) rfl) (by exact ⟨rfl, rfl, rfl, trivial⟩) (by kernel_rfl) (by kernel_rfl) (by kernel_rfl) ?_; (simp only [nA, Nat.reduceBEq, Nat.reduceEqDiff, ↓reduceIte, Nat.reduceAdd, Nat.reduceSub])
        refine akF 7 rfl (fun T' ok => op_app_rof (sz := 10) (es := h.log.map Op.av) (rows := [((newOp h k p n t)).av]) rfl rfl rfl .ro Try.underlying24 ze33 (by decide) (opv_len _) (opv_len [(newOp h k p n t)]) (by simp; omega) (by decide) (es' := (h.log ++ [(newOp h k p n t)]).map Op.av) (by simp)) (by exact ⟨rfl, rfl, rfl, trivial⟩) (by kernel_rfl) (by kernel_rfl) (by kernel_rfl) ?_; (simp only [nA, Nat.reduceBEq, Nat.reduceEqDiff, ↓reduceIte, Nat.reduceAdd, Nat.reduceSub])
        (refine akP 8 rfl (fun T' ok => op_fa_ptr rfl rfl (by exact ok.2.2.1) fl26_6 (by exact sz24) (by decide) rfl) (by exact ⟨rfl, rfl, rfl, trivial⟩) (by kernel_rfl) (by kernel_rfl) (by kernel_rfl) ?_); (simp only [nA, Nat.reduceBEq, Nat.reduceEqDiff, ↓reduceIte, Nat.reduceAdd, Nat.reduceSub])
        refine akL 9 rfl (op_store rfl rfl rfl rfl rfl rfl sz24 rfl (Nat.le_of_ble_eq_true rfl) rfl) (by kernel_rfl) (by decide) ?_; (simp only [nA, Nat.reduceBEq, Nat.reduceEqDiff, ↓reduceIte, Nat.reduceAdd, Nat.reduceSub])
        refine akDone (by kernel_rfl) ?_
        (refine hK _ ?_; clear hK K; (skip))
        (refine AW.seq_k ?_; intro K hK)
        refine AW.ad [(4, 5, .own 33 [((newOp h k p n t)).av]), (5, 6, .own 26 [[.v (.int .i64 h.number), .v (.int .i64 (h.next + 1)), .v (.int .i64 t), .v (.bool h.offline), .ro (h.grants.map Grant.av), .ro ((h.conts.map bareC).map Container.av), .ro ((h.log ++ [(newOp h k p n t)]).map Op.av)]])] mix rfl ?_
        (refine adR 0 rfl (fun T' ok => op_load_ptr rfl rfl (by exact ok.2.1) rfl ag26 sz26 (Nat.le_of_ble_eq_true rfl) rfl) (by exact ⟨rfl, rfl, trivial⟩) (by kernel_rfl) (by kernel_rfl) ?_)
        (refine adR 1 rfl (fun T' ok => op_load_ptr rfl rfl (by exact ok.1) rfl ag33 sz33 (Nat.le_of_ble_eq_true rfl) rfl) (by exact ⟨rfl, rfl, trivial⟩) (by kernel_rfl) (by kernel_rfl) ?_)
        refine adJ 2 rfl (op_store rfl rfl rfl rfl rfl rfl sz26 rfl (Nat.le_of_ble_eq_true rfl) rfl) (by kernel_rfl) (by exact ⟨rfl, rfl, trivial⟩) ?_; (simp only [nA, Nat.reduceBEq, Nat.reduceEqDiff, ↓reduceIte, Nat.reduceAdd, Nat.reduceSub])
        refine adJ 3 rfl (op_store rfl rfl rfl rfl rfl rfl sz33 rfl (Nat.le_of_ble_eq_true rfl) rfl) (by kernel_rfl) (by exact ⟨rfl, rfl, trivial⟩) ?_; (simp only [nA, Nat.reduceBEq, Nat.reduceEqDiff, ↓reduceIte, Nat.reduceAdd, Nat.reduceSub])
        refine adP 4 rfl (fun T' ok => op_assign rfl rfl) (by exact ⟨rfl, rfl, trivial⟩) (by kernel_rfl) (by kernel_rfl) ?_
        refine adDone (by kernel_rfl) ?_
        (refine hK _ ?_; clear hK K; (simp only [nA, Nat.reduceBEq, Nat.reduceEqDiff, ↓reduceIte, Nat.reduceAdd, Nat.reduceSub]))
        skip
        refine AW.ret ?_; rw [scan_on hE ho]; exact RQ.of0 rfl (.cell (Nat.le_of_ble_eq_true rfl) rfl rfl rfl ag26 sz26 (Nat.le_of_ble_eq_true rfl) rfl rfl (.cell (Nat.le_of_ble_eq_true rfl) rfl rfl rfl ag33 sz33 (Nat.le_of_ble_eq_true rfl) rfl rfl (.tmp (Nat.le_of_ble_eq_true rfl) rfl rfl .nil)))
       ·
        have hc8 := hc; have ho : h.offline = false := hc8
        refine AW.skip ?_
        (refine hK _ ?_; clear hK K; (skip))
        (refine AW.seq_k ?_; intro K hK)
        refine AW.ad [(4, 5, .own 33 [((newOp h k p n t)).av]), (5, 6, .own 26 [[.v (.int .i64 h.number), .v (.int .i64 (h.next + 1)), .v (.int .i64 t), .v (.bool h.offline), .ro (h.grants.map Grant.av), .ro ((h.conts.map bareC).map Container.av), .ro (h.log.map Op.av)]])] mix rfl ?_
        (refine adR 0 rfl (fun T' ok => op_load_ptr rfl rfl (by exact ok.2.1) rfl ag26 sz26 (Nat.le_of_ble_eq_true rfl) rfl) (by exact ⟨rfl, rfl, trivial⟩) (by kernel_rfl) (by kernel_rfl) ?_)
        (refine adR 1 rfl (fun T' ok => op_load_ptr rfl rfl (by exact ok.1) rfl ag33 sz33 (Nat.le_of_ble_eq_true rfl) rfl) (by exact ⟨rfl, rfl, trivial⟩) (by kernel_rfl) (by kernel_rfl) ?_)
        refine adJ 2 rfl (op_store rfl rfl rfl rfl rfl rfl sz26 rfl (Nat.le_of_ble_eq_true rfl) rfl) (by kernel_rfl) (by exact ⟨rfl, rfl, trivial⟩) ?_; (simp only [nA, Nat.reduceBEq, Nat.reduceEqDiff, ↓reduceIte, Nat.reduceAdd, Nat.reduceSub])
        refine adJ 3 rfl (op_store rfl rfl rfl rfl rfl rfl sz33 rfl (Nat.le_of_ble_eq_true rfl) rfl) (by kernel_rfl) (by exact ⟨rfl, rfl, trivial⟩) ?_; (simp only [nA, Nat.reduceBEq, Nat.reduceEqDiff, ↓reduceIte, Nat.reduceAdd, Nat.reduceSub])
        refine adP 4 rfl (fun T' ok => op_assign rfl rfl) (by exact ⟨rfl, rfl, trivial⟩) (by kernel_rfl) (by kernel_rfl) ?_
        refine adDone (by kernel_rfl) ?_
        (refine hK _ ?_; clear hK K; (simp only [nA, Nat.reduceBEq, Nat.reduceEqDiff, ↓reduceIte, Nat.reduceAdd, Nat.reduceSub]))
        skip
        refine AW.ret ?_; rw [scan_off hE ho]; exact RQ.of0 rfl (.cell (Nat.le_of_ble_eq_true rfl) rfl rfl rfl ag26 sz26 (Nat.le_of_ble_eq_true rfl) rfl rfl (.cell (Nat.le_of_ble_eq_true rfl) rfl rfl rfl ag33 sz33 (Nat.le_of_ble_eq_true rfl) rfl rfl (.tmp (Nat.le_of_ble_eq_true rfl) rfl rfl .nil)))
end Go.Proofs.Ytdnofpggdddimaa
namespace Go.Proofs.Ytdnofpggdddimaa
open Go.RowKit
set_option linter.unusedSimpArgs false
set_option linter.unusedVariables false
set_option maxRecDepth 100000
theorem bare_id {l : List Container} (h : empB l = true) : l.map bareC = l := by
  unfold empB at h
  rw [Bool.and_eq_true, List.all_eq_true] at h
  conv => rhs; rw [← List.map_id l]
  refine List.map_congr_left fun c hc => ?_
  have := h.1 c hc
  obtain ⟨a1, a2, a3, a4, a5, a6, a7, a8⟩ := c
  have h8 : a8 = [] := List.eq_nil_of_length_eq_zero (by simpa using this)
  subst h8
  rfl
theorem C27 {h : Hand} {k n t : Int} {p : Piece} (hs : h.Sm) : Fn Try.prog 27 [] [.agg h.av, .v (.int .i64 k), .agg p.av, .v (.int .i64 n), .v (.int .i64 t)] [.agg (scanR h k p n t).1.av, .agg (scanR h k p n t).2.1.av, .v (.int .i64 (scanR h k p n t).2.2)] [] := by
  refine Spec.body Try.func27 rfl Try.ntmps27 (by simp) rfl ?_; intro S0 own0 v0 w0
  (refine AW.seq_k ?_; intro K hK)
  refine AW.region ?_
  refine awJ (op_box rfl rfl rfl sz26 rfl) ?_; (simp only [nA, Nat.reduceBEq, Nat.reduceEqDiff, ↓reduceIte, Nat.reduceAdd, Nat.reduceSub])
  refine awJ (op_box rfl rfl rfl sz31 rfl) ?_; (simp only [nA, Nat.reduceBEq, Nat.reduceEqDiff, ↓reduceIte, Nat.reduceAdd, Nat.reduceSub])
  refine awJ (op_alloc rfl ze26 rfl) ?_; (simp only [nA, Nat.reduceBEq, Nat.reduceEqDiff, ↓reduceIte, Nat.reduceAdd, Nat.reduceSub])
  refine awJ (op_alloc rfl ze33 rfl) ?_; (simp only [nA, Nat.reduceBEq, Nat.reduceEqDiff, ↓reduceIte, Nat.reduceAdd, Nat.reduceSub])
  refine awP (op_assign rfl rfl) ?_
  refine AWL.nil ?_
  (refine hK _ ?_; clear hK K; (simp only [nA, Nat.reduceBEq, Nat.reduceEqDiff, ↓reduceIte, Nat.reduceAdd, Nat.reduceSub]))
  (refine AW.seq_k ?_; intro K hK)
  refine AW.region ?_
  (refine awR (op_load_ptr rfl rfl rfl rfl ag26 sz26 (Nat.le_of_ble_eq_true rfl) rfl) ?_)
  refine awP (op_move rfl rfl) ?_
  (refine awR (op_load_ptr rfl rfl rfl rfl ag31 sz31 (Nat.le_of_ble_eq_true rfl) rfl) ?_)
  refine awP (op_move rfl rfl) ?_
  refine awP (op_move rfl rfl) ?_
  refine awJ (OpQ.j (op_callQ (b := true) rfl en61 (C61 (h := h) (k := k) (n := n) (t := t) (p := p) hs) (RL.cons (by exact View.same rfl) (RL.cons (by exact View.same rfl) (RL.cons (by exact View.same rfl) (RL.cons (by exact View.same rfl) (RL.cons (by exact View.same rfl) (RL.nil)))))) rfl)) ?_; (simp only [nA, Nat.reduceBEq, Nat.reduceEqDiff, ↓reduceIte, Nat.reduceAdd, Nat.reduceSub])
  refine awP (op_assign rfl rfl) ?_
  refine AWL.nil ?_
  (refine hK _ ?_; clear hK K; (simp only [nA, Nat.reduceBEq, Nat.reduceEqDiff, ↓reduceIte, Nat.reduceAdd, Nat.reduceSub]))
  (refine AW.seq_k ?_; intro K hK)
  (refine AW.seq_k ?_; intro K hK)
  refine AW.region ?_
  refine awP (op_move rfl rfl) ?_
  (refine awP (op_neq rfl rfl rfl) ?_)
  refine AWL.nil ?_
  (refine hK _ ?_; clear hK K; (simp only [nA, Nat.reduceBEq, Nat.reduceEqDiff, ↓reduceIte, Nat.reduceAdd, Nat.reduceSub]))
  refine AW.cond rfl rfl rfl (fun hc => ?_) (fun hc => ?_)
  ·
   have hc1 := hc; have hE : scanE h k p n t ≠ 0 := (by simpa using hc1)
   (refine AW.seq_k ?_; intro K hK)
   refine AW.region ?_
   refine awP (op_build2 (xs := [.v (.int .i64 0), .v (.int .i64 0), .v (.int .i64 0), .v (.bool false), .v (.slice none 0 0), .v (.slice none 0 0), .v (.slice none 0 0)]) rfl pl26 ze26 [] rfl rfl rfl) ?_
   refine awP (op_build2 (xs := [.v (.int .i64 0), .v (.int .i64 0), .v (.int .i64 0), .v (.int .i64 0), .v (.int .i64 0), .v (.int .i64 0), .v (.int .i64 0), .v (.int .i64 0), .v (.int .i64 0), .v (.int .i64 0)]) rfl pl33 ze33 [] rfl rfl rfl) ?_
   refine awP (op_move rfl rfl) ?_
   refine awJ (op_store rfl rfl rfl rfl rfl rfl sz26 rfl (Nat.le_of_ble_eq_true rfl) rfl) ?_; (simp only [nA, Nat.reduceBEq, Nat.reduceEqDiff, ↓reduceIte, Nat.reduceAdd, Nat.reduceSub])
   refine awJ (op_store rfl rfl rfl rfl rfl rfl sz33 rfl (Nat.le_of_ble_eq_true rfl) rfl) ?_; (simp only [nA, Nat.reduceBEq, Nat.reduceEqDiff, ↓reduceIte, Nat.reduceAdd, Nat.reduceSub])
   refine awP (op_assign rfl rfl) ?_
   refine AWL.nil ?_
   (refine hK _ ?_; clear hK K; (simp only [nA, Nat.reduceBEq, Nat.reduceEqDiff, ↓reduceIte, Nat.reduceAdd, Nat.reduceSub]))
   refine AW.gh (Gh.cell0 (r := 2) (A := none) (c := 0) (row := [.v (.int .i64 0), .v (.int .i64 0), .v (.int .i64 0), .v (.bool false), .v (.slice none 0 0), .v (.slice none 0 0), .v (.slice none 0 0)]) 0 4 rfl rfl rfl (by decide) rfl) ?_; refine AW.gh (Gh.cell0 (r := 2) (A := none) (c := 0) (row := [.v (.int .i64 0), .v (.int .i64 0), .v (.int .i64 0), .v (.bool false), .ro [], .v (.slice none 0 0), .v (.slice none 0 0)]) 0 5 rfl rfl rfl (by decide) rfl) ?_; refine AW.gh (Gh.cell0 (r := 2) (A := none) (c := 0) (row := [.v (.int .i64 0), .v (.int .i64 0), .v (.int .i64 0), .v (.bool false), .ro [], .ro [], .v (.slice none 0 0)]) 0 6 rfl rfl rfl (by decide) rfl) ?_; (simp only [nA, Nat.reduceBEq, Nat.reduceEqDiff, ↓reduceIte, Nat.reduceAdd, Nat.reduceSub])
   refine AW.ret ?_; (simp only [thenE, inBlk, Nat.reduceEqDiff, ↓reduceIte]); rw [scan_err (e := scanE h k p n t) rfl hE]; exact RQ.of0 rfl (.cell (Nat.le_of_ble_eq_true rfl) rfl rfl rfl ag26 sz26 (Nat.le_of_ble_eq_true rfl) rfl rfl (.cell (Nat.le_of_ble_eq_true rfl) rfl rfl rfl ag33 sz33 (Nat.le_of_ble_eq_true rfl) rfl rfl (.tmp (Nat.le_of_ble_eq_true rfl) rfl rfl .nil)))
  ·
   have hc1 := hc; have hE : scanE h k p n t = 0 := (by simpa using hc1); have hv := val_parts (scan_val hE); have hnx := num_next hv.1; have hll := hs.l; have hgl := hs.g; have hcl := hs.c
   refine AW.skip ?_
   (refine hK _ ?_; clear hK K; (skip))
   (refine AW.seq_k ?_; intro K hK)
   refine AW.region ?_
   refine awP (op_move rfl rfl) ?_
   (refine awP (op_fa_ptr rfl rfl rfl fl26_0 (by exact sz3) (by decide) rfl) ?_)
   (refine awR (op_load_ptr1 rfl rfl rfl rfl ag3 rfl rfl) ?_)
   (refine awP (op_fa_ptr rfl rfl rfl fl26_1 (by exact sz3) (by decide) rfl) ?_)
   (refine awR (op_load_ptr1 rfl rfl rfl rfl ag3 rfl rfl) ?_)
   refine awP (op_move rfl rfl) ?_
   refine awP (op_move rfl rfl) ?_
   (refine awR (op_load_ptr rfl rfl rfl rfl ag31 sz31 (Nat.le_of_ble_eq_true rfl) rfl) ?_)
   refine awP (op_build2 (xs := [_, _, _, _, _, _, _, _, _, _]) rfl pl33 ze33 [(0, [_]), (1, [_]), (2, [_]), (3, [_]), (4, [_]), (5, [_, _, _, _, _])] rfl rfl rfl) ?_
   refine awJ (op_alloc rfl ze33 rfl) ?_; (simp only [nA, Nat.reduceBEq, Nat.reduceEqDiff, ↓reduceIte, Nat.reduceAdd, Nat.reduceSub])
   refine awJ (op_store rfl rfl rfl rfl rfl rfl sz33 rfl (Nat.le_of_ble_eq_true rfl) rfl) ?_; (simp only [nA, Nat.reduceBEq, Nat.reduceEqDiff, ↓reduceIte, Nat.reduceAdd, Nat.reduceSub])
   refine AWL.nil ?_
   (refine hK _ ?_; clear hK K; (skip))
   (refine AW.seq_k ?_; intro K hK)
   refine AW.region ?_
   (refine awP (op_fa_ptr rfl rfl rfl fl26_1 (by exact sz3) (by decide) rfl) ?_)
   (refine awR (op_load_ptr1 rfl rfl rfl rfl ag3 rfl rfl) ?_)
   (refine awP (op_addi rfl rfl rfl (by omega)) ?_)
   refine awP (op_move rfl rfl) ?_
   (refine awP (op_fa_ptr rfl rfl rfl fl26_1 (by exact sz3) (by decide) rfl) ?_)
   refine awJ (op_store rfl rfl rfl rfl rfl rfl sz3 rfl (Nat.le_of_ble_eq_true rfl) rfl) ?_; (simp only [nA, Nat.reduceBEq, Nat.reduceEqDiff, ↓reduceIte, Nat.reduceAdd, Nat.reduceSub])
   (refine awP (op_fa_ptr rfl rfl rfl fl26_2 (by exact sz3) (by decide) rfl) ?_)
   refine awJ (op_store rfl rfl rfl rfl rfl rfl sz3 rfl (Nat.le_of_ble_eq_true rfl) rfl) ?_; (simp only [nA, Nat.reduceBEq, Nat.reduceEqDiff, ↓reduceIte, Nat.reduceAdd, Nat.reduceSub])
   refine AWL.nil ?_
   (refine hK _ ?_; clear hK K; (skip))
   (refine AW.seq_k ?_; intro K hK)
   refine AW.adk 9 (FixL [(0, 1, .own 26 [[.v (.int .i64 h.number), .v (.int .i64 (h.next + 1)), .v (.int .i64 t), .v (.bool h.offline), .ro (h.grants.map Grant.av), .ro (h.conts.map Container.av), .ro (h.log.map Op.av)]])]) mix rfl ?_
   (refine akP 1 rfl (fun T' ok => op_fa_ptr rfl rfl (by exact ok.1) fl26_4 (by exact sz22) (by decide) rfl) (by exact ⟨rfl, trivial⟩) (by kernel_rfl) (by kernel_rfl) (by kernel_rfl) ?_); (simp only [nA, Nat.reduceBEq, Nat.reduceEqDiff, ↓reduceIte, Nat.reduceAdd, Nat.reduceSub])
   (refine akR 2 rfl (fun T' ok => op_load_ptr1 rfl rfl (by exact ok.1) rfl ag22 rfl rfl) (by exact ⟨rfl, trivial⟩) (by kernel_rfl) (by kernel_rfl) (by kernel_rfl) ?_); (simp only [nA, Nat.reduceBEq, Nat.reduceEqDiff, ↓reduceIte, Nat.reduceAdd, Nat.reduceSub])
   (refine akP 5 rfl (fun T' ok => op_fa_ptr rfl rfl (by exact ok.1) fl26_5 (by exact sz23) (by decide) rfl) (by exact ⟨rfl, trivial⟩) (by kernel_rfl) (by kernel_rfl) (by kernel_rfl) ?_); (simp only [nA, Nat.reduceBEq, Nat.reduceEqDiff, ↓reduceIte, Nat.reduceAdd, Nat.reduceSub])
   (refine akR 6 rfl (fun T' ok => op_load_ptr1 rfl rfl (by exact ok.1) rfl ag23 rfl rfl) (by exact ⟨rfl, trivial⟩) (by kernel_rfl) (by kernel_rfl) (by kernel_rfl) ?_); (simp only [nA, Nat.reduceBEq, Nat.reduceEqDiff, ↓reduceIte, Nat.reduceAdd, Nat.reduceSub])
   -- READY [0, 4]
   refine akF 0 rfl (fun T' ok => op_lit0 rfl Try.underlying22 sz75) (by exact ⟨rfl, trivial⟩) (by kernel_rfl) (by kernel_rfl) (by kernel_rfl) ?_; (simp only [nA, Nat.reduceBEq, Nat.reduceEqDiff, ↓reduceIte, Nat.reduceAdd, Nat.reduceSub])
   -- READY [3, 4]
   refine akF 3 rfl (fun T' ok => op_app_rof (sz := 9) (es := []) (rows := h.grants.map Grant.av) rfl rfl rfl .ro Try.underlying22 ze75 (by decide) (by simp) (gav_len _) (by simp; omega) (by decide) (List.nil_append _)) (by exact ⟨rfl, trivial⟩) (by kernel_rfl) (by kernel_rfl) (by kernel_rfl) ?_; (simp only [nA, Nat.reduceBEq, Nat.reduceEqDiff, ↓reduceIte, Nat.reduceAdd, Nat.reduceSub])
   (refine akP 8 rfl (fun T' ok => op_fa_ptr rfl rfl (by exact ok.1) fl26_4 (by exact sz22) (by decide) rfl) (by exact ⟨rfl, trivial⟩) (by kernel_rfl) (by kernel_rfl) (by kernel_rfl) ?_); (simp only [nA, Nat.reduceBEq, Nat.reduceEqDiff, ↓reduceIte, Nat.reduceAdd, Nat.reduceSub])
   refine akF 4 rfl (fun T' ok => op_lit0 rfl Try.underlying23 sz77) (by exact ⟨rfl, trivial⟩) (by kernel_rfl) (by kernel_rfl) (by kernel_rfl) ?_; (simp only [nA, Nat.reduceBEq, Nat.reduceEqDiff, ↓reduceIte, Nat.reduceAdd, Nat.reduceSub])
   refine akF 7 rfl (fun T' ok => op_app_rof (sz := 11) (es := []) (rows := h.conts.map Container.av) rfl rfl rfl .ro Try.underlying23 ze77 (by decide) (by simp) (conv_len _) (by simp; omega) (by decide) (List.nil_append _)) (by exact ⟨rfl, trivial⟩) (by kernel_rfl) (by kernel_rfl) (by kernel_rfl) ?_; (simp only [nA, Nat.reduceBEq, Nat.reduceEqDiff, ↓reduceIte, Nat.reduceAdd, Nat.reduceSub])
   refine akL 9 rfl (op_store rfl rfl rfl rfl rfl rfl sz22 rfl (Nat.le_of_ble_eq_true rfl) rfl) (by kernel_rfl) (by decide) ?_; (simp only [nA, Nat.reduceBEq, Nat.reduceEqDiff, ↓reduceIte, Nat.reduceAdd, Nat.reduceSub])
   (refine akL 10 rfl (OpP.j (op_fa_ptr rfl rfl rfl fl26_5 (by exact sz23) (by decide) rfl)) (by kernel_rfl) (by decide) ?_); (simp only [nA, Nat.reduceBEq, Nat.reduceEqDiff, ↓reduceIte, Nat.reduceAdd, Nat.reduceSub])
   refine akL 11 rfl (op_store rfl rfl rfl rfl rfl rfl sz23 rfl (Nat.le_of_ble_eq_true rfl) rfl) (by kernel_rfl) (by decide) ?_; (simp only [nA, Nat.reduceBEq, Nat.reduceEqDiff, ↓reduceIte, Nat.reduceAdd, Nat.reduceSub])
   refine akDone (by kernel_rfl) ?_
   (refine hK _ ?_; clear hK K; (skip))
   (refine AW.seq_k ?_; intro K hK)
   (refine AW.seq_k ?_; intro K hK)
   refine AW.region ?_
   (refine awP (op_fa_ptr rfl rfl rfl fl26_3 (by exact sz4) (by decide) rfl) ?_)
   (refine awR (op_load_ptr1 rfl rfl rfl rfl ag4 rfl rfl) ?_)
   refine AWL.nil ?_
   (refine hK _ ?_; clear hK K; (simp only [nA, Nat.reduceBEq, Nat.reduceEqDiff, ↓reduceIte, Nat.reduceAdd, Nat.reduceSub]))
   refine AW.cond rfl rfl rfl (fun hc => ?_) (fun hc => ?_)
   ·
    have hc2 := hc; have ho : h.offline = true := hc2
    refine AW.adk 8 (FixL [(0, 1, .own 26 [[.v (.int .i64 h.number), .v (.int .i64 (h.next + 1)), .v (.int .i64 t), .v (.bool h.offline), .ro (h.grants.map Grant.av), .ro (h.conts.map Container.av), .ro (h.log.map Op.av)]]), (4, 5, .own 33 [((newOp h k p n t)).av])]) mix rfl ?_
    refine akP 1 rfl (fun T' ok => op_fa_ptr rfl rfl (by exact ok.1) fl26_6 (by exact sz24) (by decide) rfl) (by exact ⟨rfl, rfl, trivial⟩) (by kernel_rfl) (by kernel_rfl) (by kernel_rfl) ?_; (simp only [nA, Nat.reduceBEq, Nat.reduceEqDiff, ↓reduceIte, Nat.reduceAdd, Nat.reduceSub])
    refine akR 2 rfl (fun T' ok => op_load_ptr1 rfl rfl (by exact ok.1) rfl ag24 rfl rfl) (by exact ⟨rfl, rfl, trivial⟩) (by kernel_rfl) (by kernel_rfl) (by kernel_rfl) ?_; (simp only [nA, Nat.reduceBEq, Nat.reduceEqDiff, ↓reduceIte, Nat.reduceAdd, Nat.reduceSub])
    refine akR 4 rfl (fun T' ok => op_load_ptr rfl rfl (by exact ok.2.1) rfl ag33 sz33 (Nat.le_of_ble_eq_true rfl) rfl) (by exact ⟨rfl, rfl, trivial⟩) (by kernel_rfl) (by kernel_rfl) (by kernel_rfl) ?_; (simp only [nA, Nat.reduceBEq, Nat.reduceEqDiff, ↓reduceIte, Nat.reduceAdd, Nat.reduceSub])
    refine akF 5 rfl (fun T' ok => OpJ.frz (op_buildSlice rfl [(0, ((newOp h k p n t)).av)] [((newOp h k p n t)).av] Try.underlying24 ze33 rfl (by simp) rfl (by simp) rfl (Nat.le_of_ble_eq_true rfl) (by simp [maxLen])) (opv_flat [(newOp h k p n t)]) rfl) (by exact ⟨rfl, rfl, trivial⟩) (by kernel_rfl) (by kernel_rfl) (by kernel_rfl) ?_; (simp only [nA, Nat.reduceBEq, Nat.reduceEqDiff, ↓reduceIte, Nat.reduceAdd, Nat.reduceSub])
    refine akJ 0 rfl (op_buildSlice rfl [] [] Try.underlying24 ze33 rfl (by simp) rfl (by simp) rfl (Nat.le_of_ble_eq_true rfl) (by simp [maxLen])) (by kernel_rfl) (by exact ⟨rfl, rfl, trivial⟩) ?_; (simp only [nA, Nat.reduceBEq, Nat.reduceEqDiff, ↓reduceIte, Nat.reduceAdd, Nat.reduceSub])
    refine akJ 3 rfl (op_app (rows := h.log.map Op.av) rfl rfl rfl rfl rfl .ro Try.underlying24 ze33 (by decide) (opv_len _) (by simp; omega) (by decide) (List.nil_append _) (n := h.log.length) (by simp)) (by kernel_rfl) (by exact ⟨rfl, rfl, trivial⟩) ?_; (simp only [nA, Nat.reduceBEq, Nat.reduceEqDiff, ↓reduceIte, Nat.reduceAdd, Nat.reduceSub])
    refine akJ 6 rfl (op_app (rows := [((newOp h k p n t)).av]) rfl rfl rfl rfl (by simp) .ro Try.underlying24 ze33 (by decide) (opv_len [(newOp h k p n t)]) (by simp; omega) (by decide) (es' := (h.log ++ [(newOp h k p n t)]).map Op.av) (by simp) (n := h.log.length + 1) (by simp)) (by kernel_rfl) (by exact ⟨rfl, rfl, trivial⟩) ?_; (simp only [nA, Nat.reduceBEq, Nat.reduceEqDiff, ↓reduceIte, Nat.reduceAdd, Nat.reduceSub])
    refine akP 7 rfl (fun T' ok => op_fa_ptr rfl rfl (by exact ok.1) fl26_6 (by exact sz24) (by decide) rfl) (by exact ⟨rfl, rfl, trivial⟩) (by kernel_rfl) (by kernel_rfl) (by kernel_rfl) ?_; (simp only [nA, Nat.reduceBEq, Nat.reduceEqDiff, ↓reduceIte, Nat.reduceAdd, Nat.reduceSub])
    refine akL 8 rfl (op_store_nest (r := 0) (q := 5) rfl rfl rfl rfl (row := [.v (.int .i64 h.number), .v (.int .i64 (h.next + 1)), .v (.int .i64 t), .v (.bool h.offline), .ro (h.grants.map Grant.av), .ro (h.conts.map Container.av), .ro (h.log.map Op.av)]) rfl sz24 rfl (by decide) (by simp) (by simp) rfl) (by kernel_rfl) (by decide) ?_; (simp only [nA, Nat.reduceBEq, Nat.reduceEqDiff, ↓reduceIte, Nat.reduceAdd, Nat.reduceSub])
    refine akDone (by kernel_rfl) ?_
    (refine hK _ ?_; clear hK K; (skip))
    (refine AW.seq_k ?_; intro K hK)
    refine AW.gh (Gh.freezeC (r := 0) (row := [.v (.int .i64 h.number), .v (.int .i64 (h.next + 1)), .v (.int .i64 t), .v (.bool h.offline), .ro (h.grants.map Grant.av), .ro (h.conts.map Container.av), .own 33 ((h.log ++ [(newOp h k p n t)]).map Op.av)]) 0 6 rfl rfl rfl (opv_flat _) rfl) ?_; (simp only [nA, Nat.reduceBEq, Nat.reduceEqDiff, ↓reduceIte, Nat.reduceAdd, Nat.reduceSub]); refine AW.ad [(0, 1, .own 26 [[.v (.int .i64 h.number), .v (.int .i64 (h.next + 1)), .v (.int .i64 t), .v (.bool h.offline), .ro (h.grants.map Grant.av), .ro (h.conts.map Container.av), .ro ((h.log ++ [(newOp h k p n t)]).map Op.av)]]), (4, 5, .own 33 [((newOp h k p n t)).av])] mix rfl ?_
    (refine adR 0 rfl (fun T' ok => op_load_ptr rfl rfl (by exact ok.1) rfl ag26 sz26 (Nat.le_of_ble_eq_true rfl) rfl) (by exact ⟨rfl, rfl, trivial⟩) (by kernel_rfl) (by kernel_rfl) ?_)
    (refine adR 1 rfl (fun T' ok => op_load_ptr rfl rfl (by exact ok.2.1) rfl ag33 sz33 (Nat.le_of_ble_eq_true rfl) rfl) (by exact ⟨rfl, rfl, trivial⟩) (by kernel_rfl) (by kernel_rfl) ?_)
    refine adJ 2 rfl (op_store rfl rfl rfl rfl rfl rfl sz26 rfl (Nat.le_of_ble_eq_true rfl) rfl) (by kernel_rfl) (by exact ⟨rfl, rfl, trivial⟩) ?_; (simp only [nA, Nat.reduceBEq, Nat.reduceEqDiff, ↓reduceIte, Nat.reduceAdd, Nat.reduceSub])
    refine adJ 3 rfl (op_store rfl rfl rfl rfl rfl rfl sz33 rfl (Nat.le_of_ble_eq_true rfl) rfl) (by kernel_rfl) (by exact ⟨rfl, rfl, trivial⟩) ?_; (simp only [nA, Nat.reduceBEq, Nat.reduceEqDiff, ↓reduceIte, Nat.reduceAdd, Nat.reduceSub])
    refine adP 4 rfl (fun T' ok => op_assign rfl rfl) (by exact ⟨rfl, rfl, trivial⟩) (by kernel_rfl) (by kernel_rfl) ?_
    refine adDone (by kernel_rfl) ?_
    (refine hK _ ?_; clear hK K; (simp only [nA, Nat.reduceBEq, Nat.reduceEqDiff, ↓reduceIte, Nat.reduceAdd, Nat.reduceSub]))
    skip
    refine AW.ret ?_; rw [scan_on hE ho, bare_id hv.2.2.2.1]; exact RQ.of0 rfl (.cell (Nat.le_of_ble_eq_true rfl) rfl rfl rfl ag26 sz26 (Nat.le_of_ble_eq_true rfl) rfl rfl (.cell (Nat.le_of_ble_eq_true rfl) rfl rfl rfl ag33 sz33 (Nat.le_of_ble_eq_true rfl) rfl rfl (.tmp (Nat.le_of_ble_eq_true rfl) rfl rfl .nil)))
   ·
    have hc2 := hc; have ho : h.offline = false := hc2
    refine AW.skip ?_
    (refine hK _ ?_; clear hK K; (skip))
    (refine AW.seq_k ?_; intro K hK)
    refine AW.ad [(0, 1, .own 26 [[.v (.int .i64 h.number), .v (.int .i64 (h.next + 1)), .v (.int .i64 t), .v (.bool h.offline), .ro (h.grants.map Grant.av), .ro (h.conts.map Container.av), .ro (h.log.map Op.av)]]), (4, 5, .own 33 [((newOp h k p n t)).av])] mix rfl ?_
    (refine adR 0 rfl (fun T' ok => op_load_ptr rfl rfl (by exact ok.1) rfl ag26 sz26 (Nat.le_of_ble_eq_true rfl) rfl) (by exact ⟨rfl, rfl, trivial⟩) (by kernel_rfl) (by kernel_rfl) ?_)
    (refine adR 1 rfl (fun T' ok => op_load_ptr rfl rfl (by exact ok.2.1) rfl ag33 sz33 (Nat.le_of_ble_eq_true rfl) rfl) (by exact ⟨rfl, rfl, trivial⟩) (by kernel_rfl) (by kernel_rfl) ?_)
    refine adJ 2 rfl (op_store rfl rfl rfl rfl rfl rfl sz26 rfl (Nat.le_of_ble_eq_true rfl) rfl) (by kernel_rfl) (by exact ⟨rfl, rfl, trivial⟩) ?_; (simp only [nA, Nat.reduceBEq, Nat.reduceEqDiff, ↓reduceIte, Nat.reduceAdd, Nat.reduceSub])
    refine adJ 3 rfl (op_store rfl rfl rfl rfl rfl rfl sz33 rfl (Nat.le_of_ble_eq_true rfl) rfl) (by kernel_rfl) (by exact ⟨rfl, rfl, trivial⟩) ?_; (simp only [nA, Nat.reduceBEq, Nat.reduceEqDiff, ↓reduceIte, Nat.reduceAdd, Nat.reduceSub])
    refine adP 4 rfl (fun T' ok => op_assign rfl rfl) (by exact ⟨rfl, rfl, trivial⟩) (by kernel_rfl) (by kernel_rfl) ?_
    refine adDone (by kernel_rfl) ?_
    (refine hK _ ?_; clear hK K; (simp only [nA, Nat.reduceBEq, Nat.reduceEqDiff, ↓reduceIte, Nat.reduceAdd, Nat.reduceSub]))
    skip
    refine AW.ret ?_; rw [scan_off hE ho, bare_id hv.2.2.2.1]; exact RQ.of0 rfl (.cell (Nat.le_of_ble_eq_true rfl) rfl rfl rfl ag26 sz26 (Nat.le_of_ble_eq_true rfl) rfl rfl (.cell (Nat.le_of_ble_eq_true rfl) rfl rfl rfl ag33 sz33 (Nat.le_of_ble_eq_true rfl) rfl rfl (.tmp (Nat.le_of_ble_eq_true rfl) rfl rfl .nil)))
end Go.Proofs.Ytdnofpggdddimaa
namespace Go.Proofs.Ytdnofpggdddimaa
open Go.RowKit
set_option linter.unusedSimpArgs false
set_option linter.unusedVariables false
set_option maxRecDepth 100000
def grErr (l : List Grant) (i : Nat) : Int := if grB (l.getD i default) = false then 1 else if (decide ((i : Int) > 0) && decide (cmpP (l.getD (i - 1) default).piece.plate (l.getD i default).piece.plate ≥ 0)) = true then 9 else 0
def grsE (l : List Grant) : Int := orL ((List.range l.length).map (grErr l))
theorem grsE_at {l : List Grant} {i : Nat} {e : Int} (hi : i < l.length) (hz : ∀ k, k < i → grErr l k = 0) (he : grErr l i = e) (h0 : e ≠ 0) : grsE l = e := by
  unfold grsE
  rw [orL_yes (i := i) (by simpa using hi) (fun x hx => ?_) (by simp [he, h0])]
  · simp [he]
  · obtain ⟨k, hk, rfl⟩ := mem_take_range hx; exact hz k hk
theorem grsE_ok {l : List Grant} {i : Nat} (hi : ¬ i < l.length) (hz : ∀ k, k < i → grErr l k = 0) : grsE l = 0 := by
  unfold grsE
  rw [orL_no (i := i) (by simpa using hi) (fun x hx => ?_)]
  obtain ⟨k, hk, rfl⟩ := mem_take_range hx; exact hz k hk
def offE (h : Hand) (g : List Grant) (c : List Container) : Int :=
  if valH h ≠ 0 then valH h
  else if h.offline = true then 7
  else if (g.length : Int) > 60 then 2
  else if grsE g ≠ 0 then grsE g else chkL c
def offH (h : Hand) (g : List Grant) (c : List Container) : Hand := ⟨h.number, h.next, h.last, true, g, c.map bareC, h.log⟩
def offR (h : Hand) (g : List Grant) (c : List Container) : Hand × Int := if offE h g c = 0 then (offH h g c, 0) else (zeroH, offE h g c)
theorem off_err {h : Hand} {g : List Grant} {c : List Container} {e : Int} (he : offE h g c = e) (h0 : e ≠ 0) : offR h g c = (zeroH, e) := by
  unfold offR
  rw [if_neg (by rw [he]; exact h0), he]
theorem off_ok {h : Hand} {g : List Grant} {c : List Container} (he : offE h g c = 0) : offR h g c = (offH h g c, 0) := by
  unfold offR
  rw [if_pos he]
theorem C32 {h : Hand} {g : List Grant} {c : List Container} (hs : h.Sm) (hg : g.length ≤ 1000) (hcl : c.length ≤ 1000) : Fn Try.prog 32 [] [.agg h.av, .ro (g.map Grant.av), .ro (c.map Container.av)] [.agg (offR h g c).1.av, .v (.int .i64 (offR h g c).2)] [] := by
  refine Spec.body Try.func32 rfl Try.ntmps32 (by simp) rfl ?_; intro S0 own0 v0 w0
  (refine AW.seq_k ?_; intro K hK)
  refine AW.region ?_
  refine awJ (op_box rfl rfl rfl sz26 rfl) ?_; (simp only [nA, Nat.reduceBEq, Nat.reduceEqDiff, ↓reduceIte, Nat.reduceAdd, Nat.reduceSub])
  refine awJ (op_alloc rfl ze26 rfl) ?_; (simp only [nA, Nat.reduceBEq, Nat.reduceEqDiff, ↓reduceIte, Nat.reduceAdd, Nat.reduceSub])
  refine awP (op_assign rfl rfl) ?_
  refine AWL.nil ?_
  (refine hK _ ?_; clear hK K; (simp only [nA, Nat.reduceBEq, Nat.reduceEqDiff, ↓reduceIte, Nat.reduceAdd, Nat.reduceSub]))
  (refine AW.seq_k ?_; intro K hK)
  (refine AW.seq_k ?_; intro K hK)
  refine AW.region ?_
  (refine awR (op_load_ptr rfl rfl rfl rfl ag26 sz26 (Nat.le_of_ble_eq_true rfl) rfl) ?_)
  refine awJ (OpQ.j (op_callQ (b := true) rfl en18 (C18 (h := h) hs) (RL.cons (by exact View.same rfl) (RL.nil)) rfl)) ?_; (simp only [nA, Nat.reduceBEq, Nat.reduceEqDiff, ↓reduceIte, Nat.reduceAdd, Nat.reduceSub])
  refine awP (op_assign rfl rfl) ?_
  refine AWL.nil ?_
  (refine hK _ ?_; clear hK K; (simp only [nA, Nat.reduceBEq, Nat.reduceEqDiff, ↓reduceIte, Nat.reduceAdd, Nat.reduceSub]))
  (refine AW.seq_k ?_; intro K hK)
  refine AW.region ?_
  refine awP (op_move rfl rfl) ?_
  (refine awP (op_neq rfl rfl rfl) ?_)
  refine AWL.nil ?_
  (refine hK _ ?_; clear hK K; (simp only [nA, Nat.reduceBEq, Nat.reduceEqDiff, ↓reduceIte, Nat.reduceAdd, Nat.reduceSub]))
  refine AW.cond rfl rfl rfl (fun hc => ?_) (fun hc => ?_)
  ·
   have hc1 := hc; have g1 : valH h ≠ 0 := (by simpa using hc1)
   (refine AW.seq_k ?_; intro K hK)
   refine AW.region ?_
   refine awP (op_build2 (xs := [.v (.int .i64 0), .v (.int .i64 0), .v (.int .i64 0), .v (.bool false), .v (.slice none 0 0), .v (.slice none 0 0), .v (.slice none 0 0)]) rfl pl26 ze26 [] rfl rfl rfl) ?_
   refine awP (op_move rfl rfl) ?_
   refine awJ (op_store rfl rfl rfl rfl rfl rfl sz26 rfl (Nat.le_of_ble_eq_true rfl) rfl) ?_; (simp only [nA, Nat.reduceBEq, Nat.reduceEqDiff, ↓reduceIte, Nat.reduceAdd, Nat.reduceSub])
   refine awP (op_assign rfl rfl) ?_
   refine AWL.nil ?_
   (refine hK _ ?_; clear hK K; (simp only [nA, Nat.reduceBEq, Nat.reduceEqDiff, ↓reduceIte, Nat.reduceAdd, Nat.reduceSub]))
   refine AW.gh (Gh.cell0 (r := 1) (A := none) (c := 0) (row := [.v (.int .i64 0), .v (.int .i64 0), .v (.int .i64 0), .v (.bool false), .v (.slice none 0 0), .v (.slice none 0 0), .v (.slice none 0 0)]) 0 4 rfl rfl rfl (by decide) rfl) ?_; refine AW.gh (Gh.cell0 (r := 1) (A := none) (c := 0) (row := [.v (.int .i64 0), .v (.int .i64 0), .v (.int .i64 0), .v (.bool false), .ro [], .v (.slice none 0 0), .v (.slice none 0 0)]) 0 5 rfl rfl rfl (by decide) rfl) ?_; refine AW.gh (Gh.cell0 (r := 1) (A := none) (c := 0) (row := [.v (.int .i64 0), .v (.int .i64 0), .v (.int .i64 0), .v (.bool false), .ro [], .ro [], .v (.slice none 0 0)]) 0 6 rfl rfl rfl (by decide) rfl) ?_; (simp only [nA, Nat.reduceBEq, Nat.reduceEqDiff, ↓reduceIte, Nat.reduceAdd, Nat.reduceSub])
   refine AW.ret ?_; (simp only [thenE, inBlk, Nat.reduceEqDiff, ↓reduceIte]); rw [off_err (e := valH h) (by unfold offE; rw [if_pos g1]) g1]; exact RQ.of0 rfl (.cell (Nat.le_of_ble_eq_true rfl) rfl rfl rfl ag26 sz26 (Nat.le_of_ble_eq_true rfl) rfl rfl (.tmp (Nat.le_of_ble_eq_true rfl) rfl rfl .nil))
  ·
   have hc1 := hc; have g1 : ¬ (valH h ≠ 0) := (by simpa using hc1)
   refine AW.skip ?_
   (refine hK _ ?_; clear hK K; (skip))
   (refine AW.seq_k ?_; intro K hK)
   (refine AW.seq_k ?_; intro K hK)
   refine AW.region ?_
   (refine awP (op_fa_ptr rfl rfl rfl fl26_3 (by exact sz4) (by decide) rfl) ?_)
   (refine awR (op_load_ptr1 rfl rfl rfl rfl ag4 rfl rfl) ?_)
   refine AWL.nil ?_
   (refine hK _ ?_; clear hK K; (simp only [nA, Nat.reduceBEq, Nat.reduceEqDiff, ↓reduceIte, Nat.reduceAdd, Nat.reduceSub]))
   refine AW.cond rfl rfl rfl (fun hc => ?_) (fun hc => ?_)
   ·
    have hc2 := hc; skip
    (refine AW.seq_k ?_; intro K hK)
    refine AW.region ?_
    refine awP (op_build2 (xs := [.v (.int .i64 0), .v (.int .i64 0), .v (.int .i64 0), .v (.bool false), .v (.slice none 0 0), .v (.slice none 0 0), .v (.slice none 0 0)]) rfl pl26 ze26 [] rfl rfl rfl) ?_
    refine awJ (op_store rfl rfl rfl rfl rfl rfl sz26 rfl (Nat.le_of_ble_eq_true rfl) rfl) ?_; (simp only [nA, Nat.reduceBEq, Nat.reduceEqDiff, ↓reduceIte, Nat.reduceAdd, Nat.reduceSub])
    refine awP (op_assign rfl rfl) ?_
    refine AWL.nil ?_
    (refine hK _ ?_; clear hK K; (simp only [nA, Nat.reduceBEq, Nat.reduceEqDiff, ↓reduceIte, Nat.reduceAdd, Nat.reduceSub]))
    refine AW.gh (Gh.cell0 (r := 1) (A := none) (c := 0) (row := [.v (.int .i64 0), .v (.int .i64 0), .v (.int .i64 0), .v (.bool false), .v (.slice none 0 0), .v (.slice none 0 0), .v (.slice none 0 0)]) 0 4 rfl rfl rfl (by decide) rfl) ?_; refine AW.gh (Gh.cell0 (r := 1) (A := none) (c := 0) (row := [.v (.int .i64 0), .v (.int .i64 0), .v (.int .i64 0), .v (.bool false), .ro [], .v (.slice none 0 0), .v (.slice none 0 0)]) 0 5 rfl rfl rfl (by decide) rfl) ?_; refine AW.gh (Gh.cell0 (r := 1) (A := none) (c := 0) (row := [.v (.int .i64 0), .v (.int .i64 0), .v (.int .i64 0), .v (.bool false), .ro [], .ro [], .v (.slice none 0 0)]) 0 6 rfl rfl rfl (by decide) rfl) ?_; (simp only [nA, Nat.reduceBEq, Nat.reduceEqDiff, ↓reduceIte, Nat.reduceAdd, Nat.reduceSub])
    refine AW.ret ?_; (simp only [thenE, inBlk, Nat.reduceEqDiff, ↓reduceIte]); rw [off_err (e := 7) (by unfold offE; rw [if_neg g1, if_pos hc2]) (by decide)]; exact RQ.of0 rfl (.cell (Nat.le_of_ble_eq_true rfl) rfl rfl rfl ag26 sz26 (Nat.le_of_ble_eq_true rfl) rfl rfl (.tmp (Nat.le_of_ble_eq_true rfl) rfl rfl .nil))
   ·
    have hc2 := hc; have g2 : ¬ (h.offline = true) := (by rw [show h.offline = false from hc2]; decide)
    refine AW.skip ?_
    (refine hK _ ?_; clear hK K; (skip))
    (refine AW.seq_k ?_; intro K hK)
    (refine AW.seq_k ?_; intro K hK)
    refine AW.region ?_
    refine awP (op_move rfl rfl) ?_
    refine awP (op_len_ro (n := g.length) rfl rfl Try.underlying22 (.inr (.inl ⟨_, rfl, by simp⟩))) ?_
    refine awP (op_gtr rfl rfl rfl) ?_
    refine AWL.nil ?_
    (refine hK _ ?_; clear hK K; (simp only [nA, Nat.reduceBEq, Nat.reduceEqDiff, ↓reduceIte, Nat.reduceAdd, Nat.reduceSub]))
    refine AW.cond rfl rfl rfl (fun hc => ?_) (fun hc => ?_)
    ·
     have hc3 := hc; have g3 : (g.length : Int) > 60 := (by simpa using hc3)
     (refine AW.seq_k ?_; intro K hK)
     refine AW.region ?_
     refine awP (op_build2 (xs := [.v (.int .i64 0), .v (.int .i64 0), .v (.int .i64 0), .v (.bool false), .v (.slice none 0 0), .v (.slice none 0 0), .v (.slice none 0 0)]) rfl pl26 ze26 [] rfl rfl rfl) ?_
     refine awJ (op_store rfl rfl rfl rfl rfl rfl sz26 rfl (Nat.le_of_ble_eq_true rfl) rfl) ?_; (simp only [nA, Nat.reduceBEq, Nat.reduceEqDiff, ↓reduceIte, Nat.reduceAdd, Nat.reduceSub])
     refine awP (op_assign rfl rfl) ?_
     refine AWL.nil ?_
     (refine hK _ ?_; clear hK K; (simp only [nA, Nat.reduceBEq, Nat.reduceEqDiff, ↓reduceIte, Nat.reduceAdd, Nat.reduceSub]))
     refine AW.gh (Gh.cell0 (r := 1) (A := none) (c := 0) (row := [.v (.int .i64 0), .v (.int .i64 0), .v (.int .i64 0), .v (.bool false), .v (.slice none 0 0), .v (.slice none 0 0), .v (.slice none 0 0)]) 0 4 rfl rfl rfl (by decide) rfl) ?_; refine AW.gh (Gh.cell0 (r := 1) (A := none) (c := 0) (row := [.v (.int .i64 0), .v (.int .i64 0), .v (.int .i64 0), .v (.bool false), .ro [], .v (.slice none 0 0), .v (.slice none 0 0)]) 0 5 rfl rfl rfl (by decide) rfl) ?_; refine AW.gh (Gh.cell0 (r := 1) (A := none) (c := 0) (row := [.v (.int .i64 0), .v (.int .i64 0), .v (.int .i64 0), .v (.bool false), .ro [], .ro [], .v (.slice none 0 0)]) 0 6 rfl rfl rfl (by decide) rfl) ?_; (simp only [nA, Nat.reduceBEq, Nat.reduceEqDiff, ↓reduceIte, Nat.reduceAdd, Nat.reduceSub])
     refine AW.ret ?_; (simp only [thenE, inBlk, Nat.reduceEqDiff, ↓reduceIte]); rw [off_err (e := 2) (by unfold offE; rw [if_neg g1, if_neg g2, if_pos g3]) (by decide)]; exact RQ.of0 rfl (.cell (Nat.le_of_ble_eq_true rfl) rfl rfl rfl ag26 sz26 (Nat.le_of_ble_eq_true rfl) rfl rfl (.tmp (Nat.le_of_ble_eq_true rfl) rfl rfl .nil))
    ·
     have hc3 := hc; have g3 : ¬ ((g.length : Int) > 60) := (by simpa using hc3)
     refine AW.skip ?_
     (refine hK _ ?_; clear hK K; (skip))
     (refine AW.seq_k ?_; intro K hK)
     (refine AW.seq_k ?_; intro K hK)
     refine AW.region ?_
     refine awP (op_move rfl rfl) ?_
     refine awP (op_len_ro (n := g.length) rfl rfl Try.underlying22 (.inr (.inl ⟨_, rfl, by simp⟩))) ?_
     refine awP (op_move rfl rfl) ?_
     refine AWL.nil ?_
     (refine hK _ ?_; clear hK K; (simp only [nA, Nat.reduceBEq, Nat.reduceEqDiff, ↓reduceIte, Nat.reduceAdd, Nat.reduceSub]))
     refine AW.block ?_
     refine AW.loopI (fun i => [(1, .ro (g.map Grant.av)), (2, .ro (c.map Container.av)), (3, .ptr 0 1 0 0), (6, .ptr 1 2 0 0), (25, .ro (g.map Grant.av)), (26, .v (.int .i64 g.length)), (27, .v (.int .i64 (i : Nat)))]) (fun i => ⟨[(1, .own 26 [h.av]), (2, .own 26 [[.v (.int .i64 0), .v (.int .i64 0), .v (.int .i64 0), .v (.bool false), .v (.slice none 0 0), .v (.slice none 0 0), .v (.slice none 0 0)]])], 3 + i⟩) (fun i => i ≤ g.length ∧ ∀ k, k < i → grErr g k = 0) (fun i => g.length - i) 0 (by simp) ⟨rfl, rfl, rfl, rfl, rfl, rfl, rfl, trivial⟩ rfl ?_; intro i ρ hi; simp only [updL]
     (refine AW.seq_k ?_; intro K hK)
     refine AW.region ?_
     refine awP (op_lss rfl rfl rfl) ?_
     refine AWL.nil ?_
     (refine hK _ ?_; clear hK K; (simp only [nA, Nat.reduceBEq, Nat.reduceEqDiff, ↓reduceIte, Nat.reduceAdd, Nat.reduceSub]))
     (refine AW.seq_k ?_; intro K hK)
     refine AW.cond rfl rfl rfl (fun hc => ?_) (fun hc => ?_)
     ·
      have hc4 := hc; have hlt : i < g.length := (by simpa using hc4)
      refine AW.skip ?_
      (refine hK _ ?_; clear hK K; (skip))
      (refine AW.seq_k ?_; intro K hK)
      refine AW.block ?_
      (refine AW.seq_k ?_; intro K hK)
      refine AW.region ?_
      refine awP (op_move rfl rfl) ?_
      refine awP (op_ia_ro i rfl (.inl rfl) rfl Try.underlying22 rfl (get_mapD (by omega)) (by exact sz75) (Nat.le_of_ble_eq_true rfl)) ?_
      (refine awR (op_load_rop rfl rfl ag75 sz75 (Nat.le_of_ble_eq_true rfl) (by decide) rfl) ?_)
      refine awJ (op_alloc rfl ze75 rfl) ?_; (simp only [nA, Nat.reduceBEq, Nat.reduceEqDiff, ↓reduceIte, Nat.reduceAdd, Nat.reduceSub])
      refine awP (op_assign rfl rfl) ?_
      refine awJ (op_store rfl rfl rfl rfl rfl rfl sz75 rfl (Nat.le_of_ble_eq_true rfl) rfl) ?_; (simp only [nA, Nat.reduceBEq, Nat.reduceEqDiff, ↓reduceIte, Nat.reduceAdd, Nat.reduceSub])
      refine AWL.nil ?_
      (refine hK _ ?_; clear hK K; (skip))
      (refine AW.seq_k ?_; intro K hK)
      (refine AW.seq_k ?_; intro K hK)
      refine AW.region ?_
      (refine awR (op_load_ptr rfl rfl rfl rfl ag75 sz75 (Nat.le_of_ble_eq_true rfl) rfl) ?_)
      refine awJ (OpQ.j (op_callQ (b := true) rfl en62 (C62 (g := g.getD i default)) (RL.cons (by exact View.same rfl) (RL.nil)) rfl)) ?_; (simp only [nA, Nat.reduceBEq, Nat.reduceEqDiff, ↓reduceIte, Nat.reduceAdd, Nat.reduceSub])
      refine awP (op_not rfl rfl rfl) ?_
      refine AWL.nil ?_
      (refine hK _ ?_; clear hK K; (simp only [nA, Nat.reduceBEq, Nat.reduceEqDiff, ↓reduceIte, Nat.reduceAdd, Nat.reduceSub]))
      refine AW.cond rfl rfl rfl (fun hc => ?_) (fun hc => ?_)
      ·
       have hc5 := hc; have e1 : grErr g i = 1 := (by unfold grErr; rw [if_pos (by simpa using hc5)])
       (refine AW.seq_k ?_; intro K hK)
       refine AW.region ?_
       refine awP (op_build2 (xs := [.v (.int .i64 0), .v (.int .i64 0), .v (.int .i64 0), .v (.bool false), .v (.slice none 0 0), .v (.slice none 0 0), .v (.slice none 0 0)]) rfl pl26 ze26 [] rfl rfl rfl) ?_
       refine awJ (op_store rfl rfl rfl rfl rfl rfl sz26 rfl (Nat.le_of_ble_eq_true rfl) rfl) ?_; (simp only [nA, Nat.reduceBEq, Nat.reduceEqDiff, ↓reduceIte, Nat.reduceAdd, Nat.reduceSub])
       refine awP (op_assign rfl rfl) ?_
       refine AWL.nil ?_
       (refine hK _ ?_; clear hK K; (simp only [nA, Nat.reduceBEq, Nat.reduceEqDiff, ↓reduceIte, Nat.reduceAdd, Nat.reduceSub]))
       refine AW.gh (Gh.cell0 (r := 1) (A := none) (c := 0) (row := [.v (.int .i64 0), .v (.int .i64 0), .v (.int .i64 0), .v (.bool false), .v (.slice none 0 0), .v (.slice none 0 0), .v (.slice none 0 0)]) 0 4 rfl rfl rfl (by decide) rfl) ?_; refine AW.gh (Gh.cell0 (r := 1) (A := none) (c := 0) (row := [.v (.int .i64 0), .v (.int .i64 0), .v (.int .i64 0), .v (.bool false), .ro [], .v (.slice none 0 0), .v (.slice none 0 0)]) 0 5 rfl rfl rfl (by decide) rfl) ?_; refine AW.gh (Gh.cell0 (r := 1) (A := none) (c := 0) (row := [.v (.int .i64 0), .v (.int .i64 0), .v (.int .i64 0), .v (.bool false), .ro [], .ro [], .v (.slice none 0 0)]) 0 6 rfl rfl rfl (by decide) rfl) ?_; (simp only [nA, Nat.reduceBEq, Nat.reduceEqDiff, ↓reduceIte, Nat.reduceAdd, Nat.reduceSub])
       refine AW.ret ?_; (simp only [thenE, inBlk, Nat.reduceEqDiff, ↓reduceIte]); rw [off_err (e := 1) (by unfold offE; rw [if_neg g1, if_neg g2, if_neg g3, grsE_at hlt hi.2 e1 (by decide), if_pos (by decide)]) (by decide)]; exact RQ.of0 rfl (.cell (Nat.le_of_ble_eq_true rfl) rfl rfl rfl ag26 sz26 (Nat.le_of_ble_eq_true rfl) rfl rfl (.tmp (Nat.le_of_ble_eq_true rfl) rfl rfl .nil))
      ·
       have hc5 := hc; have e5 : ¬ grB (g.getD i default) = false := (by simpa using hc5)
       refine AW.skip ?_
       (refine hK _ ?_; clear hK K; (skip))
       (refine AW.seq_k ?_; intro K hK)
       refine AW.quiet mix (by kernel_rfl) ?_
       refine aqP (op_move rfl rfl) ?_
       refine aqP (op_gtr rfl rfl rfl) ?_
       refine aqP (op_move rfl rfl) ?_
       refine' aqAnd' [_, _, _, _, _, _, _, _, _, _, _, _] [39,40,41,42,43,44,45,46,47,48,49,50] rfl rfl rfl rfl rfl rfl rfl rfl rfl rfl rfl rfl (fun hb => ?_) ?_; rotate_left
       ·
        (try simp only [hcS] at hb)
        refine aqP (op_move rfl rfl) ?_
        refine aqP (op_move rfl rfl) ?_
        (refine aqP (op_subi rfl rfl rfl (by omega)) ?_)
        refine aqP (op_ia_ro (i - 1) rfl (.inl rfl) rfl Try.underlying22 (by simp at hb; omega) (get_mapD (by omega)) (by exact sz75) (Nat.le_of_ble_eq_true rfl)) ?_
        (refine aqP (op_fa_rop rfl rfl fl75_0 (by exact sz31) (by decide) (Nat.le_of_ble_eq_true rfl) rfl) ?_)
        (refine aqP (op_fa_rop rfl rfl fl31_0 (by exact sz29) (by decide) (Nat.le_of_ble_eq_true rfl) rfl) ?_)
        (refine aqR (op_load_rop rfl rfl ag29 sz29 (Nat.le_of_ble_eq_true rfl) (by decide) rfl) ?_)
        (refine aqP (op_fa_ptr rfl rfl rfl fl75_0 (by exact sz31) (by decide) rfl) ?_)
        (refine aqP (op_fa_ptr rfl rfl rfl fl31_0 (by exact sz29) (by decide) rfl) ?_)
        (refine aqR (op_load_ptr rfl rfl rfl rfl ag29 sz29 (Nat.le_of_ble_eq_true rfl) rfl) ?_)
        refine aqQ (op_callQ (b := true) rfl en63 (C63 (p := (g.getD (i - 1) default).piece.plate) (q := (g.getD i default).piece.plate)) (RL.cons (by exact View.same rfl) (RL.cons (by exact View.same rfl) (RL.nil))) rfl) ?_; (simp only [nA, Nat.reduceBEq, Nat.reduceEqDiff, ↓reduceIte, Nat.reduceAdd, Nat.reduceSub])
        refine aqP (op_geq rfl rfl rfl) ?_
        (refine aqSeg rfl rfl rfl ?_; repeat (first | exact fun _ _ => rfl | refine upd_out rfl ?_))
       (simp only [nA, Nat.reduceBEq, Nat.reduceEqDiff, ↓reduceIte, Nat.reduceAdd, Nat.reduceSub])
       refine AQ.nil ?_
       (refine hK _ ?_; clear hK K; (skip))
       refine AW.cond rfl rfl rfl (fun hc => ?_) (fun hc => ?_)
       ·
        have hc6 := hc; have e1 : grErr g i = 9 := (by unfold grErr; rw [if_neg e5, if_pos hc6])
        (refine AW.seq_k ?_; intro K hK)
        refine AW.region ?_
        refine awP (op_build2 (xs := [.v (.int .i64 0), .v (.int .i64 0), .v (.int .i64 0), .v (.bool false), .v (.slice none 0 0), .v (.slice none 0 0), .v (.slice none 0 0)]) rfl pl26 ze26 [] rfl rfl rfl) ?_
        refine awJ (op_store rfl rfl rfl rfl rfl rfl sz26 rfl (Nat.le_of_ble_eq_true rfl) rfl) ?_; (simp only [nA, Nat.reduceBEq, Nat.reduceEqDiff, ↓reduceIte, Nat.reduceAdd, Nat.reduceSub])
        refine awP (op_assign rfl rfl) ?_
        refine AWL.nil ?_
        (refine hK _ ?_; clear hK K; (simp only [nA, Nat.reduceBEq, Nat.reduceEqDiff, ↓reduceIte, Nat.reduceAdd, Nat.reduceSub]))
        refine AW.gh (Gh.cell0 (r := 1) (A := none) (c := 0) (row := [.v (.int .i64 0), .v (.int .i64 0), .v (.int .i64 0), .v (.bool false), .v (.slice none 0 0), .v (.slice none 0 0), .v (.slice none 0 0)]) 0 4 rfl rfl rfl (by decide) rfl) ?_; refine AW.gh (Gh.cell0 (r := 1) (A := none) (c := 0) (row := [.v (.int .i64 0), .v (.int .i64 0), .v (.int .i64 0), .v (.bool false), .ro [], .v (.slice none 0 0), .v (.slice none 0 0)]) 0 5 rfl rfl rfl (by decide) rfl) ?_; refine AW.gh (Gh.cell0 (r := 1) (A := none) (c := 0) (row := [.v (.int .i64 0), .v (.int .i64 0), .v (.int .i64 0), .v (.bool false), .ro [], .ro [], .v (.slice none 0 0)]) 0 6 rfl rfl rfl (by decide) rfl) ?_; (simp only [nA, Nat.reduceBEq, Nat.reduceEqDiff, ↓reduceIte, Nat.reduceAdd, Nat.reduceSub])
        refine AW.ret ?_; (simp only [thenE, inBlk, Nat.reduceEqDiff, ↓reduceIte]); rw [off_err (e := 9) (by unfold offE; rw [if_neg g1, if_neg g2, if_neg g3, grsE_at hlt hi.2 e1 (by decide), if_pos (by decide)]) (by decide)]; exact RQ.of0 rfl (.cell (Nat.le_of_ble_eq_true rfl) rfl rfl rfl ag26 sz26 (Nat.le_of_ble_eq_true rfl) rfl rfl (.tmp (Nat.le_of_ble_eq_true rfl) rfl rfl .nil))
       ·
        have hc6 := hc; have e1 : grErr g i = 0 := (by unfold grErr; rw [if_neg e5, if_neg (by rw [show (decide ((i : Int) > 0) && decide (cmpP (g.getD (i - 1) default).piece.plate (g.getD i default).piece.plate ≥ 0)) = false from hc6]; decide)])
        refine AW.skip ?_
        (simp only [thenE, inBlk, Nat.reduceEqDiff, ↓reduceIte])
        (refine hK _ ?_; clear hK K; (skip))
        refine AW.region ?_
        (refine awP (op_addi rfl rfl rfl (by omega)) ?_)
        refine awP (op_move rfl rfl) ?_
        refine AWL.gh (Gh.drop 2) ?_; (simp only [nA, Nat.reduceBEq, Nat.reduceEqDiff, ↓reduceIte, Nat.reduceAdd, Nat.reduceSub])
        refine AWL.nil ?_
        refine ⟨i + 1, ⟨by omega, all_step hi.2 e1⟩, by omega, ⟨rfl, rfl, rfl, rfl, rfl, rfl, rfl, trivial⟩, (by rfl), (by rfl)⟩
     ·
      have hc4 := hc; have hnl : ¬ i < g.length := (by simpa using hc4); have g4 : ¬ (grsE g ≠ 0) := (by rw [grsE_ok hnl hi.2]; decide)
      refine AW.exit ?_; (simp only [thenE, inBlk, Nat.reduceEqDiff, ↓reduceIte])
      clear hK K
      (refine hK _ ?_; clear hK K; (skip))
      (refine AW.seq_k ?_; intro K hK)
      (refine AW.seq_k ?_; intro K hK)
      refine AW.region ?_
      refine awP (op_move rfl rfl) ?_
      refine awJ (OpQ.j (op_callQ (b := true) rfl en64 (C64 (xs := c) (by omega)) (RL.cons (by exact View.same rfl) (RL.nil)) rfl)) ?_; (simp only [nA, Nat.reduceBEq, Nat.reduceEqDiff, ↓reduceIte, Nat.reduceAdd, Nat.reduceSub])
      refine awP (op_assign rfl rfl) ?_
      refine AWL.nil ?_
      (refine hK _ ?_; clear hK K; (simp only [nA, Nat.reduceBEq, Nat.reduceEqDiff, ↓reduceIte, Nat.reduceAdd, Nat.reduceSub]))
      (refine AW.seq_k ?_; intro K hK)
      refine AW.region ?_
      refine awP (op_move rfl rfl) ?_
      (refine awP (op_neq rfl rfl rfl) ?_)
      refine AWL.nil ?_
      (refine hK _ ?_; clear hK K; (simp only [nA, Nat.reduceBEq, Nat.reduceEqDiff, ↓reduceIte, Nat.reduceAdd, Nat.reduceSub]))
      refine AW.cond rfl rfl rfl (fun hc => ?_) (fun hc => ?_)
      ·
       have hc7 := hc; have g5 : chkL c ≠ 0 := (by simpa using hc7)
       (refine AW.seq_k ?_; intro K hK)
       refine AW.region ?_
       refine awP (op_build2 (xs := [.v (.int .i64 0), .v (.int .i64 0), .v (.int .i64 0), .v (.bool false), .v (.slice none 0 0), .v (.slice none 0 0), .v (.slice none 0 0)]) rfl pl26 ze26 [] rfl rfl rfl) ?_
       refine awP (op_move rfl rfl) ?_
       refine awJ (op_store rfl rfl rfl rfl rfl rfl sz26 rfl (Nat.le_of_ble_eq_true rfl) rfl) ?_; (simp only [nA, Nat.reduceBEq, Nat.reduceEqDiff, ↓reduceIte, Nat.reduceAdd, Nat.reduceSub])
       refine awP (op_assign rfl rfl) ?_
       refine AWL.nil ?_
       (refine hK _ ?_; clear hK K; (simp only [nA, Nat.reduceBEq, Nat.reduceEqDiff, ↓reduceIte, Nat.reduceAdd, Nat.reduceSub]))
       refine AW.gh (Gh.cell0 (r := 1) (A := none) (c := 0) (row := [.v (.int .i64 0), .v (.int .i64 0), .v (.int .i64 0), .v (.bool false), .v (.slice none 0 0), .v (.slice none 0 0), .v (.slice none 0 0)]) 0 4 rfl rfl rfl (by decide) rfl) ?_; refine AW.gh (Gh.cell0 (r := 1) (A := none) (c := 0) (row := [.v (.int .i64 0), .v (.int .i64 0), .v (.int .i64 0), .v (.bool false), .ro [], .v (.slice none 0 0), .v (.slice none 0 0)]) 0 5 rfl rfl rfl (by decide) rfl) ?_; refine AW.gh (Gh.cell0 (r := 1) (A := none) (c := 0) (row := [.v (.int .i64 0), .v (.int .i64 0), .v (.int .i64 0), .v (.bool false), .ro [], .ro [], .v (.slice none 0 0)]) 0 6 rfl rfl rfl (by decide) rfl) ?_; (simp only [nA, Nat.reduceBEq, Nat.reduceEqDiff, ↓reduceIte, Nat.reduceAdd, Nat.reduceSub])
       refine AW.ret ?_; (simp only [thenE, inBlk, Nat.reduceEqDiff, ↓reduceIte]); rw [off_err (e := chkL c) (by unfold offE; rw [if_neg g1, if_neg g2, if_neg g3, if_neg g4]) g5]; exact RQ.of0 rfl (.cell (Nat.le_of_ble_eq_true rfl) rfl rfl rfl ag26 sz26 (Nat.le_of_ble_eq_true rfl) rfl rfl (.tmp (Nat.le_of_ble_eq_true rfl) rfl rfl .nil))
      ·
       have hc7 := hc; have g5 : chkL c = 0 := (by simpa using hc7)
       refine AW.skip ?_
       (refine hK _ ?_; clear hK K; (skip))
       (refine AW.seq_k ?_; intro K hK)
       refine AW.region ?_
       refine awP (op_move rfl rfl) ?_
       refine awJ (op_call (b := false) rfl en65 (C65 (l := g) (by omega)) (RL.cons (by exact View.same rfl) (RL.nil)) rfl (fun h => by cases h) rfl rfl) ?_; (simp only [nA, Nat.reduceBEq, Nat.reduceEqDiff, ↓reduceIte, Nat.reduceAdd, Nat.reduceSub])
       refine awP (op_move rfl rfl) ?_
       refine awJ (op_call (b := false) rfl en66 (C66 (l := c) (by omega)) (RL.cons (by exact View.same rfl) (RL.nil)) rfl (fun h => by cases h) rfl rfl) ?_; (simp only [nA, Nat.reduceBEq, Nat.reduceEqDiff, ↓reduceIte, Nat.reduceAdd, Nat.reduceSub])
       (refine awP (op_fa_ptr rfl rfl rfl fl26_3 (by exact sz4) (by decide) rfl) ?_)
       refine awJ (op_store rfl rfl rfl rfl rfl rfl sz4 rfl (Nat.le_of_ble_eq_true rfl) rfl) ?_; (simp only [nA, Nat.reduceBEq, Nat.reduceEqDiff, ↓reduceIte, Nat.reduceAdd, Nat.reduceSub])
       (refine awP (op_fa_ptr rfl rfl rfl fl26_4 (by exact sz22) (by decide) rfl) ?_)
       refine awJ (op_store rfl rfl rfl rfl rfl rfl sz22 rfl (Nat.le_of_ble_eq_true rfl) rfl) ?_; (simp only [nA, Nat.reduceBEq, Nat.reduceEqDiff, ↓reduceIte, Nat.reduceAdd, Nat.reduceSub])
       (refine awP (op_fa_ptr rfl rfl rfl fl26_5 (by exact sz23) (by decide) rfl) ?_)
       refine awJ (op_store rfl rfl rfl rfl rfl rfl sz23 rfl (Nat.le_of_ble_eq_true rfl) rfl) ?_; (simp only [nA, Nat.reduceBEq, Nat.reduceEqDiff, ↓reduceIte, Nat.reduceAdd, Nat.reduceSub])
       refine AWL.nil ?_
       (refine hK _ ?_; clear hK K; (skip))
       (refine AW.seq_k ?_; intro K hK)
       refine AW.region ?_
       (refine awR (op_load_ptr rfl rfl rfl rfl ag26 sz26 (Nat.le_of_ble_eq_true rfl) rfl) ?_)
       refine awJ (op_store rfl rfl rfl rfl rfl rfl sz26 rfl (Nat.le_of_ble_eq_true rfl) rfl) ?_; (simp only [nA, Nat.reduceBEq, Nat.reduceEqDiff, ↓reduceIte, Nat.reduceAdd, Nat.reduceSub])
       refine awP (op_assign rfl rfl) ?_
       refine AWL.nil ?_
       (refine hK _ ?_; clear hK K; (simp only [nA, Nat.reduceBEq, Nat.reduceEqDiff, ↓reduceIte, Nat.reduceAdd, Nat.reduceSub]))
       skip
       refine AW.ret ?_; rw [off_ok (by unfold offE; rw [if_neg g1, if_neg g2, if_neg g3, if_neg g4, g5])]; exact RQ.of0 rfl (.cell (Nat.le_of_ble_eq_true rfl) rfl rfl rfl ag26 sz26 (Nat.le_of_ble_eq_true rfl) rfl rfl (.tmp (Nat.le_of_ble_eq_true rfl) rfl rfl .nil))
end Go.Proofs.Ytdnofpggdddimaa
namespace Go.Proofs.Ytdnofpggdddimaa
open Go.RowKit
set_option linter.unusedSimpArgs false
set_option linter.unusedVariables false
set_option maxRecDepth 100000
theorem Fn.nil_agg {P : Program} {f : FuncId} {cs cs' xs ys : List AV} (hle : RL (Le2 P) cs' cs) (h : Fn P f [] (.agg cs :: xs) ys []) : Fn P f [] (.agg cs' :: xs) ys [] := fun w S vals bss vs came => by
  have hargs : RL (AggOK P S w (insT []) vals) vs (.agg cs :: xs) := by
    obtain ⟨u, us, rfl, ⟨cu, rfl, hr⟩, hus⟩ := came.args.cons_inv
    refine RL.cons ⟨cu, rfl, hr.1.trans hle.1, fun i u x hu hx => ?_⟩ hus
    have hi : i < cs'.length := by rw [← hr.1]; exact (List.getElem?_eq_some_iff.1 hu).1
    have hx' := List.getElem?_eq_getElem hi
    have h1 := hr.2 i u _ hu hx'
    have h2 := hle.2 i _ x hx' hx
    revert h1 h2
    generalize cs'[i] = y
    intro h1 h2
    cases h2 with
    | same => exact h1
    | nil => exact Le2.rep (P := P) .nil (show Rep P S w [] u (.v (.slice none 0 0)) from h1)
    | nilo h => exact Le2.rep (P := P) (.nilo h) (show Rep P S w [] u (.v (.slice none 0 0)) from h1)
  exact h w S vals bss vs { came with args := hargs }
abbrev onH (nb nx ls : Int) : Hand := ⟨nb, nx, ls, false, [], [], []⟩
abbrev onV (nb nx ls : Int) : List AV := [.v (.int .i64 nb), .v (.int .i64 nx), .v (.int .i64 ls), .v (.bool false), .v (.slice none 0 0), .v (.slice none 0 0), .v (.slice none 0 0)]
theorem on_sm (nb nx ls : Int) : (onH nb nx ls).Sm := ⟨by simp, by simp, by simp, by simp⟩
theorem C19n {nb nx ls : Int} : Fn Try.prog 19 [] [.agg (onV nb nx ls)] [.v (.int .i64 (valH (onH nb nx ls)))] [] :=
  Fn.nil_agg (cs := (onH nb nx ls).av) (RL.cons .same (RL.cons .same (RL.cons .same (RL.cons .same (RL.cons .nil (RL.cons .nil (RL.cons .nil RL.nil))))))) (C19 (on_sm nb nx ls))
abbrev rowO (nb nx ls : Int) (g : List Grant) (x : AV) : List AV := [.v (.int .i64 nb), .v (.int .i64 nx), .v (.int .i64 ls), .v (.bool true), .ro (g.map Grant.av), x, .v (.slice none 0 0)]
theorem rowO_le (nb nx ls : Int) (g : List Grant) : RL (Le2 Try.prog) [rowO nb nx ls g (.v (.slice none 0 0))].flatten [rowO nb nx ls g (.own 77 [])].flatten :=
  RL.cons .same (RL.cons .same (RL.cons .same (RL.cons .same (RL.cons .same (RL.cons (.nilo sz77) (RL.cons .same RL.nil))))))
theorem bare_take {c : List Container} {i : Nat} (hi : i < c.length) : ((c.take i).map bareC).map Container.av ++ [(bareC (c.getD i default)).av] = ((c.take (i + 1)).map bareC).map Container.av := by
  rw [List.take_add_one, List.getElem?_eq_getElem hi, getD_of hi]
  simp only [Option.toList, List.map_append, List.map_cons, List.map_nil]
theorem C33 {nb nx ls : Int} {g : List Grant} {c : List Container} (hg : g.length ≤ 1000) (hcl : c.length ≤ 1000) (hcp : ∀ x ∈ c, x.pieces.length ≤ 1000000000) : Fn Try.prog 33 [] [.agg (onV nb nx ls), .ro (g.map Grant.av), .ro (c.map Container.av)] [.agg (offR (onH nb nx ls) g c).1.av, .v (.int .i64 (offR (onH nb nx ls) g c).2)] [] := by
  refine Spec.body Try.func33 rfl Try.ntmps33 (by simp) rfl ?_; intro S0 own0 v0 w0
  (refine AW.seq_k ?_; intro K hK)
  refine AW.region ?_
  refine awJ (op_box rfl rfl rfl sz26 rfl) ?_; (simp only [nA, Nat.reduceBEq, Nat.reduceEqDiff, ↓reduceIte, Nat.reduceAdd, Nat.reduceSub])
  refine awJ (op_alloc rfl ze26 rfl) ?_; (simp only [nA, Nat.reduceBEq, Nat.reduceEqDiff, ↓reduceIte, Nat.reduceAdd, Nat.reduceSub])
  refine awP (op_assign rfl rfl) ?_
  refine AWL.nil ?_
  (refine hK _ ?_; clear hK K; (simp only [nA, Nat.reduceBEq, Nat.reduceEqDiff, ↓reduceIte, Nat.reduceAdd, Nat.reduceSub]))
  (refine AW.seq_k ?_; intro K hK)
  (refine AW.seq_k ?_; intro K hK)
  refine AW.region ?_
  (refine awR (op_load_ptr rfl rfl rfl rfl ag26 sz26 (Nat.le_of_ble_eq_true rfl) rfl) ?_)
  refine awJ (OpQ.j (op_callQ (b := true) rfl en19 (C19n (nb := nb) (nx := nx) (ls := ls)) (RL.cons (by exact View.same rfl) (RL.nil)) rfl)) ?_; (simp only [nA, Nat.reduceBEq, Nat.reduceEqDiff, ↓reduceIte, Nat.reduceAdd, Nat.reduceSub])
  refine awP (op_assign rfl rfl) ?_
  refine AWL.nil ?_
  (refine hK _ ?_; clear hK K; (simp only [nA, Nat.reduceBEq, Nat.reduceEqDiff, ↓reduceIte, Nat.reduceAdd, Nat.reduceSub]))
  (refine AW.seq_k ?_; intro K hK)
  refine AW.region ?_
  refine awP (op_move rfl rfl) ?_
  (refine awP (op_neq rfl rfl rfl) ?_)
  refine AWL.nil ?_
  (refine hK _ ?_; clear hK K; (simp only [nA, Nat.reduceBEq, Nat.reduceEqDiff, ↓reduceIte, Nat.reduceAdd, Nat.reduceSub]))
  refine AW.cond rfl rfl rfl (fun hc => ?_) (fun hc => ?_)
  ·
   have hc1 := hc; have g1 : valH (onH nb nx ls) ≠ 0 := (by simpa using hc1)
   (refine AW.seq_k ?_; intro K hK)
   refine AW.region ?_
   refine awP (op_build2 (xs := [.v (.int .i64 0), .v (.int .i64 0), .v (.int .i64 0), .v (.bool false), .v (.slice none 0 0), .v (.slice none 0 0), .v (.slice none 0 0)]) rfl pl26 ze26 [] rfl rfl rfl) ?_
   refine awP (op_move rfl rfl) ?_
   refine awJ (op_store rfl rfl rfl rfl rfl rfl sz26 rfl (Nat.le_of_ble_eq_true rfl) rfl) ?_; (simp only [nA, Nat.reduceBEq, Nat.reduceEqDiff, ↓reduceIte, Nat.reduceAdd, Nat.reduceSub])
   refine awP (op_assign rfl rfl) ?_
   refine AWL.nil ?_
   (refine hK _ ?_; clear hK K; (simp only [nA, Nat.reduceBEq, Nat.reduceEqDiff, ↓reduceIte, Nat.reduceAdd, Nat.reduceSub]))
   refine AW.gh (Gh.cell0 (r := 1) (A := none) (c := 0) (row := [.v (.int .i64 0), .v (.int .i64 0), .v (.int .i64 0), .v (.bool false), .v (.slice none 0 0), .v (.slice none 0 0), .v (.slice none 0 0)]) 0 4 rfl rfl rfl (by decide) rfl) ?_; refine AW.gh (Gh.cell0 (r := 1) (A := none) (c := 0) (row := [.v (.int .i64 0), .v (.int .i64 0), .v (.int .i64 0), .v (.bool false), .ro [], .v (.slice none 0 0), .v (.slice none 0 0)]) 0 5 rfl rfl rfl (by decide) rfl) ?_; refine AW.gh (Gh.cell0 (r := 1) (A := none) (c := 0) (row := [.v (.int .i64 0), .v (.int .i64 0), .v (.int .i64 0), .v (.bool false), .ro [], .ro [], .v (.slice none 0 0)]) 0 6 rfl rfl rfl (by decide) rfl) ?_; (simp only [nA, Nat.reduceBEq, Nat.reduceEqDiff, ↓reduceIte, Nat.reduceAdd, Nat.reduceSub])
   refine AW.ret ?_; (simp only [thenE, inBlk, Nat.reduceEqDiff, ↓reduceIte]); rw [off_err (h := (onH nb nx ls)) (e := valH (onH nb nx ls)) (by unfold offE; rw [if_pos g1]) g1]; exact RQ.of0 rfl (.cell (Nat.le_of_ble_eq_true rfl) rfl rfl rfl ag26 sz26 (Nat.le_of_ble_eq_true rfl) rfl rfl (.tmp (Nat.le_of_ble_eq_true rfl) rfl rfl .nil))
  ·
   have hc1 := hc; have g1 : ¬ (valH (onH nb nx ls) ≠ 0) := (by simpa using hc1)
   refine AW.skip ?_
   (refine hK _ ?_; clear hK K; (skip))
   (refine AW.seq_k ?_; intro K hK)
   (refine AW.seq_k ?_; intro K hK)
   refine AW.region ?_
   (refine awP (op_fa_ptr rfl rfl rfl fl26_3 (by exact sz4) (by decide) rfl) ?_)
   (refine awR (op_load_ptr1 rfl rfl rfl rfl ag4 rfl rfl) ?_)
   refine AWL.nil ?_
   (refine hK _ ?_; clear hK K; (simp only [nA, Nat.reduceBEq, Nat.reduceEqDiff, ↓reduceIte, Nat.reduceAdd, Nat.reduceSub]))
   refine AW.cond rfl rfl rfl (fun hc => ?_) (fun hc => ?_)
   · (cases hc; done)
   ·
    have hc2 := hc; have g2 : ¬ (((onH nb nx ls)).offline = true) := (by intro h; cases h)
    refine AW.skip ?_
    (refine hK _ ?_; clear hK K; (skip))
    (refine AW.seq_k ?_; intro K hK)
    (refine AW.seq_k ?_; intro K hK)
    refine AW.region ?_
    refine awP (op_move rfl rfl) ?_
    refine awP (op_len_ro (n := g.length) rfl rfl Try.underlying22 (.inr (.inl ⟨_, rfl, by simp⟩))) ?_
    refine awP (op_gtr rfl rfl rfl) ?_
    refine AWL.nil ?_
    (refine hK _ ?_; clear hK K; (simp only [nA, Nat.reduceBEq, Nat.reduceEqDiff, ↓reduceIte, Nat.reduceAdd, Nat.reduceSub]))
    refine AW.cond rfl rfl rfl (fun hc => ?_) (fun hc => ?_)
    ·
     have hc3 := hc; have g3 : (g.length : Int) > 60 := (by simpa using hc3)
     (refine AW.seq_k ?_; intro K hK)
     refine AW.region ?_
     refine awP (op_build2 (xs := [.v (.int .i64 0), .v (.int .i64 0), .v (.int .i64 0), .v (.bool false), .v (.slice none 0 0), .v (.slice none 0 0), .v (.slice none 0 0)]) rfl pl26 ze26 [] rfl rfl rfl) ?_
     refine awJ (op_store rfl rfl rfl rfl rfl rfl sz26 rfl (Nat.le_of_ble_eq_true rfl) rfl) ?_; (simp only [nA, Nat.reduceBEq, Nat.reduceEqDiff, ↓reduceIte, Nat.reduceAdd, Nat.reduceSub])
     refine awP (op_assign rfl rfl) ?_
     refine AWL.nil ?_
     (refine hK _ ?_; clear hK K; (simp only [nA, Nat.reduceBEq, Nat.reduceEqDiff, ↓reduceIte, Nat.reduceAdd, Nat.reduceSub]))
     refine AW.gh (Gh.cell0 (r := 1) (A := none) (c := 0) (row := [.v (.int .i64 0), .v (.int .i64 0), .v (.int .i64 0), .v (.bool false), .v (.slice none 0 0), .v (.slice none 0 0), .v (.slice none 0 0)]) 0 4 rfl rfl rfl (by decide) rfl) ?_; refine AW.gh (Gh.cell0 (r := 1) (A := none) (c := 0) (row := [.v (.int .i64 0), .v (.int .i64 0), .v (.int .i64 0), .v (.bool false), .ro [], .v (.slice none 0 0), .v (.slice none 0 0)]) 0 5 rfl rfl rfl (by decide) rfl) ?_; refine AW.gh (Gh.cell0 (r := 1) (A := none) (c := 0) (row := [.v (.int .i64 0), .v (.int .i64 0), .v (.int .i64 0), .v (.bool false), .ro [], .ro [], .v (.slice none 0 0)]) 0 6 rfl rfl rfl (by decide) rfl) ?_; (simp only [nA, Nat.reduceBEq, Nat.reduceEqDiff, ↓reduceIte, Nat.reduceAdd, Nat.reduceSub])
     refine AW.ret ?_; (simp only [thenE, inBlk, Nat.reduceEqDiff, ↓reduceIte]); rw [off_err (h := (onH nb nx ls)) (e := 2) (by unfold offE; rw [if_neg g1, if_neg g2, if_pos g3]) (by decide)]; exact RQ.of0 rfl (.cell (Nat.le_of_ble_eq_true rfl) rfl rfl rfl ag26 sz26 (Nat.le_of_ble_eq_true rfl) rfl rfl (.tmp (Nat.le_of_ble_eq_true rfl) rfl rfl .nil))
    ·
     have hc3 := hc; have g3 : ¬ ((g.length : Int) > 60) := (by simpa using hc3)
     refine AW.skip ?_
     (refine hK _ ?_; clear hK K; (skip))
     (refine AW.seq_k ?_; intro K hK)
     (refine AW.seq_k ?_; intro K hK)
     refine AW.region ?_
     refine awP (op_assign rfl rfl) ?_
     refine AWL.nil ?_
     (refine hK _ ?_; clear hK K; (simp only [nA, Nat.reduceBEq, Nat.reduceEqDiff, ↓reduceIte, Nat.reduceAdd, Nat.reduceSub]))
     refine AW.block ?_
     refine AW.loopI (fun i => [(1, .ro (g.map Grant.av)), (2, .ro (c.map Container.av)), (3, .ptr 0 1 0 0), (6, .ptr 1 2 0 0), (9, .v (.int .i64 (i : Nat)))]) (fun i => ⟨[(1, .own 26 [onV nb nx ls]), (2, .own 26 [[.v (.int .i64 0), .v (.int .i64 0), .v (.int .i64 0), .v (.bool false), .v (.slice none 0 0), .v (.slice none 0 0), .v (.slice none 0 0)]])], 3⟩) (fun i => i ≤ g.length ∧ ∀ k, k < i → grErr g k = 0) (fun i => g.length - i) 0 (by simp) ⟨rfl, rfl, rfl, rfl, rfl, trivial⟩ rfl ?_; intro i ρ hi; simp only [updL]
     (refine AW.seq_k ?_; intro K hK)
     (refine AW.seq_k ?_; intro K hK)
     refine AW.region ?_
     refine awP (op_move rfl rfl) ?_
     refine awP (op_move rfl rfl) ?_
     refine awP (op_len_ro (n := g.length) rfl rfl Try.underlying22 (.inr (.inl ⟨_, rfl, by simp⟩))) ?_
     refine awP (op_lss rfl rfl rfl) ?_
     refine AWL.nil ?_
     (refine hK _ ?_; clear hK K; (simp only [nA, Nat.reduceBEq, Nat.reduceEqDiff, ↓reduceIte, Nat.reduceAdd, Nat.reduceSub]))
     refine AW.cond rfl rfl rfl (fun hc => ?_) (fun hc => ?_)
     ·
      have hc4 := hc; have hlt : i < g.length := (by simpa using hc4)
      refine AW.skip ?_
      (refine hK _ ?_; clear hK K; (skip))
      (refine AW.seq_k ?_; intro K hK)
      refine AW.block ?_
      (refine AW.seq_k ?_; intro K hK)
      (refine AW.seq_k ?_; intro K hK)
      refine AW.region ?_
      refine awP (op_move rfl rfl) ?_
      refine awP (op_move rfl rfl) ?_
      refine awP (op_ia_ro i rfl (.inl rfl) rfl Try.underlying22 rfl (get_mapD (by omega)) (by exact sz75) (Nat.le_of_ble_eq_true rfl)) ?_
      (refine awR (op_load_rop rfl rfl ag75 sz75 (Nat.le_of_ble_eq_true rfl) (by decide) rfl) ?_)
      refine awJ (OpQ.j (op_callQ (b := true) rfl en67 (C67 (g := g.getD i default)) (RL.cons (by exact View.same rfl) (RL.nil)) rfl)) ?_; (simp only [nA, Nat.reduceBEq, Nat.reduceEqDiff, ↓reduceIte, Nat.reduceAdd, Nat.reduceSub])
      refine awP (op_not rfl rfl rfl) ?_
      refine AWL.nil ?_
      (refine hK _ ?_; clear hK K; (simp only [nA, Nat.reduceBEq, Nat.reduceEqDiff, ↓reduceIte, Nat.reduceAdd, Nat.reduceSub]))
      refine AW.cond rfl rfl rfl (fun hc => ?_) (fun hc => ?_)
      ·
       have hc5 := hc; have e1 : grErr g i = 1 := (by unfold grErr; rw [if_pos (by simpa using hc5)])
       (refine AW.seq_k ?_; intro K hK)
       refine AW.region ?_
       refine awP (op_build2 (xs := [.v (.int .i64 0), .v (.int .i64 0), .v (.int .i64 0), .v (.bool false), .v (.slice none 0 0), .v (.slice none 0 0), .v (.slice none 0 0)]) rfl pl26 ze26 [] rfl rfl rfl) ?_
       refine awJ (op_store rfl rfl rfl rfl rfl rfl sz26 rfl (Nat.le_of_ble_eq_true rfl) rfl) ?_; (simp only [nA, Nat.reduceBEq, Nat.reduceEqDiff, ↓reduceIte, Nat.reduceAdd, Nat.reduceSub])
       refine awP (op_assign rfl rfl) ?_
       refine AWL.nil ?_
       (refine hK _ ?_; clear hK K; (simp only [nA, Nat.reduceBEq, Nat.reduceEqDiff, ↓reduceIte, Nat.reduceAdd, Nat.reduceSub]))
       refine AW.gh (Gh.cell0 (r := 1) (A := none) (c := 0) (row := [.v (.int .i64 0), .v (.int .i64 0), .v (.int .i64 0), .v (.bool false), .v (.slice none 0 0), .v (.slice none 0 0), .v (.slice none 0 0)]) 0 4 rfl rfl rfl (by decide) rfl) ?_; refine AW.gh (Gh.cell0 (r := 1) (A := none) (c := 0) (row := [.v (.int .i64 0), .v (.int .i64 0), .v (.int .i64 0), .v (.bool false), .ro [], .v (.slice none 0 0), .v (.slice none 0 0)]) 0 5 rfl rfl rfl (by decide) rfl) ?_; refine AW.gh (Gh.cell0 (r := 1) (A := none) (c := 0) (row := [.v (.int .i64 0), .v (.int .i64 0), .v (.int .i64 0), .v (.bool false), .ro [], .ro [], .v (.slice none 0 0)]) 0 6 rfl rfl rfl (by decide) rfl) ?_; (simp only [nA, Nat.reduceBEq, Nat.reduceEqDiff, ↓reduceIte, Nat.reduceAdd, Nat.reduceSub])
       refine AW.ret ?_; (simp only [thenE, inBlk, Nat.reduceEqDiff, ↓reduceIte]); rw [off_err (h := (onH nb nx ls)) (e := 1) (by unfold offE; rw [if_neg g1, if_neg g2, if_neg g3, grsE_at hlt hi.2 e1 (by decide), if_pos (by decide)]) (by decide)]; exact RQ.of0 rfl (.cell (Nat.le_of_ble_eq_true rfl) rfl rfl rfl ag26 sz26 (Nat.le_of_ble_eq_true rfl) rfl rfl (.tmp (Nat.le_of_ble_eq_true rfl) rfl rfl .nil))
      ·
       have hc5 := hc; have e5 : ¬ grB (g.getD i default) = false := (by simpa using hc5)
       refine AW.skip ?_
       (refine hK _ ?_; clear hK K; (skip))
       (refine AW.seq_k ?_; intro K hK)
       refine AW.quiet mix (by kernel_rfl) ?_
       refine aqP (op_move rfl rfl) ?_
       refine aqP (op_gtr rfl rfl rfl) ?_
       refine aqP (op_move rfl rfl) ?_
       refine' aqAnd' [_, _, _, _, _, _, _, _, _, _, _, _, _, _, _] [42,43,44,45,46,47,48,49,50,51,52,53,54,55,56] rfl rfl rfl rfl rfl rfl rfl rfl rfl rfl rfl rfl (fun hb => ?_) ?_; rotate_left
       ·
        (try simp only [hcS] at hb)
        refine aqP (op_move rfl rfl) ?_
        refine aqP (op_move rfl rfl) ?_
        (refine aqP (op_subi rfl rfl rfl (by omega)) ?_)
        refine aqP (op_ia_ro (i - 1) rfl (.inl rfl) rfl Try.underlying22 (by simp at hb; omega) (get_mapD (by omega)) (by exact sz75) (Nat.le_of_ble_eq_true rfl)) ?_
        (refine aqP (op_fa_rop rfl rfl fl75_0 (by exact sz31) (by decide) (Nat.le_of_ble_eq_true rfl) rfl) ?_)
        (refine aqP (op_fa_rop rfl rfl fl31_0 (by exact sz29) (by decide) (Nat.le_of_ble_eq_true rfl) rfl) ?_)
        (refine aqR (op_load_rop rfl rfl ag29 sz29 (Nat.le_of_ble_eq_true rfl) (by decide) rfl) ?_)
        refine aqP (op_move rfl rfl) ?_
        refine aqP (op_move rfl rfl) ?_
        refine aqP (op_ia_ro i rfl (.inl rfl) rfl Try.underlying22 rfl (get_mapD (by omega)) (by exact sz75) (Nat.le_of_ble_eq_true rfl)) ?_
        (refine aqP (op_fa_rop rfl rfl fl75_0 (by exact sz31) (by decide) (Nat.le_of_ble_eq_true rfl) rfl) ?_)
        (refine aqP (op_fa_rop rfl rfl fl31_0 (by exact sz29) (by decide) (Nat.le_of_ble_eq_true rfl) rfl) ?_)
        (refine aqR (op_load_rop rfl rfl ag29 sz29 (Nat.le_of_ble_eq_true rfl) (by decide) rfl) ?_)
        refine aqQ (op_callQ (b := true) rfl en68 (C68 (p := (g.getD (i - 1) default).piece.plate) (q := (g.getD i default).piece.plate)) (RL.cons (by exact View.same rfl) (RL.cons (by exact View.same rfl) (RL.nil))) rfl) ?_; (simp only [nA, Nat.reduceBEq, Nat.reduceEqDiff, ↓reduceIte, Nat.reduceAdd, Nat.reduceSub])
        refine aqP (op_geq rfl rfl rfl) ?_
        (refine aqSeg rfl rfl rfl ?_; repeat (first | exact fun _ _ => rfl | refine upd_out rfl ?_))
       (simp only [nA, Nat.reduceBEq, Nat.reduceEqDiff, ↓reduceIte, Nat.reduceAdd, Nat.reduceSub])
       refine AQ.nil ?_
       (refine hK _ ?_; clear hK K; (skip))
       refine AW.cond rfl rfl rfl (fun hc => ?_) (fun hc => ?_)
       ·
        have hc6 := hc; have e1 : grErr g i = 9 := (by unfold grErr; rw [if_neg e5, if_pos hc6])
        (refine AW.seq_k ?_; intro K hK)
        refine AW.region ?_
        refine awP (op_build2 (xs := [.v (.int .i64 0), .v (.int .i64 0), .v (.int .i64 0), .v (.bool false), .v (.slice none 0 0), .v (.slice none 0 0), .v (.slice none 0 0)]) rfl pl26 ze26 [] rfl rfl rfl) ?_
        refine awJ (op_store rfl rfl rfl rfl rfl rfl sz26 rfl (Nat.le_of_ble_eq_true rfl) rfl) ?_; (simp only [nA, Nat.reduceBEq, Nat.reduceEqDiff, ↓reduceIte, Nat.reduceAdd, Nat.reduceSub])
        refine awP (op_assign rfl rfl) ?_
        refine AWL.nil ?_
        (refine hK _ ?_; clear hK K; (simp only [nA, Nat.reduceBEq, Nat.reduceEqDiff, ↓reduceIte, Nat.reduceAdd, Nat.reduceSub]))
        refine AW.gh (Gh.cell0 (r := 1) (A := none) (c := 0) (row := [.v (.int .i64 0), .v (.int .i64 0), .v (.int .i64 0), .v (.bool false), .v (.slice none 0 0), .v (.slice none 0 0), .v (.slice none 0 0)]) 0 4 rfl rfl rfl (by decide) rfl) ?_; refine AW.gh (Gh.cell0 (r := 1) (A := none) (c := 0) (row := [.v (.int .i64 0), .v (.int .i64 0), .v (.int .i64 0), .v (.bool false), .ro [], .v (.slice none 0 0), .v (.slice none 0 0)]) 0 5 rfl rfl rfl (by decide) rfl) ?_; refine AW.gh (Gh.cell0 (r := 1) (A := none) (c := 0) (row := [.v (.int .i64 0), .v (.int .i64 0), .v (.int .i64 0), .v (.bool false), .ro [], .ro [], .v (.slice none 0 0)]) 0 6 rfl rfl rfl (by decide) rfl) ?_; (simp only [nA, Nat.reduceBEq, Nat.reduceEqDiff, ↓reduceIte, Nat.reduceAdd, Nat.reduceSub])
        refine AW.ret ?_; (simp only [thenE, inBlk, Nat.reduceEqDiff, ↓reduceIte]); rw [off_err (h := (onH nb nx ls)) (e := 9) (by unfold offE; rw [if_neg g1, if_neg g2, if_neg g3, grsE_at hlt hi.2 e1 (by decide), if_pos (by decide)]) (by decide)]; exact RQ.of0 rfl (.cell (Nat.le_of_ble_eq_true rfl) rfl rfl rfl ag26 sz26 (Nat.le_of_ble_eq_true rfl) rfl rfl (.tmp (Nat.le_of_ble_eq_true rfl) rfl rfl .nil))
       ·
        have hc6 := hc; have e1 : grErr g i = 0 := (by unfold grErr; rw [if_neg e5, if_neg (by rw [show (decide ((i : Int) > 0) && decide (cmpP (g.getD (i - 1) default).piece.plate (g.getD i default).piece.plate ≥ 0)) = false from hc6]; decide)])
        refine AW.skip ?_
        (simp only [thenE, inBlk, Nat.reduceEqDiff, ↓reduceIte])
        (refine hK _ ?_; clear hK K; (skip))
        refine AW.region ?_
        refine awP (op_move rfl rfl) ?_
        (refine awP (op_addi rfl rfl rfl (by omega)) ?_)
        refine awP (op_assign rfl rfl) ?_
        skip
        refine AWL.nil ?_
        refine ⟨i + 1, ⟨by omega, all_step hi.2 e1⟩, by omega, ⟨rfl, rfl, rfl, rfl, rfl, trivial⟩, (by rfl), (by rfl)⟩
     ·
      have hc4 := hc; have hnl : ¬ i < g.length := (by simpa using hc4); have g4 : ¬ (grsE g ≠ 0) := (by rw [grsE_ok hnl hi.2]; decide)
      refine AW.exit ?_; (simp only [thenE, inBlk, Nat.reduceEqDiff, ↓reduceIte])
      clear hK K
      (refine hK _ ?_; clear hK K; (skip))
      (refine AW.seq_k ?_; intro K hK)
      (refine AW.seq_k ?_; intro K hK)
      refine AW.region ?_
      refine awP (op_move rfl rfl) ?_
      refine awJ (OpQ.j (op_callQ (b := true) rfl en52 (C52 (xs := c) (by omega) hcp) (RL.cons (by exact View.same rfl) (RL.nil)) rfl)) ?_; (simp only [nA, Nat.reduceBEq, Nat.reduceEqDiff, ↓reduceIte, Nat.reduceAdd, Nat.reduceSub])
      refine awP (op_assign rfl rfl) ?_
      refine AWL.nil ?_
      (refine hK _ ?_; clear hK K; (simp only [nA, Nat.reduceBEq, Nat.reduceEqDiff, ↓reduceIte, Nat.reduceAdd, Nat.reduceSub]))
      (refine AW.seq_k ?_; intro K hK)
      refine AW.region ?_
      refine awP (op_move rfl rfl) ?_
      (refine awP (op_neq rfl rfl rfl) ?_)
      refine AWL.nil ?_
      (refine hK _ ?_; clear hK K; (simp only [nA, Nat.reduceBEq, Nat.reduceEqDiff, ↓reduceIte, Nat.reduceAdd, Nat.reduceSub]))
      refine AW.cond rfl rfl rfl (fun hc => ?_) (fun hc => ?_)
      ·
       have hc7 := hc; have g5 : chkL c ≠ 0 := (by simpa using hc7)
       (refine AW.seq_k ?_; intro K hK)
       refine AW.region ?_
       refine awP (op_build2 (xs := [.v (.int .i64 0), .v (.int .i64 0), .v (.int .i64 0), .v (.bool false), .v (.slice none 0 0), .v (.slice none 0 0), .v (.slice none 0 0)]) rfl pl26 ze26 [] rfl rfl rfl) ?_
       refine awP (op_move rfl rfl) ?_
       refine awJ (op_store rfl rfl rfl rfl rfl rfl sz26 rfl (Nat.le_of_ble_eq_true rfl) rfl) ?_; (simp only [nA, Nat.reduceBEq, Nat.reduceEqDiff, ↓reduceIte, Nat.reduceAdd, Nat.reduceSub])
       refine awP (op_assign rfl rfl) ?_
       refine AWL.nil ?_
       (refine hK _ ?_; clear hK K; (simp only [nA, Nat.reduceBEq, Nat.reduceEqDiff, ↓reduceIte, Nat.reduceAdd, Nat.reduceSub]))
       refine AW.gh (Gh.cell0 (r := 1) (A := none) (c := 0) (row := [.v (.int .i64 0), .v (.int .i64 0), .v (.int .i64 0), .v (.bool false), .v (.slice none 0 0), .v (.slice none 0 0), .v (.slice none 0 0)]) 0 4 rfl rfl rfl (by decide) rfl) ?_; refine AW.gh (Gh.cell0 (r := 1) (A := none) (c := 0) (row := [.v (.int .i64 0), .v (.int .i64 0), .v (.int .i64 0), .v (.bool false), .ro [], .v (.slice none 0 0), .v (.slice none 0 0)]) 0 5 rfl rfl rfl (by decide) rfl) ?_; refine AW.gh (Gh.cell0 (r := 1) (A := none) (c := 0) (row := [.v (.int .i64 0), .v (.int .i64 0), .v (.int .i64 0), .v (.bool false), .ro [], .ro [], .v (.slice none 0 0)]) 0 6 rfl rfl rfl (by decide) rfl) ?_; (simp only [nA, Nat.reduceBEq, Nat.reduceEqDiff, ↓reduceIte, Nat.reduceAdd, Nat.reduceSub])
       refine AW.ret ?_; (simp only [thenE, inBlk, Nat.reduceEqDiff, ↓reduceIte]); rw [off_err (h := (onH nb nx ls)) (e := chkL c) (by unfold offE; rw [if_neg g1, if_neg g2, if_neg g3, if_neg g4]) g5]; exact RQ.of0 rfl (.cell (Nat.le_of_ble_eq_true rfl) rfl rfl rfl ag26 sz26 (Nat.le_of_ble_eq_true rfl) rfl rfl (.tmp (Nat.le_of_ble_eq_true rfl) rfl rfl .nil))
      ·
       have hc7 := hc; have g5 : chkL c = 0 := (by simpa using hc7)
       refine AW.skip ?_
       (refine hK _ ?_; clear hK K; (skip))
       (refine AW.seq_k ?_; intro K hK)
       refine AW.region ?_
       refine awJ (op_lit0 rfl Try.underlying22 sz75) ?_; (simp only [nA, Nat.reduceBEq, Nat.reduceEqDiff, ↓reduceIte, Nat.reduceAdd, Nat.reduceSub])
       refine awP (op_move rfl rfl) ?_
       refine awJ (op_app_rof (es := []) (rows := g.map Grant.av) rfl rfl rfl .ro Try.underlying22 ze75 (by decide) (by simp) (gav_len _) (by simp; omega) (by decide) (List.nil_append _)) ?_; (simp only [nA, Nat.reduceBEq, Nat.reduceEqDiff, ↓reduceIte, Nat.reduceAdd, Nat.reduceSub])
       (refine awP (op_fa_ptr rfl rfl rfl fl26_3 (by exact sz4) (by decide) rfl) ?_)
       refine awJ (op_store rfl rfl rfl rfl rfl rfl sz4 rfl (Nat.le_of_ble_eq_true rfl) rfl) ?_; (simp only [nA, Nat.reduceBEq, Nat.reduceEqDiff, ↓reduceIte, Nat.reduceAdd, Nat.reduceSub])
       (refine awP (op_fa_ptr rfl rfl rfl fl26_4 (by exact sz22) (by decide) rfl) ?_)
       refine awJ (op_store rfl rfl rfl rfl rfl rfl sz22 rfl (Nat.le_of_ble_eq_true rfl) rfl) ?_; (simp only [nA, Nat.reduceBEq, Nat.reduceEqDiff, ↓reduceIte, Nat.reduceAdd, Nat.reduceSub])
       refine AWL.nil ?_
       (refine hK _ ?_; clear hK K; (skip))
       (refine AW.seq_k ?_; intro K hK)
       (refine AW.seq_k ?_; intro K hK)
       refine AW.region ?_
       refine awP (op_assign rfl rfl) ?_
       refine AWL.nil ?_
       (refine hK _ ?_; clear hK K; (simp only [nA, Nat.reduceBEq, Nat.reduceEqDiff, ↓reduceIte, Nat.reduceAdd, Nat.reduceSub]))
       refine AW.block ?_
       refine AW.gh (Gh.slot2 (r := 0) (es' := [rowO nb nx ls g (.own 77 [])]) rfl rfl (rowO_le nb nx ls g)) ?_; (simp only [nA, Nat.reduceBEq, Nat.reduceEqDiff, ↓reduceIte, Nat.reduceAdd, Nat.reduceSub]); refine AW.loopI (fun (q : Nat × Nat) => [(2, .ro (c.map Container.av)), (3, .ptr 0 1 0 0), (6, .ptr 1 2 0 0), (11, .v (.int .i64 (q.1 : Nat)))]) (fun q => ⟨[(1, .own 26 [rowO nb nx ls g (.own 77 (((c.take q.1).map bareC).map Container.av))]), (2, .own 26 [[.v (.int .i64 0), .v (.int .i64 0), .v (.int .i64 0), .v (.bool false), .v (.slice none 0 0), .v (.slice none 0 0), .v (.slice none 0 0)]])], q.2⟩) (fun q => q.1 ≤ c.length) (fun q => c.length - q.1) (0, 3) (by simp) ⟨rfl, rfl, rfl, rfl, trivial⟩ rfl ?_; rintro ⟨i, ep⟩ ρ hj; dsimp only at hj ⊢; simp only [updL]
       (refine AW.seq_k ?_; intro K hK)
       (refine AW.seq_k ?_; intro K hK)
       refine AW.region ?_
       refine awP (op_move rfl rfl) ?_
       refine awP (op_move rfl rfl) ?_
       refine awP (op_len_ro (n := c.length) rfl rfl Try.underlying23 (.inr (.inl ⟨_, rfl, by simp⟩))) ?_
       refine awP (op_lss rfl rfl rfl) ?_
       refine AWL.nil ?_
       (refine hK _ ?_; clear hK K; (simp only [nA, Nat.reduceBEq, Nat.reduceEqDiff, ↓reduceIte, Nat.reduceAdd, Nat.reduceSub]))
       refine AW.cond rfl rfl rfl (fun hc => ?_) (fun hc => ?_)
       ·
        have hc8 := hc; have hlt : i < c.length := (by simpa using hc8)
        refine AW.skip ?_
        (refine hK _ ?_; clear hK K; (skip))
        (refine AW.seq_k ?_; intro K hK)
        refine AW.block ?_
        (refine AW.seq_k ?_; intro K hK)
        refine AW.region ?_
        refine awP (op_move rfl rfl) ?_
        refine awP (op_move rfl rfl) ?_
        refine awP (op_ia_ro i rfl (.inl rfl) rfl Try.underlying23 rfl (get_mapD (by omega)) (by exact sz77) (Nat.le_of_ble_eq_true rfl)) ?_
        (refine awR (op_load_rop rfl rfl ag77 sz77 (Nat.le_of_ble_eq_true rfl) (by decide) rfl) ?_)
        refine awJ (op_alloc rfl ze77 rfl) ?_; (simp only [nA, Nat.reduceBEq, Nat.reduceEqDiff, ↓reduceIte, Nat.reduceAdd, Nat.reduceSub])
        refine awJ (op_store rfl rfl rfl rfl rfl rfl sz77 rfl (Nat.le_of_ble_eq_true rfl) rfl) ?_; (simp only [nA, Nat.reduceBEq, Nat.reduceEqDiff, ↓reduceIte, Nat.reduceAdd, Nat.reduceSub])
        refine AWL.nil ?_
        (refine hK _ ?_; clear hK K; (skip))
        (refine AW.seq_k ?_; intro K hK)
        refine AW.region ?_
        (refine awP (op_fa_ptr rfl rfl rfl fl77_7 (by exact sz53) (by decide) rfl) ?_)
        refine awJ (op_store rfl rfl rfl rfl rfl rfl sz53 rfl (Nat.le_of_ble_eq_true rfl) rfl) ?_; (simp only [nA, Nat.reduceBEq, Nat.reduceEqDiff, ↓reduceIte, Nat.reduceAdd, Nat.reduceSub]); refine AWL.gh (Gh.cell0 (r := 2) (A := none) (c := 0) (row := nilC (c.getD i default)) 0 10 rfl rfl rfl (by decide) rfl) ?_; (simp only [nA, Nat.reduceBEq, Nat.reduceEqDiff, ↓reduceIte, Nat.reduceAdd, Nat.reduceSub])
        refine AWL.nil ?_
        (refine hK _ ?_; clear hK K; (skip))
        refine AW.region ?_
        (refine awP (op_fa_ptr rfl rfl rfl fl26_5 (by exact sz23) (by decide) rfl) ?_)
        refine awJ (op_load_nest rfl rfl rfl rfl ag23 rfl rfl) ?_; (simp only [nA, Nat.reduceBEq, Nat.reduceEqDiff, ↓reduceIte, Nat.reduceAdd, Nat.reduceSub])
        (refine awR (op_load_ptr rfl rfl rfl rfl ag77 sz77 (Nat.le_of_ble_eq_true rfl) rfl) ?_)
        refine awJ (OpJ.frz (op_buildSlice rfl [(0, ((bareC (c.getD i default))).av)] [((bareC (c.getD i default))).av] Try.underlying23 ze77 rfl (by simp) rfl (by simp) rfl (Nat.le_of_ble_eq_true rfl) (by simp [maxLen])) (conv_flat [(bareC (c.getD i default))]) rfl) ?_; (simp only [nA, Nat.reduceBEq, Nat.reduceEqDiff, ↓reduceIte, Nat.reduceAdd, Nat.reduceSub])
        refine awJ (op_app (r := 3) (rows := [((bareC (c.getD i default))).av]) rfl rfl rfl rfl (by simp) .ro Try.underlying23 ze77 (by decide) (conv_len [(bareC (c.getD i default))]) (by simp; omega) (by decide) (bare_take hlt) (n := i + 1) (by simp; omega)) ?_; (simp only [nA, Nat.reduceBEq, Nat.reduceEqDiff, ↓reduceIte, Nat.reduceAdd, Nat.reduceSub])
        (refine awP (op_fa_ptr rfl rfl rfl fl26_5 (by exact sz23) (by decide) rfl) ?_)
        refine awJ (op_store_nest (r := 0) (q := 3) rfl rfl rfl rfl (row := rowO nb nx ls g (.sln (c.take i).length)) rfl sz23 rfl (by decide) (by simp; omega) (by simp) rfl) ?_; (simp only [nA, Nat.reduceBEq, Nat.reduceEqDiff, ↓reduceIte, Nat.reduceAdd, Nat.reduceSub])
        refine AWL.nil ?_
        (simp only [thenE, inBlk, Nat.reduceEqDiff, ↓reduceIte])
        (refine hK _ ?_; clear hK K; (skip))
        refine AW.region ?_
        refine awP (op_move rfl rfl) ?_
        (refine awP (op_addi rfl rfl rfl (by omega)) ?_)
        refine awP (op_assign rfl rfl) ?_
        refine AWL.gh (Gh.drop 2) ?_; (simp only [nA, Nat.reduceBEq, Nat.reduceEqDiff, ↓reduceIte, Nat.reduceAdd, Nat.reduceSub])
        refine AWL.nil ?_
        refine ⟨(i + 1, _), by dsimp only; omega, by dsimp only; omega, ⟨rfl, rfl, rfl, rfl, trivial⟩, (by rfl), (by rfl)⟩
       ·
        have hc8 := hc; have hnl : ¬ i < c.length := (by simpa using hc8); obtain rfl : i = c.length := (by omega)
        refine AW.exit ?_; (simp only [thenE, inBlk, Nat.reduceEqDiff, ↓reduceIte])
        clear hK K
        (refine hK _ ?_; clear hK K; (skip))
        (refine AW.seq_k ?_; intro K hK)
        refine AW.region ?_
        refine AWL.gh (Gh.cell0 (r := 0) (A := none) (c := 0) (row := rowO nb nx ls g (.own 77 (((c.take c.length).map bareC).map Container.av))) 0 6 rfl rfl rfl (by decide) rfl) ?_; (simp only [nA, Nat.reduceBEq, Nat.reduceEqDiff, ↓reduceIte, Nat.reduceAdd, Nat.reduceSub]); refine AWL.gh (Gh.freezeC (r := 0) (row := (rowO nb nx ls g (.own 77 (((c.take c.length).map bareC).map Container.av))).set 6 (.ro [])) 0 5 rfl rfl rfl (conv_flat _) rfl) ?_; simp only [List.take_length]; (simp only [nA, Nat.reduceBEq, Nat.reduceEqDiff, ↓reduceIte, Nat.reduceAdd, Nat.reduceSub]); refine awR (op_load_ptr rfl rfl rfl rfl ag26 sz26 (Nat.le_of_ble_eq_true rfl) rfl) ?_; (simp only [nA, Nat.reduceBEq, Nat.reduceEqDiff, ↓reduceIte, Nat.reduceAdd, Nat.reduceSub])
        refine awJ (op_store rfl rfl rfl rfl rfl rfl sz26 rfl (Nat.le_of_ble_eq_true rfl) rfl) ?_; (simp only [nA, Nat.reduceBEq, Nat.reduceEqDiff, ↓reduceIte, Nat.reduceAdd, Nat.reduceSub])
        refine awP (op_assign rfl rfl) ?_
        refine AWL.nil ?_
        (refine hK _ ?_; clear hK K; (simp only [nA, Nat.reduceBEq, Nat.reduceEqDiff, ↓reduceIte, Nat.reduceAdd, Nat.reduceSub]))
        skip
        refine AW.ret ?_; rw [off_ok (h := (onH nb nx ls)) (by unfold offE; rw [if_neg g1, if_neg g2, if_neg g3, if_neg g4, g5])]; exact RQ.of0 rfl (.cell (Nat.le_of_ble_eq_true rfl) rfl rfl rfl ag26 sz26 (Nat.le_of_ble_eq_true rfl) rfl rfl (.tmp (Nat.le_of_ble_eq_true rfl) rfl rfl .nil))
end Go.Proofs.Ytdnofpggdddimaa
namespace Go.Proofs.Ytdnofpggdddimaa
open Go.RowKit
set_option linter.unusedSimpArgs false
set_option linter.unusedVariables false
set_option maxRecDepth 100000
def onlR (h : Hand) : Hand × List Op × Int := if valH h ≠ 0 then (zeroH, [], valH h) else if h.offline = true then (onH h.number h.next h.last, h.log, 0) else (zeroH, [], 7)
def newL (n : Int) : List Hand := if inB n 0 6 then (List.range n.toNat).map (fun (k : Nat) => onH ((k : Int) + 1) 1 0) else []
def newE (n : Int) : Int := if inB n 0 6 then 0 else 1
theorem new_no {n : Int} (h : inB n 0 6 = false) : newL n = [] ∧ newE n = 1 := by unfold newL newE; rw [h]; exact ⟨rfl, rfl⟩
theorem new_yes {m : Nat} (h : inB (m : Int) 0 6 = true) : newL m = (List.range m).map (fun (k : Nat) => onH ((k : Int) + 1) 1 0) ∧ newE m = 0 := by unfold newL newE; rw [h]; exact ⟨rfl, rfl⟩
abbrev newV (m : Nat) : List (List AV) := (List.range m).map fun (k : Nat) => onV ((k : Int) + 1) 1 0
theorem newV_succ (m : Nat) : newV m ++ [onV ((m : Int) + 1) 1 0] = newV (m + 1) := by unfold newV; rw [List.range_succ, List.map_append]; rfl
theorem hav_flat (l : List Hand) : ∀ r ∈ l.map Hand.av, ∀ c ∈ r, flatA c = true := fun r hr c hc => by
  obtain ⟨g, _, rfl⟩ := List.mem_map.1 hr
  simp only [Hand.av, List.mem_cons, List.not_mem_nil, or_false] at hc
  rcases hc with rfl | rfl | rfl | rfl | rfl | rfl | rfl <;> rfl
theorem on_le (a b c : Int) : RL (Le2 Try.prog) (onV a b c) (onH a b c).av := RL.cons .same (RL.cons .same (RL.cons .same (RL.cons .same (RL.cons .nil (RL.cons .nil (RL.cons .nil RL.nil))))))
theorem newV_le : ∀ l : List Nat, RL (Le2 Try.prog) (l.map fun (k : Nat) => onV ((k : Int) + 1) 1 0).flatten ((l.map fun (k : Nat) => onH ((k : Int) + 1) 1 0).map Hand.av).flatten
  | [] => RL.nil
  | k :: l => by
    rw [List.map_cons, List.map_cons, List.map_cons, List.flatten_cons, List.flatten_cons]
    exact RL.append (on_le _ _ _) (newV_le l)
theorem C13 {n : Int} : Fn Try.prog 13 [] [.v (.int .i64 n)] [.ro ((newL n).map Hand.av), .v (.int .i64 (newE n))] [] := by
  refine Spec.body Try.func13 rfl Try.ntmps13 (by simp) rfl ?_; intro S0 own0 v0 w0
  (refine AW.seq_k ?_; intro K hK)
  refine AW.region ?_
  refine awP (op_assign rfl rfl) ?_
  refine awP (op_assign rfl rfl) ?_
  refine AWL.nil ?_
  (refine hK _ ?_; clear hK K; (simp only [nA, Nat.reduceBEq, Nat.reduceEqDiff, ↓reduceIte, Nat.reduceAdd, Nat.reduceSub]))
  (refine AW.seq_k ?_; intro K hK)
  (refine AW.seq_k ?_; intro K hK)
  refine AW.region ?_
  refine awP (op_move rfl rfl) ?_
  refine awJ (OpQ.j (op_callQ (b := true) rfl en43 (C43) (RL.cons (by exact View.same rfl) (RL.cons (by exact View.same rfl) (RL.cons (by exact View.same rfl) (RL.nil)))) rfl)) ?_; (simp only [nA, Nat.reduceBEq, Nat.reduceEqDiff, ↓reduceIte, Nat.reduceAdd, Nat.reduceSub])
  refine awP (op_not rfl rfl rfl) ?_
  refine AWL.nil ?_
  (refine hK _ ?_; clear hK K; (simp only [nA, Nat.reduceBEq, Nat.reduceEqDiff, ↓reduceIte, Nat.reduceAdd, Nat.reduceSub]))
  refine AW.cond rfl rfl rfl (fun hc => ?_) (fun hc => ?_)
  ·
   have hc1 := hc; have g1 : inB n 0 6 = false := (by simpa using hc1)
   (refine AW.seq_k ?_; intro K hK)
   refine AW.region ?_
   refine awP (op_assign rfl rfl) ?_
   refine awP (op_assign rfl rfl) ?_
   refine AWL.nil ?_
   (refine hK _ ?_; clear hK K; (simp only [nA, Nat.reduceBEq, Nat.reduceEqDiff, ↓reduceIte, Nat.reduceAdd, Nat.reduceSub]))
   refine AW.gh (Gh.nil (e := 26) 2 (Nat.le_of_ble_eq_true rfl) rfl sz26) ?_; (simp only [nA, Nat.reduceBEq, Nat.reduceEqDiff, ↓reduceIte, Nat.reduceAdd, Nat.reduceSub]); refine AW.gh (Gh.freeze 2 (Nat.le_of_ble_eq_true rfl) rfl rfl (by simp) (es' := ([] : List Hand).map Hand.av) rfl) ?_; (simp only [nA, Nat.reduceBEq, Nat.reduceEqDiff, ↓reduceIte, Nat.reduceAdd, Nat.reduceSub])
   refine AW.ret ?_; (simp only [thenE, inBlk, Nat.reduceEqDiff, ↓reduceIte]); rw [(new_no g1).1, (new_no g1).2]; exact RQ.of0 rfl (.tmp (Nat.le_of_ble_eq_true rfl) rfl rfl (.tmp (Nat.le_of_ble_eq_true rfl) rfl rfl .nil))
  ·
   have hc1 := hc; have g1 : inB n 0 6 = true := (by simpa using hc1); obtain ⟨m, rfl⟩ : ∃ m : Nat, n = m := (by have h := g1; unfold inB at h; simp at h; exact ⟨n.toNat, by omega⟩); have hm6 : m ≤ 6 := (by have h := g1; unfold inB at h; simp at h; omega)
   refine AW.skip ?_
   (refine hK _ ?_; clear hK K; (skip))
   (refine AW.seq_k ?_; intro K hK)
   refine AW.region ?_
   refine awP (op_assign rfl rfl) ?_
   refine AWL.nil ?_
   (refine hK _ ?_; clear hK K; (simp only [nA, Nat.reduceBEq, Nat.reduceEqDiff, ↓reduceIte, Nat.reduceAdd, Nat.reduceSub]))
   (refine AW.seq_k ?_; intro K hK)
   (refine AW.seq_k ?_; intro K hK)
   refine AW.region ?_
   refine awP (op_move rfl rfl) ?_
   refine awP (op_move rfl rfl) ?_
   refine AWL.nil ?_
   (refine hK _ ?_; clear hK K; (simp only [nA, Nat.reduceBEq, Nat.reduceEqDiff, ↓reduceIte, Nat.reduceAdd, Nat.reduceSub]))
   refine AW.block ?_
   refine AW.gh (Gh.nil (e := 26) 4 (Nat.le_of_ble_eq_true rfl) rfl sz26) ?_; (simp only [nA, Nat.reduceBEq, Nat.reduceEqDiff, ↓reduceIte, Nat.reduceAdd, Nat.reduceSub]); refine AW.loopI (fun (q : Nat × Nat × Nat) => [(4, .sl 0 q.2.1 0 q.1), (9, .v (.int .i64 (m : Nat))), (10, .v (.int .i64 (q.1 : Nat)))]) (fun q => ⟨[(q.2.1, .own 26 (newV q.1))], q.2.2⟩) (fun q => q.1 ≤ m) (fun q => m - q.1) (0, _, _) (by simp) ⟨rfl, rfl, rfl, trivial⟩ rfl ?_; rintro ⟨i, v, ep⟩ ρ hj; dsimp only at hj ⊢; simp only [updL]
   (refine AW.seq_k ?_; intro K hK)
   refine AW.region ?_
   refine awP (op_lss rfl rfl rfl) ?_
   refine AWL.nil ?_
   (refine hK _ ?_; clear hK K; (simp only [nA, Nat.reduceBEq, Nat.reduceEqDiff, ↓reduceIte, Nat.reduceAdd, Nat.reduceSub]))
   (refine AW.seq_k ?_; intro K hK)
   refine AW.cond rfl rfl rfl (fun hc => ?_) (fun hc => ?_)
   ·
    have hc2 := hc; have hlt : i < m := (by simpa using hc2)
    refine AW.skip ?_
    (refine hK _ ?_; clear hK K; (skip))
    (refine AW.seq_k ?_; intro K hK)
    refine AW.block ?_
    (refine AW.seq_k ?_; intro K hK)
    refine AW.region ?_
    refine awP (op_move rfl rfl) ?_
    refine awP (op_assign rfl rfl) ?_
    refine AWL.nil ?_
    (refine hK _ ?_; clear hK K; (simp only [nA, Nat.reduceBEq, Nat.reduceEqDiff, ↓reduceIte, Nat.reduceAdd, Nat.reduceSub]))
    refine AW.region ?_
    refine awP (op_move rfl rfl) ?_
    refine awP (op_move rfl rfl) ?_
    (refine awP (op_addi rfl rfl rfl (by omega)) ?_)
    refine awP (op_build2 (xs := [_, _, .v (.int .i64 0), .v (.bool false), .v (.slice none 0 0), .v (.slice none 0 0), .v (.slice none 0 0)]) rfl pl26 ze26 [(0, [_]), (1, [_])] rfl rfl rfl) ?_
    refine awJ (OpJ.frz (op_buildSlice rfl [(0, onV ((i : Int) + 1) 1 0)] [onV ((i : Int) + 1) 1 0] Try.underlying38 ze26 rfl (by simp) rfl (by simp) rfl (Nat.le_of_ble_eq_true rfl) (by simp [maxLen])) (by simp [flatA]) rfl) ?_; (simp only [nA, Nat.reduceBEq, Nat.reduceEqDiff, ↓reduceIte, Nat.reduceAdd, Nat.reduceSub])
    refine awJ (op_app (r := 0) (rows := [onV ((i : Int) + 1) 1 0]) rfl rfl rfl rfl (by simp) .ro Try.underlying38 ze26 (by decide) (by simp) (by simp; omega) (by decide) (newV_succ i) (n := i + 1) (by simp)) ?_; (simp only [nA, Nat.reduceBEq, Nat.reduceEqDiff, ↓reduceIte, Nat.reduceAdd, Nat.reduceSub])
    refine awP (op_assign rfl rfl) ?_
    refine AWL.nil ?_
    (simp only [thenE, inBlk, Nat.reduceEqDiff, ↓reduceIte])
    (refine hK _ ?_; clear hK K; (simp only [nA, Nat.reduceBEq, Nat.reduceEqDiff, ↓reduceIte, Nat.reduceAdd, Nat.reduceSub]))
    refine AW.region ?_
    (refine awP (op_addi rfl rfl rfl (by omega)) ?_)
    refine awP (op_move rfl rfl) ?_
    skip
    refine AWL.nil ?_
    refine ⟨(i + 1, _, _), by dsimp only; omega, by dsimp only; omega, ⟨rfl, rfl, rfl, trivial⟩, (by rfl), (by rfl)⟩
   ·
    have hc2 := hc; have hnl : ¬ i < m := (by simpa using hc2); obtain rfl : i = m := (by omega)
    refine AW.exit ?_; (simp only [thenE, inBlk, Nat.reduceEqDiff, ↓reduceIte])
    clear hK K
    (refine hK _ ?_; clear hK K; (skip))
    (refine AW.seq_k ?_; intro K hK)
    refine AW.region ?_
    refine awP (op_move rfl rfl) ?_
    refine awP (op_assign rfl rfl) ?_
    refine awP (op_assign rfl rfl) ?_
    refine AWL.nil ?_
    (refine hK _ ?_; clear hK K; (simp only [nA, Nat.reduceBEq, Nat.reduceEqDiff, ↓reduceIte, Nat.reduceAdd, Nat.reduceSub]))
    refine AW.gh (Gh.slot2 (r := 0) (es' := ((List.range i).map (fun (k : Nat) => onH ((k : Int) + 1) 1 0)).map Hand.av) rfl (by simp) (newV_le _)) ?_; (simp only [nA, Nat.reduceBEq, Nat.reduceEqDiff, ↓reduceIte, Nat.reduceAdd, Nat.reduceSub]); refine AW.gh (Gh.freeze 2 (Nat.le_of_ble_eq_true rfl) rfl rfl (hav_flat _) (es' := ((List.range i).map (fun (k : Nat) => onH ((k : Int) + 1) 1 0)).map Hand.av) (List.take_of_length_le (by simp))) ?_; (simp only [nA, Nat.reduceBEq, Nat.reduceEqDiff, ↓reduceIte, Nat.reduceAdd, Nat.reduceSub])
    refine AW.ret ?_; rw [(new_yes g1).1, (new_yes g1).2]; exact RQ.of0 rfl (.tmp (Nat.le_of_ble_eq_true rfl) rfl rfl (.tmp (Nat.le_of_ble_eq_true rfl) rfl rfl .nil))
end Go.Proofs.Ytdnofpggdddimaa
namespace Go.Proofs.Ytdnofpggdddimaa
open Go.RowKit
set_option linter.unusedSimpArgs false
set_option linter.unusedVariables false
set_option maxRecDepth 100000
abbrev exP : Piece := ⟨⟨0, 117, 1000⟩, 12, 0⟩
abbrev exQ : Piece := ⟨⟨0, 117, 1001⟩, 12, 0⟩
abbrev exC : Container := ⟨4, flightN 0, 31, 100, 9, 0, 0, []⟩
abbrev exG : Grant := ⟨exP, flightN 0⟩
abbrev exO (t s k : Int) : Op := ⟨t, 1, s, k, 4, exP⟩
abbrev exH (n l : Int) (log : List Op) : Hand := ⟨1, n, l, true, [exG], [exC], log⟩
theorem aw_off : offR (onH 1 1 0) [exG] [exC] = (exH 1 0 [], 0) := by
  have he : offE (onH 1 1 0) [exG] [exC] = 0 := by decide +kernel
  rw [off_ok he]; rfl
theorem aw_granted (p : Piece) : grantedB [exG] p (flightN 0) = piEq p exP := by
  unfold grantedB idxI
  have e : grEq ⟨p, flightN 0⟩ exG = piEq p exP := by
    unfold grEq
    rw [show flEq (flightN 0) (flightN 0) = true from flEq_iff.2 rfl, Bool.and_true]
  cases hp : piEq p exP <;> simp [List.findIdx_cons, e, hp]
theorem aw_load (n l : Int) (log : List Op) (p : Piece) (k : Int) : loadErr (exH n l log) p k = if k ≠ 4 then 6 else if piEq p exP = false then 10 else if loadedB log p.plate then 5 else 0 := by
  unfold loadErr
  have hi : idxI (fun c : Container => decide (c.number = k)) [exC] = if k = 4 then 0 else -1 := by
    unfold idxI
    by_cases hk : k = 4
    · subst hk; simp [List.findIdx_cons]
    · simp [List.findIdx_cons, hk, Ne.symm hk]
  by_cases hk : k = 4
  · subst hk
    rw [show (exH n l log).conts = [exC] from rfl, hi, if_pos rfl, if_neg (by decide : ¬ ((0 : Int) < 0))]
    rw [show (exH n l log).grants = [exG] from rfl, show ([exC].getD (0 : Int).toNat default).flight = flightN 0 from rfl, aw_granted, if_neg (by decide : ¬ ((4 : Int) ≠ 4))]
  · rw [show (exH n l log).conts = [exC] from rfl, hi, if_neg hk, if_pos (by decide), if_pos hk]
theorem aw_scan (n l : Int) (log : List Op) (p : Piece) (k c t : Int) (hv : valH (exH n l log) = 0) (hk : (!decide (k = 1) && !decide (k = 2)) = false) (hp : ((!piB p || !inB c 1 999) || !inB t 0 1048576) = false) (ht : ¬ t < l) (hn : (decide (n = 1048576) || decide ((log.length : Int) = 60)) = false) :
    scanE (exH n l log) k p c t = if decide (k = 1) then loadErr (exH n l log) p c else 0 := by
  unfold scanE
  rw [if_neg (by rw [hv]; decide), if_neg (by rw [hk]; decide), if_neg (by rw [hp]; decide), if_neg ht, if_neg (by show ¬ ((decide (n = 1048576) || (true && decide ((log.length : Int) = 60))) = true); rw [Bool.true_and, hn]; decide)]
  rfl
theorem aw_v1 : valH (exH 1 0 []) = 0 := by decide +kernel
theorem aw_v2 : valH (exH 2 10 [exO 10 1 1]) = 0 := by decide +kernel
theorem aw_v3 : valH (exH 3 11 [exO 10 1 1, exO 11 2 2]) = 0 := by decide +kernel
theorem aw_1 : scanR (exH 1 0 []) 1 exP 4 10 = (exH 2 10 [exO 10 1 1], exO 10 1 1, 0) := by
  have he : scanE (exH 1 0 []) 1 exP 4 10 = 0 := by
    rw [aw_scan _ _ _ _ _ _ _ aw_v1 (by decide) (by decide +kernel) (by decide) (by decide), if_pos (by decide), aw_load]
    decide +kernel
  rw [scan_on he rfl]; rfl
theorem aw_2 : (scanR (exH 2 10 [exO 10 1 1]) 1 exP 4 11) = (zeroH, zeroO, 5) := by
  refine scan_err ?_ (by decide)
  rw [aw_scan _ _ _ _ _ _ _ aw_v2 (by decide) (by decide +kernel) (by decide) (by decide), if_pos (by decide), aw_load]
  decide +kernel
theorem aw_3 : scanR (exH 2 10 [exO 10 1 1]) 2 exP 4 11 = (exH 3 11 [exO 10 1 1, exO 11 2 2], exO 11 2 2, 0) := by
  have he : scanE (exH 2 10 [exO 10 1 1]) 2 exP 4 11 = 0 := by
    rw [aw_scan _ _ _ _ _ _ _ aw_v2 (by decide) (by decide +kernel) (by decide) (by decide), if_neg (by decide)]
  rw [scan_on he rfl]; rfl
theorem aw_4 : scanR (exH 3 11 [exO 10 1 1, exO 11 2 2]) 1 exP 4 12 = (exH 4 12 [exO 10 1 1, exO 11 2 2, exO 12 3 1], exO 12 3 1, 0) := by
  have he : scanE (exH 3 11 [exO 10 1 1, exO 11 2 2]) 1 exP 4 12 = 0 := by
    rw [aw_scan _ _ _ _ _ _ _ aw_v3 (by decide) (by decide +kernel) (by decide) (by decide), if_pos (by decide), aw_load]
    decide +kernel
  rw [scan_on he rfl]; rfl
theorem aw_5 : scanR (exH 3 11 [exO 10 1 1, exO 11 2 2]) 1 exQ 4 12 = (zeroH, zeroO, 10) := by
  refine scan_err ?_ (by decide)
  rw [aw_scan _ _ _ _ _ _ _ aw_v3 (by decide) (by decide +kernel) (by decide) (by decide), if_pos (by decide), aw_load]
  decide +kernel
theorem aw_6 : scanR (exH 3 11 [exO 10 1 1, exO 11 2 2]) 1 exP 5 12 = (zeroH, zeroO, 6) := by
  refine scan_err ?_ (by decide)
  rw [aw_scan _ _ _ _ _ _ _ aw_v3 (by decide) (by decide +kernel) (by decide) (by decide), if_pos (by decide), aw_load]
  decide +kernel
theorem awH_sm (n l : Int) {log : List Op} (h : log.length ≤ 1000) : (exH n l log).Sm := ⟨by simp, by simp, h, by simp⟩
theorem awC26 {n l : Int} {log : List Op} {k c t : Int} {p : Piece} {x : Hand × Op × Int} (hl : log.length ≤ 1000) (h : scanR (exH n l log) k p c t = x) : Fn Try.prog 26 [] [.agg (exH n l log).av, .v (.int .i64 k), .agg p.av, .v (.int .i64 c), .v (.int .i64 t)] [.agg x.1.av, .agg x.2.1.av, .v (.int .i64 x.2.2)] [] := by
  subst h; exact C26 (awH_sm n l hl)
theorem awC57 {i : Nat} (h : i < 100) : Fn Try.prog 57 [] [.v (.int .i64 (i : Int))] [.agg (⟨0, 117, 1000 + i⟩ : Plate).av] [] := by
  have := C57 (i := (i : Int))
  rwa [plates_lt h] at this
theorem awC32 : Fn Try.prog 32 [] [.agg (onH 1 1 0).av, .ro ([exG].map Grant.av), .ro ([exC].map Container.av)] [.agg (exH 1 0 []).av, .v (.int .i64 0)] [] := by
  have := C32 (h := onH 1 1 0) (g := [exG]) (c := [exC]) (on_sm 1 1 0) (by simp) (by simp)
  rwa [aw_off] at this
theorem awC13 : Fn Try.prog 13 [] [.v (.int .i64 2)] [.ro ([onH 1 1 0, onH 2 1 0].map Hand.av), .v (.int .i64 0)] [] := C13 (n := 2)
end Go.Proofs.Ytdnofpggdddimaa
namespace Go.Proofs.Ytdnofpggdddimaa
open Go.RowKit
set_option linter.unusedSimpArgs false
set_option linter.unusedVariables false
set_option maxRecDepth 100000
theorem exC_le : RL (Le2 Try.prog) [nilC exC].flatten ([exC].map Container.av).flatten :=
  RL.cons .same (RL.cons .same (RL.cons .same (RL.cons .same (RL.cons .same (RL.cons .same (RL.cons .same (RL.cons .same (RL.cons .same (RL.cons .same (RL.cons .nil RL.nil))))))))))
theorem C24 : Fn Try.prog 24 [] [] [.v (.bool true)] [] := by
  refine Spec.body Try.func24 rfl Try.ntmps24 (by simp) rfl ?_; intro S0 own0 v0 w0
  (refine AW.seq_k ?_; intro K hK)
  refine AW.region ?_
  refine awP (op_assign rfl rfl) ?_
  refine AWL.nil ?_
  (refine hK _ ?_; clear hK K; (simp only [nA, Nat.reduceBEq, Nat.reduceEqDiff, ↓reduceIte, Nat.reduceAdd, Nat.reduceSub]))
  (refine AW.seq_k ?_; intro K hK)
  refine AW.region ?_
  refine awJ (op_call (b := false) rfl en45 (C45_0) (RL.cons (by exact View.same rfl) (RL.nil)) rfl (fun h => by cases h) rfl rfl) ?_; (simp only [nA, Nat.reduceBEq, Nat.reduceEqDiff, ↓reduceIte, Nat.reduceAdd, Nat.reduceSub])
  refine awP (op_build2 (xs := [_, _, _, _, _, _, _, _, .v (.int .i64 0), .v (.int .i64 0), .v (.slice none 0 0)]) rfl pl77 ze77 [(0, [_]), (1, [_, _, _, _]), (2, [_]), (3, [_]), (4, [_])] rfl rfl rfl) ?_
  refine awJ (op_buildSlice rfl [(0, nilC exC)] [nilC exC] Try.underlying23 ze77 rfl (by simp) rfl (by simp) rfl (Nat.le_of_ble_eq_true rfl) (by simp [maxLen])) ?_; (simp only [nA, Nat.reduceBEq, Nat.reduceEqDiff, ↓reduceIte, Nat.reduceAdd, Nat.reduceSub]); refine AWL.gh (Gh.slot2 (r := 0) (es' := [exC].map Container.av) rfl rfl exC_le) ?_; (simp only [nA, Nat.reduceBEq, Nat.reduceEqDiff, ↓reduceIte, Nat.reduceAdd, Nat.reduceSub]); refine AWL.gh (Gh.freeze 25 (Nat.le_of_ble_eq_true rfl) rfl rfl (conv_flat [exC]) (es' := [exC].map Container.av) rfl) ?_; (simp only [nA, Nat.reduceBEq, Nat.reduceEqDiff, ↓reduceIte, Nat.reduceAdd, Nat.reduceSub])
  refine awP (op_assign rfl rfl) ?_
  refine AWL.nil ?_
  (refine hK _ ?_; clear hK K; (simp only [nA, Nat.reduceBEq, Nat.reduceEqDiff, ↓reduceIte, Nat.reduceAdd, Nat.reduceSub]))
  (refine AW.seq_k ?_; intro K hK)
  refine AW.region ?_
  refine awJ (op_call (b := false) rfl en57 (awC57 (i := 0) (by decide)) (RL.cons (by exact View.same rfl) (RL.nil)) rfl (fun h => by cases h) rfl rfl) ?_; (simp only [nA, Nat.reduceBEq, Nat.reduceEqDiff, ↓reduceIte, Nat.reduceAdd, Nat.reduceSub])
  refine awP (op_build2 (xs := [_, _, _, _, .v (.int .i64 0)]) rfl pl31 ze31 [(0, [_, _, _]), (1, [_])] rfl rfl rfl) ?_
  refine awJ (op_alloc rfl ze31 rfl) ?_; (simp only [nA, Nat.reduceBEq, Nat.reduceEqDiff, ↓reduceIte, Nat.reduceAdd, Nat.reduceSub])
  refine awJ (op_store rfl rfl rfl rfl rfl rfl sz31 rfl (Nat.le_of_ble_eq_true rfl) rfl) ?_; (simp only [nA, Nat.reduceBEq, Nat.reduceEqDiff, ↓reduceIte, Nat.reduceAdd, Nat.reduceSub])
  refine AWL.nil ?_
  (refine hK _ ?_; clear hK K; (skip))
  (refine AW.seq_k ?_; intro K hK)
  refine AW.region ?_
  refine awJ (op_call (b := false) rfl en13 (awC13) (RL.cons (by exact View.same rfl) (RL.nil)) rfl (fun h => by cases h) rfl rfl) ?_; (simp only [nA, Nat.reduceBEq, Nat.reduceEqDiff, ↓reduceIte, Nat.reduceAdd, Nat.reduceSub])
  refine awP (op_move rfl rfl) ?_
  refine awP (op_extract rfl rfl rfl) ?_
  refine awP (op_extract rfl rfl rfl) ?_
  refine awP (op_assign rfl rfl) ?_
  refine awP (op_assign rfl rfl) ?_
  refine AWL.nil ?_
  (refine hK _ ?_; clear hK K; (simp only [nA, Nat.reduceBEq, Nat.reduceEqDiff, ↓reduceIte, Nat.reduceAdd, Nat.reduceSub]))
  (refine AW.seq_k ?_; intro K hK)
  (refine AW.seq_k ?_; intro K hK)
  refine AW.region (AWL.quiet ?_)
  refine aqP (op_move rfl rfl) ?_
  (refine aqP (op_neq rfl rfl rfl) ?_)
  refine aqP (op_move rfl rfl) ?_
  refine' aqOr' [_, _, _] [35,36,37] rfl rfl rfl rfl rfl rfl rfl rfl rfl rfl rfl rfl (fun hb => ?_) ?_; rotate_left
  ·
   (try simp only [hcS] at hb)
   refine aqP (op_move rfl rfl) ?_
   refine aqP (op_len_ro (n := 2) rfl rfl Try.underlying38 (.inr (.inl ⟨_, rfl, rfl⟩))) ?_
   (refine aqP (op_neq rfl rfl rfl) ?_)
   (refine aqSeg rfl rfl rfl ?_; repeat (first | exact fun _ _ => rfl | refine upd_out rfl ?_))
  (simp only [nA, Nat.reduceBEq, Nat.reduceEqDiff, ↓reduceIte, Nat.reduceAdd, Nat.reduceSub])
  refine AQ.nil ?_
  (refine hK _ ?_; clear hK K; (skip))
  refine AW.cond rfl rfl rfl (fun hc => ?_) (fun hc => ?_)
  · (cases hc; done)
  ·
   (try simp only [hcS] at hc); have hc1 := hc; skip
   refine AW.skip ?_
   (refine hK _ ?_; clear hK K; (skip))
   (refine AW.seq_k ?_; intro K hK)
   refine AW.ad [(1, 2, .own 31 [exP.av])] mix rfl ?_
   refine adP 0 rfl (fun T' ok => op_move rfl rfl) (by exact ⟨rfl, trivial⟩) (by kernel_rfl) (by kernel_rfl) ?_
   refine adP 1 rfl (fun T' ok => op_ia_ro (es := [onH 1 1 0, onH 2 1 0].map Hand.av) 0 rfl (.inl rfl) rfl Try.underlying38 rfl rfl (by exact sz26) (Nat.le_of_ble_eq_true rfl)) (by exact ⟨rfl, trivial⟩) (by kernel_rfl) (by kernel_rfl) ?_
   (refine adR 2 rfl (fun T' ok => op_load_rop rfl rfl ag26 sz26 (Nat.le_of_ble_eq_true rfl) (by decide) rfl) (by exact ⟨rfl, trivial⟩) (by kernel_rfl) (by kernel_rfl) ?_)
   (refine adR 3 rfl (fun T' ok => op_load_ptr rfl rfl (by exact ok.1) rfl ag31 sz31 (Nat.le_of_ble_eq_true rfl) rfl) (by exact ⟨rfl, trivial⟩) (by kernel_rfl) (by kernel_rfl) ?_)
   refine adP 7 rfl (fun T' ok => op_move rfl rfl) (by exact ⟨rfl, trivial⟩) (by kernel_rfl) (by kernel_rfl) ?_
   refine adF 4 rfl (fun T' ok => op_callS rfl en45 (C45_0) (RL.cons (by exact View.same rfl) (RL.nil)) rfl rfl rfl) (by exact ⟨rfl, trivial⟩) (by kernel_rfl) (by kernel_rfl) ?_; (simp only [nA, Nat.reduceBEq, Nat.reduceEqDiff, ↓reduceIte, Nat.reduceAdd, Nat.reduceSub])
   refine adP 5 rfl (fun T' ok => op_build2 (xs := [_, _, _, _, _, _, _, _, _]) rfl pl75 ze75 [(0, [_, _, _, _, _]), (1, [_, _, _, _])] rfl rfl rfl) (by exact ⟨rfl, trivial⟩) (by kernel_rfl) (by kernel_rfl) ?_
   -- READY [6, 12]
   refine adF 6 rfl (fun T' ok => OpJ.frz (op_buildSlice rfl [(0, exG.av)] [exG.av] Try.underlying22 ze75 rfl (by simp) rfl (by simp) rfl (Nat.le_of_ble_eq_true rfl) (by simp [maxLen])) (gav_flat [exG]) rfl) (by exact ⟨rfl, trivial⟩) (by kernel_rfl) (by kernel_rfl) ?_; (simp only [nA, Nat.reduceBEq, Nat.reduceEqDiff, ↓reduceIte, Nat.reduceAdd, Nat.reduceSub])
   refine adF 8 rfl (fun T' ok => op_callS rfl en32 (awC32) (RL.cons (by exact View.same rfl) (RL.cons (by exact View.same rfl) (RL.cons (by exact View.same rfl) (RL.nil)))) rfl rfl rfl) (by exact ⟨rfl, trivial⟩) (by kernel_rfl) (by kernel_rfl) ?_; (simp only [nA, Nat.reduceBEq, Nat.reduceEqDiff, ↓reduceIte, Nat.reduceAdd, Nat.reduceSub])
   refine adP 9 rfl (fun T' ok => op_move rfl rfl) (by exact ⟨rfl, trivial⟩) (by kernel_rfl) (by kernel_rfl) ?_
   refine adP 10 rfl (fun T' ok => op_extract rfl rfl rfl) (by exact ⟨rfl, trivial⟩) (by kernel_rfl) (by kernel_rfl) ?_
   refine adP 11 rfl (fun T' ok => op_extract rfl rfl rfl) (by exact ⟨rfl, trivial⟩) (by kernel_rfl) (by kernel_rfl) ?_
   refine adJ 12 rfl (op_alloc rfl ze26 rfl) (by kernel_rfl) (by exact ⟨rfl, trivial⟩) ?_; (simp only [nA, Nat.reduceBEq, Nat.reduceEqDiff, ↓reduceIte, Nat.reduceAdd, Nat.reduceSub])
   refine adJ 13 rfl (op_store rfl rfl rfl rfl rfl rfl sz26 rfl (Nat.le_of_ble_eq_true rfl) rfl) (by kernel_rfl) (by exact ⟨rfl, trivial⟩) ?_; (simp only [nA, Nat.reduceBEq, Nat.reduceEqDiff, ↓reduceIte, Nat.reduceAdd, Nat.reduceSub])
   refine adP 14 rfl (fun T' ok => op_assign rfl rfl) (by exact ⟨rfl, trivial⟩) (by kernel_rfl) (by kernel_rfl) ?_
   refine adDone (by kernel_rfl) ?_
   (refine hK _ ?_; clear hK K; (simp only [nA, Nat.reduceBEq, Nat.reduceEqDiff, ↓reduceIte, Nat.reduceAdd, Nat.reduceSub]))
   (refine AW.seq_k ?_; intro K hK)
   refine AW.region ?_
   (refine awR (op_load_ptr rfl rfl rfl rfl ag26 sz26 (Nat.le_of_ble_eq_true rfl) rfl) ?_)
   (refine awR (op_load_ptr rfl rfl rfl rfl ag31 sz31 (Nat.le_of_ble_eq_true rfl) rfl) ?_)
   refine awJ (op_call (b := false) rfl en26 (awC26 (by simp) aw_1) (RL.cons (by exact View.same rfl) (RL.cons (by exact View.same rfl) (RL.cons (by exact View.same rfl) (RL.cons (by exact View.same rfl) (RL.cons (by exact View.same rfl) (RL.nil)))))) rfl (fun h => by cases h) rfl rfl) ?_; (simp only [nA, Nat.reduceBEq, Nat.reduceEqDiff, ↓reduceIte, Nat.reduceAdd, Nat.reduceSub])
   refine awP (op_move rfl rfl) ?_
   refine awP (op_extract rfl rfl rfl) ?_
   refine awP (op_extract rfl rfl rfl) ?_
   refine awP (op_extract rfl rfl rfl) ?_
   refine awJ (op_alloc rfl ze33 rfl) ?_; (simp only [nA, Nat.reduceBEq, Nat.reduceEqDiff, ↓reduceIte, Nat.reduceAdd, Nat.reduceSub])
   refine awJ (op_store rfl rfl rfl rfl rfl rfl sz26 rfl (Nat.le_of_ble_eq_true rfl) rfl) ?_; (simp only [nA, Nat.reduceBEq, Nat.reduceEqDiff, ↓reduceIte, Nat.reduceAdd, Nat.reduceSub])
   refine awJ (op_store rfl rfl rfl rfl rfl rfl sz33 rfl (Nat.le_of_ble_eq_true rfl) rfl) ?_; (simp only [nA, Nat.reduceBEq, Nat.reduceEqDiff, ↓reduceIte, Nat.reduceAdd, Nat.reduceSub])
   refine awP (op_assign rfl rfl) ?_
   refine AWL.nil ?_
   (refine hK _ ?_; clear hK K; (simp only [nA, Nat.reduceBEq, Nat.reduceEqDiff, ↓reduceIte, Nat.reduceAdd, Nat.reduceSub]))
   (refine AW.seq_k ?_; intro K hK)
   refine AW.region ?_
   (refine awR (op_load_ptr rfl rfl rfl rfl ag26 sz26 (Nat.le_of_ble_eq_true rfl) rfl) ?_)
   (refine awR (op_load_ptr rfl rfl rfl rfl ag31 sz31 (Nat.le_of_ble_eq_true rfl) rfl) ?_)
   refine awJ (op_call (b := false) rfl en26 (awC26 (by simp) aw_2) (RL.cons (by exact View.same rfl) (RL.cons (by exact View.same rfl) (RL.cons (by exact View.same rfl) (RL.cons (by exact View.same rfl) (RL.cons (by exact View.same rfl) (RL.nil)))))) rfl (fun h => by cases h) rfl rfl) ?_; (simp only [nA, Nat.reduceBEq, Nat.reduceEqDiff, ↓reduceIte, Nat.reduceAdd, Nat.reduceSub])
   refine awP (op_move rfl rfl) ?_
   refine awP (op_extract rfl rfl rfl) ?_
   refine awP (op_extract rfl rfl rfl) ?_
   refine awP (op_extract rfl rfl rfl) ?_
   refine awJ (op_alloc rfl ze26 rfl) ?_; (simp only [nA, Nat.reduceBEq, Nat.reduceEqDiff, ↓reduceIte, Nat.reduceAdd, Nat.reduceSub])
   refine awJ (op_alloc rfl ze33 rfl) ?_; (simp only [nA, Nat.reduceBEq, Nat.reduceEqDiff, ↓reduceIte, Nat.reduceAdd, Nat.reduceSub])
   refine awJ (op_store rfl rfl rfl rfl rfl rfl sz26 rfl (Nat.le_of_ble_eq_true rfl) rfl) ?_; (simp only [nA, Nat.reduceBEq, Nat.reduceEqDiff, ↓reduceIte, Nat.reduceAdd, Nat.reduceSub])
   refine awJ (op_store rfl rfl rfl rfl rfl rfl sz33 rfl (Nat.le_of_ble_eq_true rfl) rfl) ?_; (simp only [nA, Nat.reduceBEq, Nat.reduceEqDiff, ↓reduceIte, Nat.reduceAdd, Nat.reduceSub])
   refine awP (op_assign rfl rfl) ?_
   refine AWL.nil ?_
   (refine hK _ ?_; clear hK K; (simp only [nA, Nat.reduceBEq, Nat.reduceEqDiff, ↓reduceIte, Nat.reduceAdd, Nat.reduceSub]))
   (refine AW.seq_k ?_; intro K hK)
   refine AW.region ?_
   (refine awR (op_load_ptr rfl rfl rfl rfl ag26 sz26 (Nat.le_of_ble_eq_true rfl) rfl) ?_)
   (refine awR (op_load_ptr rfl rfl rfl rfl ag31 sz31 (Nat.le_of_ble_eq_true rfl) rfl) ?_)
   refine awJ (op_call (b := false) rfl en26 (awC26 (by simp) aw_3) (RL.cons (by exact View.same rfl) (RL.cons (by exact View.same rfl) (RL.cons (by exact View.same rfl) (RL.cons (by exact View.same rfl) (RL.cons (by exact View.same rfl) (RL.nil)))))) rfl (fun h => by cases h) rfl rfl) ?_; (simp only [nA, Nat.reduceBEq, Nat.reduceEqDiff, ↓reduceIte, Nat.reduceAdd, Nat.reduceSub])
   refine awP (op_move rfl rfl) ?_
   refine awP (op_extract rfl rfl rfl) ?_
   refine awP (op_extract rfl rfl rfl) ?_
   refine awP (op_extract rfl rfl rfl) ?_
   refine awJ (op_alloc rfl ze33 rfl) ?_; (simp only [nA, Nat.reduceBEq, Nat.reduceEqDiff, ↓reduceIte, Nat.reduceAdd, Nat.reduceSub])
   refine awJ (op_store rfl rfl rfl rfl rfl rfl sz26 rfl (Nat.le_of_ble_eq_true rfl) rfl) ?_; (simp only [nA, Nat.reduceBEq, Nat.reduceEqDiff, ↓reduceIte, Nat.reduceAdd, Nat.reduceSub])
   refine awJ (op_store rfl rfl rfl rfl rfl rfl sz33 rfl (Nat.le_of_ble_eq_true rfl) rfl) ?_; (simp only [nA, Nat.reduceBEq, Nat.reduceEqDiff, ↓reduceIte, Nat.reduceAdd, Nat.reduceSub])
   refine awP (op_assign rfl rfl) ?_
   refine AWL.nil ?_
   (refine hK _ ?_; clear hK K; (simp only [nA, Nat.reduceBEq, Nat.reduceEqDiff, ↓reduceIte, Nat.reduceAdd, Nat.reduceSub]))
   (refine AW.seq_k ?_; intro K hK)
   refine AW.region ?_
   (refine awR (op_load_ptr rfl rfl rfl rfl ag26 sz26 (Nat.le_of_ble_eq_true rfl) rfl) ?_)
   (refine awR (op_load_ptr rfl rfl rfl rfl ag31 sz31 (Nat.le_of_ble_eq_true rfl) rfl) ?_)
   refine awJ (op_call (b := false) rfl en26 (awC26 (by simp) aw_4) (RL.cons (by exact View.same rfl) (RL.cons (by exact View.same rfl) (RL.cons (by exact View.same rfl) (RL.cons (by exact View.same rfl) (RL.cons (by exact View.same rfl) (RL.nil)))))) rfl (fun h => by cases h) rfl rfl) ?_; (simp only [nA, Nat.reduceBEq, Nat.reduceEqDiff, ↓reduceIte, Nat.reduceAdd, Nat.reduceSub])
   refine awP (op_move rfl rfl) ?_
   refine awP (op_extract rfl rfl rfl) ?_
   refine awP (op_extract rfl rfl rfl) ?_
   refine awP (op_extract rfl rfl rfl) ?_
   refine awJ (op_alloc rfl ze26 rfl) ?_; (simp only [nA, Nat.reduceBEq, Nat.reduceEqDiff, ↓reduceIte, Nat.reduceAdd, Nat.reduceSub])
   refine awJ (op_alloc rfl ze33 rfl) ?_; (simp only [nA, Nat.reduceBEq, Nat.reduceEqDiff, ↓reduceIte, Nat.reduceAdd, Nat.reduceSub])
   refine awJ (op_store rfl rfl rfl rfl rfl rfl sz26 rfl (Nat.le_of_ble_eq_true rfl) rfl) ?_; (simp only [nA, Nat.reduceBEq, Nat.reduceEqDiff, ↓reduceIte, Nat.reduceAdd, Nat.reduceSub])
   refine awJ (op_store rfl rfl rfl rfl rfl rfl sz33 rfl (Nat.le_of_ble_eq_true rfl) rfl) ?_; (simp only [nA, Nat.reduceBEq, Nat.reduceEqDiff, ↓reduceIte, Nat.reduceAdd, Nat.reduceSub])
   refine awP (op_assign rfl rfl) ?_
   refine AWL.nil ?_
   (refine hK _ ?_; clear hK K; (simp only [nA, Nat.reduceBEq, Nat.reduceEqDiff, ↓reduceIte, Nat.reduceAdd, Nat.reduceSub]))
   refine AW.joinG (fun (e : Nat) => [(2, .ptr 1 2 0 0), (5, .ptr 2 3 0 0), (6, .v (.int .i64 0)), (7, .ptr 3 4 0 0), (8, .v (.int .i64 0)), (11, .v (.int .i64 5)), (13, .v (.int .i64 0)), (15, .ptr 8 9 0 0), (16, .v (.int .i64 0)), (19, .v (.int .i64 10))]) (fun e => ⟨[(1, .any), (2, .own 31 [exP.av]), (3, .own 26 [((exH 3 11 [exO 10 1 1, exO 11 2 2])).av]), (4, .own 33 [(exO 10 1 1).av]), (5, .own 26 [zeroH.av]), (6, .own 33 [zeroO.av]), (7, .own 33 [(exO 11 2 2).av]), (8, .own 26 [(exH 4 12 [exO 10 1 1, exO 11 2 2, exO 12 3 1]).av]), (9, .own 33 [(exO 12 3 1).av])], e⟩) (fun _ => True) ?_ ?_
   · refine AW.ado (fun T' => T'.slots[2]? = some (3, .own 26 [((exH 3 11 [exO 10 1 1, exO 11 2 2])).av])) mix rfl ?_
     refine adRo 0 rfl (fun T' ok => op_load_ptr rfl rfl ok rfl ag26 sz26 (Nat.le_of_ble_eq_true rfl) rfl) rfl (by kernel_rfl) (by kernel_rfl) ?_; (simp only [nA, Nat.reduceBEq, Nat.reduceEqDiff, ↓reduceIte, Nat.reduceAdd, Nat.reduceSub])
     refine adFo 1 rfl (fun T' ok => op_callS rfl en57 (awC57 (i := 1) (by decide)) (RL.cons (by exact View.same rfl) RL.nil) rfl rfl rfl) rfl (by kernel_rfl) (by kernel_rfl) ?_; (simp only [nA, Nat.reduceBEq, Nat.reduceEqDiff, ↓reduceIte, Nat.reduceAdd, Nat.reduceSub])
     refine adPo 2 rfl (fun T' ok => op_build2 (xs := exQ.av) rfl pl31 ze31 [(0, [_, _, _]), (1, [_])] rfl rfl rfl) rfl (by kernel_rfl) (by kernel_rfl) ?_; (simp only [nA, Nat.reduceBEq, Nat.reduceEqDiff, ↓reduceIte, Nat.reduceAdd, Nat.reduceSub])
     refine adFo 3 rfl (fun T' ok => op_callS rfl en26 (awC26 (by simp) aw_5) (RL.cons (by exact View.same rfl) (RL.cons (by exact View.same rfl) (RL.cons (by exact View.same rfl) (RL.cons (by exact View.same rfl) (RL.cons (by exact View.same rfl) RL.nil))))) rfl rfl rfl) rfl (by kernel_rfl) (by kernel_rfl) ?_; (simp only [nA, Nat.reduceBEq, Nat.reduceEqDiff, ↓reduceIte, Nat.reduceAdd, Nat.reduceSub])
     refine adPo 4 rfl (fun T' ok => op_move rfl rfl) rfl (by kernel_rfl) (by kernel_rfl) ?_; (simp only [nA, Nat.reduceBEq, Nat.reduceEqDiff, ↓reduceIte, Nat.reduceAdd, Nat.reduceSub])
     refine adPo 5 rfl (fun T' ok => op_extract rfl rfl rfl) rfl (by kernel_rfl) (by kernel_rfl) ?_; (simp only [nA, Nat.reduceBEq, Nat.reduceEqDiff, ↓reduceIte, Nat.reduceAdd, Nat.reduceSub])
     refine adPo 6 rfl (fun T' ok => op_extract rfl rfl rfl) rfl (by kernel_rfl) (by kernel_rfl) ?_; (simp only [nA, Nat.reduceBEq, Nat.reduceEqDiff, ↓reduceIte, Nat.reduceAdd, Nat.reduceSub])
     refine adPo 7 rfl (fun T' ok => op_extract rfl rfl rfl) rfl (by kernel_rfl) (by kernel_rfl) ?_; (simp only [nA, Nat.reduceBEq, Nat.reduceEqDiff, ↓reduceIte, Nat.reduceAdd, Nat.reduceSub])
     refine adJ2o 8 9 rfl rfl (op_alloc rfl ze26 rfl) (op_alloc rfl ze33 rfl) (by kernel_rfl) rfl rfl ?_ ?_
     · (simp only [nA, Nat.reduceBEq, Nat.reduceEqDiff, ↓reduceIte, Nat.reduceAdd, Nat.reduceSub]); refine adJo 9 rfl (op_alloc rfl ze33 rfl) (by kernel_rfl) rfl ?_; (simp only [nA, Nat.reduceBEq, Nat.reduceEqDiff, ↓reduceIte, Nat.reduceAdd, Nat.reduceSub])
       refine adJo 10 rfl (op_store rfl rfl rfl rfl rfl rfl sz26 rfl (Nat.le_of_ble_eq_true rfl) rfl) (by kernel_rfl) rfl ?_; (simp only [nA, Nat.reduceBEq, Nat.reduceEqDiff, ↓reduceIte, Nat.reduceAdd, Nat.reduceSub])
       refine adJo 11 rfl (op_store rfl rfl rfl rfl rfl rfl sz33 rfl (Nat.le_of_ble_eq_true rfl) rfl) (by kernel_rfl) rfl ?_; (simp only [nA, Nat.reduceBEq, Nat.reduceEqDiff, ↓reduceIte, Nat.reduceAdd, Nat.reduceSub])
       refine adPo 12 rfl (fun T' ok => op_assign rfl rfl) rfl (by kernel_rfl) (by kernel_rfl) ?_; (simp only [nA, Nat.reduceBEq, Nat.reduceEqDiff, ↓reduceIte, Nat.reduceAdd, Nat.reduceSub]); refine adDoneo (by kernel_rfl) ?_; exact ⟨_, Gh.drop 9, _, trivial, ⟨rfl, rfl, rfl, rfl, rfl, rfl, rfl, rfl, rfl, rfl, trivial⟩, rfl, rfl⟩
     · (simp only [nA, Nat.reduceBEq, Nat.reduceEqDiff, ↓reduceIte, Nat.reduceAdd, Nat.reduceSub]); refine adJo 8 rfl (op_alloc rfl ze26 rfl) (by kernel_rfl) rfl ?_; (simp only [nA, Nat.reduceBEq, Nat.reduceEqDiff, ↓reduceIte, Nat.reduceAdd, Nat.reduceSub])
       refine adJo 10 rfl (op_store rfl rfl rfl rfl rfl rfl sz26 rfl (Nat.le_of_ble_eq_true rfl) rfl) (by kernel_rfl) rfl ?_; (simp only [nA, Nat.reduceBEq, Nat.reduceEqDiff, ↓reduceIte, Nat.reduceAdd, Nat.reduceSub])
       refine adJo 11 rfl (op_store rfl rfl rfl rfl rfl rfl sz33 rfl (Nat.le_of_ble_eq_true rfl) rfl) (by kernel_rfl) rfl ?_; (simp only [nA, Nat.reduceBEq, Nat.reduceEqDiff, ↓reduceIte, Nat.reduceAdd, Nat.reduceSub])
       refine adPo 12 rfl (fun T' ok => op_assign rfl rfl) rfl (by kernel_rfl) (by kernel_rfl) ?_; (simp only [nA, Nat.reduceBEq, Nat.reduceEqDiff, ↓reduceIte, Nat.reduceAdd, Nat.reduceSub]); refine adDoneo (by kernel_rfl) ?_; exact ⟨_, Gh.drop 9, _, trivial, ⟨rfl, rfl, rfl, rfl, rfl, rfl, rfl, rfl, rfl, rfl, trivial⟩, rfl, rfl⟩
   intro e ρ _; simp only [updL]
   (refine AW.seq_k ?_; intro K hK)
   refine AW.region ?_
   (refine awR (op_load_ptr rfl rfl rfl rfl ag26 sz26 (Nat.le_of_ble_eq_true rfl) rfl) ?_)
   (refine awR (op_load_ptr rfl rfl rfl rfl ag31 sz31 (Nat.le_of_ble_eq_true rfl) rfl) ?_)
   refine awJ (op_call (b := false) rfl en26 (awC26 (by simp) aw_6) (RL.cons (by exact View.same rfl) (RL.cons (by exact View.same rfl) (RL.cons (by exact View.same rfl) (RL.cons (by exact View.same rfl) (RL.cons (by exact View.same rfl) (RL.nil)))))) rfl (fun h => by cases h) rfl rfl) ?_; (simp only [nA, Nat.reduceBEq, Nat.reduceEqDiff, ↓reduceIte, Nat.reduceAdd, Nat.reduceSub])
   refine awP (op_move rfl rfl) ?_
   refine awP (op_extract rfl rfl rfl) ?_
   refine awP (op_extract rfl rfl rfl) ?_
   refine awP (op_extract rfl rfl rfl) ?_
   refine awJ (op_alloc rfl ze26 rfl) ?_; (simp only [nA, Nat.reduceBEq, Nat.reduceEqDiff, ↓reduceIte, Nat.reduceAdd, Nat.reduceSub])
   refine awJ (op_alloc rfl ze33 rfl) ?_; (simp only [nA, Nat.reduceBEq, Nat.reduceEqDiff, ↓reduceIte, Nat.reduceAdd, Nat.reduceSub])
   refine awJ (op_store rfl rfl rfl rfl rfl rfl sz26 rfl (Nat.le_of_ble_eq_true rfl) rfl) ?_; (simp only [nA, Nat.reduceBEq, Nat.reduceEqDiff, ↓reduceIte, Nat.reduceAdd, Nat.reduceSub])
   refine awJ (op_store rfl rfl rfl rfl rfl rfl sz33 rfl (Nat.le_of_ble_eq_true rfl) rfl) ?_; (simp only [nA, Nat.reduceBEq, Nat.reduceEqDiff, ↓reduceIte, Nat.reduceAdd, Nat.reduceSub])
   refine awP (op_assign rfl rfl) ?_
   refine AWL.nil ?_
   (refine hK _ ?_; clear hK K; (simp only [nA, Nat.reduceBEq, Nat.reduceEqDiff, ↓reduceIte, Nat.reduceAdd, Nat.reduceSub]))
   (refine AW.seq_k ?_; intro K hK)
   refine AW.region (AWL.quiet ?_)
   refine aqP (op_move rfl rfl) ?_
   (refine aqP (op_eql rfl rfl rfl) ?_)
   refine aqP (op_move rfl rfl) ?_
   refine' aqAnd' [_, _] [97,98] rfl rfl rfl rfl rfl rfl rfl rfl rfl rfl rfl rfl (fun hb => ?_) ?_; rotate_left
   ·
    (try simp only [hcS] at hb)
    refine aqP (op_move rfl rfl) ?_
    (refine aqP (op_eql rfl rfl rfl) ?_)
    (refine aqSeg rfl rfl rfl ?_; repeat (first | exact fun _ _ => rfl | refine upd_out rfl ?_))
   (simp only [nA, Nat.reduceBEq, Nat.reduceEqDiff, ↓reduceIte, Nat.reduceAdd, Nat.reduceSub])
   refine aqP (op_move rfl rfl) ?_
   refine' aqAnd' [_, _, _] [101,102,103] rfl rfl rfl rfl rfl rfl rfl rfl rfl rfl rfl rfl (fun hb => ?_) ?_; rotate_left
   ·
    (try simp only [hcS] at hb)
    (refine aqP (op_fa_ptr rfl rfl rfl fl33_2 (by exact sz3) (by decide) rfl) ?_)
    (refine aqR (op_load_ptr1 rfl rfl rfl rfl ag3 rfl rfl) ?_)
    (refine aqP (op_eql rfl rfl rfl) ?_)
    (refine aqSeg rfl rfl rfl ?_; repeat (first | exact fun _ _ => rfl | refine upd_out rfl ?_))
   (simp only [nA, Nat.reduceBEq, Nat.reduceEqDiff, ↓reduceIte, Nat.reduceAdd, Nat.reduceSub])
   refine aqP (op_move rfl rfl) ?_
   refine' aqAnd' [_, _] [106,107] rfl rfl rfl rfl rfl rfl rfl rfl rfl rfl rfl rfl (fun hb => ?_) ?_; rotate_left
   ·
    (try simp only [hcS] at hb)
    refine aqP (op_move rfl rfl) ?_
    (refine aqP (op_eql rfl rfl rfl) ?_)
    (refine aqSeg rfl rfl rfl ?_; repeat (first | exact fun _ _ => rfl | refine upd_out rfl ?_))
   (simp only [nA, Nat.reduceBEq, Nat.reduceEqDiff, ↓reduceIte, Nat.reduceAdd, Nat.reduceSub])
   refine aqP (op_move rfl rfl) ?_
   refine' aqAnd' [_, _] [110,111] rfl rfl rfl rfl rfl rfl rfl rfl rfl rfl rfl rfl (fun hb => ?_) ?_; rotate_left
   ·
    (try simp only [hcS] at hb)
    refine aqP (op_move rfl rfl) ?_
    (refine aqP (op_eql rfl rfl rfl) ?_)
    (refine aqSeg rfl rfl rfl ?_; repeat (first | exact fun _ _ => rfl | refine upd_out rfl ?_))
   (simp only [nA, Nat.reduceBEq, Nat.reduceEqDiff, ↓reduceIte, Nat.reduceAdd, Nat.reduceSub])
   refine aqP (op_move rfl rfl) ?_
   refine' aqAnd' [_, _] [114,115] rfl rfl rfl rfl rfl rfl rfl rfl rfl rfl rfl rfl (fun hb => ?_) ?_; rotate_left
   ·
    (try simp only [hcS] at hb)
    refine aqP (op_move rfl rfl) ?_
    (refine aqP (op_eql rfl rfl rfl) ?_)
    (refine aqSeg rfl rfl rfl ?_; repeat (first | exact fun _ _ => rfl | refine upd_out rfl ?_))
   (simp only [nA, Nat.reduceBEq, Nat.reduceEqDiff, ↓reduceIte, Nat.reduceAdd, Nat.reduceSub])
   refine aqP (op_move rfl rfl) ?_
   refine' aqAnd' [_, _, _] [118,119,120] rfl rfl rfl rfl rfl rfl rfl rfl rfl rfl rfl rfl (fun hb => ?_) ?_; rotate_left
   ·
    (try simp only [hcS] at hb)
    (refine aqP (op_fa_ptr rfl rfl rfl fl33_2 (by exact sz3) (by decide) rfl) ?_)
    (refine aqR (op_load_ptr1 rfl rfl rfl rfl ag3 rfl rfl) ?_)
    (refine aqP (op_eql rfl rfl rfl) ?_)
    (refine aqSeg rfl rfl rfl ?_; repeat (first | exact fun _ _ => rfl | refine upd_out rfl ?_))
   (simp only [nA, Nat.reduceBEq, Nat.reduceEqDiff, ↓reduceIte, Nat.reduceAdd, Nat.reduceSub])
   refine aqP (op_move rfl rfl) ?_
   refine' aqAnd' [_, _] [123,124] rfl rfl rfl rfl rfl rfl rfl rfl rfl rfl rfl rfl (fun hb => ?_) ?_; rotate_left
   ·
    (try simp only [hcS] at hb)
    refine aqP (op_move rfl rfl) ?_
    (refine aqP (op_eql rfl rfl rfl) ?_)
    (refine aqSeg rfl rfl rfl ?_; repeat (first | exact fun _ _ => rfl | refine upd_out rfl ?_))
   (simp only [nA, Nat.reduceBEq, Nat.reduceEqDiff, ↓reduceIte, Nat.reduceAdd, Nat.reduceSub])
   refine aqP (op_move rfl rfl) ?_
   refine' aqAnd' [_, _] [127,128] rfl rfl rfl rfl rfl rfl rfl rfl rfl rfl rfl rfl (fun hb => ?_) ?_; rotate_left
   ·
    (try simp only [hcS] at hb)
    refine aqP (op_move rfl rfl) ?_
    (refine aqP (op_eql rfl rfl rfl) ?_)
    (refine aqSeg rfl rfl rfl ?_; repeat (first | exact fun _ _ => rfl | refine upd_out rfl ?_))
   (simp only [nA, Nat.reduceBEq, Nat.reduceEqDiff, ↓reduceIte, Nat.reduceAdd, Nat.reduceSub])
   refine aqP (op_assign rfl rfl) ?_
   refine AQ.nil ?_
   (refine hK _ ?_; clear hK K; (simp only [nA, Nat.reduceBEq, Nat.reduceEqDiff, ↓reduceIte, Nat.reduceAdd, Nat.reduceSub]))
   skip
   refine AW.ret ?_; exact RQ.of0 rfl (.tmp (Nat.le_of_ble_eq_true rfl) rfl rfl .nil)
end Go.Proofs.Ytdnofpggdddimaa
