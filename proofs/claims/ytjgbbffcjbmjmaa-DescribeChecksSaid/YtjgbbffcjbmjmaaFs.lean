import Derived.Test.YtjgbbffcjbmjmaaFr
namespace Go.Proofs.Ytjgbbffcjbmjmaa
open Go.RowKit
set_option linter.unusedSimpArgs false
set_option linter.unusedVariables false

theorem pair5 {x y : List Desc} {m : Mat} (h : ¬ noDup m.pairs m.pairs.length) : pairF x y m = 5 := by unfold pairF; rw [if_neg h]
theorem pair6 {x y : List Desc} {m : Mat} (h : noDup m.pairs m.pairs.length) (h2 : misB (scD x y) m.pairs m.pairs.length = true) : pairF x y m = 6 := by unfold pairF; rw [if_pos h, if_pos h2]
theorem pair7 {x y : List Desc} {m : Mat} (h : noDup m.pairs m.pairs.length) (h2 : misB (scD x y) m.pairs m.pairs.length = false) (h3 : ¬ sumN m.pairs.length (term (scD x y) (gI m.pairs)) = m.total) : pairF x y m = 7 := by unfold pairF; rw [if_pos h, if_neg (by rw [h2]; simp), if_neg h3]
theorem pair8 {x y : List Desc} {m : Mat} (h : noDup m.pairs m.pairs.length) (h2 : misB (scD x y) m.pairs m.pairs.length = false) (h3 : sumN m.pairs.length (term (scD x y) (gI m.pairs)) = m.total) : pairF x y m = 0 := by unfold pairF; rw [if_pos h, if_neg (by rw [h2]; simp), if_pos h3]
theorem C25 {x y : List Desc} {m : Mat} (hx : Szs x) (hy : Szs y) : Fn Try.prog 25 [] [.ro (x.map Desc.av), .ro (y.map Desc.av), .agg m.av] [.v (.int .i64 (chkF x y m))] [] := by
  refine Spec.body Try.func25 rfl Try.ntmps25 (by simp) rfl ?_; intro S0 own0 v0 w0
  (refine AW.seq_k ?_; intro K hK)
  refine AW.region ?_
  refine awJ (OpJ.frzP (row := m.av) (op_box rfl rfl rfl sz42 rfl) m.flat) ?_; (try simp only [nA, Nat.reduceBEq, Nat.reduceEqDiff, ↓reduceIte, Nat.reduceAdd, Nat.reduceSub])
  refine awP (op_assign rfl rfl) ?_
  refine AWL.nil ?_
  (refine hK _ ?_; clear hK K; (try simp only [nA, Nat.reduceBEq, Nat.reduceEqDiff, ↓reduceIte, Nat.reduceAdd, Nat.reduceSub]))
  (refine AW.seq_k ?_; intro K hK)
  (refine AW.seq_k ?_; intro K hK)
  refine AW.region ?_
  refine awP (op_move rfl rfl) ?_
  refine awP (op_move rfl rfl) ?_
  refine awJ (OpQ.j (op_callQ (b := true) rfl en23 (C23 hx hy) (RL.cons (by first | exact View.same rfl | exact View.nil | exact View.rof | exact View.src .ro | exact View.src .rof | exact View.src (.sl rfl rfl) | exact View.ptr rfl rfl rfl) (RL.cons (by first | exact View.same rfl | exact View.nil | exact View.rof | exact View.src .ro | exact View.src .rof | exact View.src (.sl rfl rfl) | exact View.ptr rfl rfl rfl) (RL.nil))) rfl)) ?_; (try simp only [nA, Nat.reduceBEq, Nat.reduceEqDiff, ↓reduceIte, Nat.reduceAdd, Nat.reduceSub])
  refine awP (op_assign rfl rfl) ?_
  refine AWL.nil ?_
  (refine hK _ ?_; clear hK K; (try simp only [nA, Nat.reduceBEq, Nat.reduceEqDiff, ↓reduceIte, Nat.reduceAdd, Nat.reduceSub]))
  (refine AW.seq_k ?_; intro K hK)
  refine AW.region ?_
  refine awP (op_move rfl rfl) ?_
  (first | refine awP (op_neq rfl rfl rfl) ?_ | refine awP (op_sneq rfl rfl rfl) ?_)
  refine AWL.nil ?_
  (refine hK _ ?_; clear hK K; (try simp only [nA, Nat.reduceBEq, Nat.reduceEqDiff, ↓reduceIte, Nat.reduceAdd, Nat.reduceSub]))
  refine AW.cond rfl rfl rfl (fun hc => ?_) (fun hc => ?_)
  ·
   (try simp only [hcS] at hc); have hc1 := hc; skip
   (refine AW.seq_k ?_; intro K hK)
   refine AW.region ?_
   refine awP (op_move rfl rfl) ?_
   refine awP (op_assign rfl rfl) ?_
   refine AWL.nil ?_
   (refine hK _ ?_; clear hK K; (try simp only [nA, Nat.reduceBEq, Nat.reduceEqDiff, ↓reduceIte, Nat.reduceAdd, Nat.reduceSub]))
   skip
   refine AW.ret ?_; (try simp only [thenE, inBlk, Nat.reduceEqDiff, ↓reduceIte]); rw [chk1 (by omega)]; exact RQ.of0 rfl (.tmp (Nat.le_of_ble_eq_true rfl) rfl rfl .nil)
  ·
   (try simp only [hcS] at hc); have hc1 := hc; have he0 : errsF x y = 0 := (by omega); have hl8 := errs_len he0
   refine AW.skip ?_
   (refine hK _ ?_; clear hK K; (try simp only [nA, Nat.reduceBEq, Nat.reduceEqDiff, ↓reduceIte, Nat.reduceAdd, Nat.reduceSub]))
   (refine AW.seq_k ?_; intro K hK)
   (refine AW.seq_k ?_; intro K hK)
   refine AW.region (AWL.quiet ?_)
   (first | refine aqP (op_fa_ptr rfl rfl rfl fl42_0 (by exact sz23) (by decide) rfl) ?_ | refine aqP (op_fa_rop rfl rfl fl42_0 (by exact sz23) (by decide) (Nat.le_of_ble_eq_true rfl) rfl) ?_)
   (first | refine aqR (op_load_ptr1 rfl rfl rfl rfl ag23 rfl rfl) ?_ | refine aqR (op_load_rop1 rfl rfl ag23) ?_)
   (first | refine aqP (op_len_ro rfl rfl Try.underlying23 (by first | exact .inr (.inl ⟨_, rfl, rfl⟩) | exact .inl rfl | exact .inr (.inr (.inl ⟨_, rfl, rfl⟩)) | exact .inr (.inr (.inr ⟨rfl, rfl⟩)))) ?_ | refine aqP (op_len_sl rfl rfl rfl Try.underlying23) ?_ | refine aqP (op_len_str rfl rfl Try.underlying23) ?_)
   refine aqP (op_move rfl rfl) ?_
   (first | refine aqP (op_len_ro rfl rfl Try.underlying22 (by first | exact .inr (.inl ⟨_, rfl, rfl⟩) | exact .inl rfl | exact .inr (.inr (.inl ⟨_, rfl, rfl⟩)) | exact .inr (.inr (.inr ⟨rfl, rfl⟩)))) ?_ | refine aqP (op_len_sl rfl rfl rfl Try.underlying22) ?_ | refine aqP (op_len_str rfl rfl Try.underlying22) ?_)
   (first | refine aqP (op_neq rfl rfl rfl) ?_ | refine aqP (op_sneq rfl rfl rfl) ?_)
   refine aqP (op_move rfl rfl) ?_
   refine' aqOr' [_, _, _, _, _, _] [34,35,36,37,38,39] rfl rfl rfl rfl rfl rfl rfl rfl rfl rfl rfl rfl (fun hb => ?_) ?_; rotate_left
   ·
    (try simp only [hcS] at hb)
    (first | refine aqP (op_fa_ptr rfl rfl rfl fl42_1 (by exact sz23) (by decide) rfl) ?_ | refine aqP (op_fa_rop rfl rfl fl42_1 (by exact sz23) (by decide) (Nat.le_of_ble_eq_true rfl) rfl) ?_)
    (first | refine aqR (op_load_ptr1 rfl rfl rfl rfl ag23 rfl rfl) ?_ | refine aqR (op_load_rop1 rfl rfl ag23) ?_)
    (first | refine aqP (op_len_ro rfl rfl Try.underlying23 (by first | exact .inr (.inl ⟨_, rfl, rfl⟩) | exact .inl rfl | exact .inr (.inr (.inl ⟨_, rfl, rfl⟩)) | exact .inr (.inr (.inr ⟨rfl, rfl⟩)))) ?_ | refine aqP (op_len_sl rfl rfl rfl Try.underlying23) ?_ | refine aqP (op_len_str rfl rfl Try.underlying23) ?_)
    refine aqP (op_move rfl rfl) ?_
    (first | refine aqP (op_len_ro rfl rfl Try.underlying22 (by first | exact .inr (.inl ⟨_, rfl, rfl⟩) | exact .inl rfl | exact .inr (.inr (.inl ⟨_, rfl, rfl⟩)) | exact .inr (.inr (.inr ⟨rfl, rfl⟩)))) ?_ | refine aqP (op_len_sl rfl rfl rfl Try.underlying22) ?_ | refine aqP (op_len_str rfl rfl Try.underlying22) ?_)
    (first | refine aqP (op_neq rfl rfl rfl) ?_ | refine aqP (op_sneq rfl rfl rfl) ?_)
    (refine aqSeg rfl rfl rfl ?_; repeat (first | exact fun _ _ => rfl | refine upd_out rfl ?_ | refine era_out rfl ?_))
   (try simp only [nA, Nat.reduceBEq, Nat.reduceEqDiff, ↓reduceIte, Nat.reduceAdd, Nat.reduceSub])
   refine aqP (op_move rfl rfl) ?_
   refine' aqOr' [_, _, _, _, _, _] [42,43,44,45,46,47] rfl rfl rfl rfl rfl rfl rfl rfl rfl rfl rfl rfl (fun hb => ?_) ?_; rotate_left
   ·
    (try simp only [hcS] at hb)
    (first | refine aqP (op_fa_ptr rfl rfl rfl fl42_2 (by exact sz23) (by decide) rfl) ?_ | refine aqP (op_fa_rop rfl rfl fl42_2 (by exact sz23) (by decide) (Nat.le_of_ble_eq_true rfl) rfl) ?_)
    (first | refine aqR (op_load_ptr1 rfl rfl rfl rfl ag23 rfl rfl) ?_ | refine aqR (op_load_rop1 rfl rfl ag23) ?_)
    (first | refine aqP (op_len_ro rfl rfl Try.underlying23 (by first | exact .inr (.inl ⟨_, rfl, rfl⟩) | exact .inl rfl | exact .inr (.inr (.inl ⟨_, rfl, rfl⟩)) | exact .inr (.inr (.inr ⟨rfl, rfl⟩)))) ?_ | refine aqP (op_len_sl rfl rfl rfl Try.underlying23) ?_ | refine aqP (op_len_str rfl rfl Try.underlying23) ?_)
    refine aqP (op_move rfl rfl) ?_
    (first | refine aqP (op_len_ro rfl rfl Try.underlying22 (by first | exact .inr (.inl ⟨_, rfl, rfl⟩) | exact .inl rfl | exact .inr (.inr (.inl ⟨_, rfl, rfl⟩)) | exact .inr (.inr (.inr ⟨rfl, rfl⟩)))) ?_ | refine aqP (op_len_sl rfl rfl rfl Try.underlying22) ?_ | refine aqP (op_len_str rfl rfl Try.underlying22) ?_)
    (first | refine aqP (op_neq rfl rfl rfl) ?_ | refine aqP (op_sneq rfl rfl rfl) ?_)
    (refine aqSeg rfl rfl rfl ?_; repeat (first | exact fun _ _ => rfl | refine upd_out rfl ?_ | refine era_out rfl ?_))
   (try simp only [nA, Nat.reduceBEq, Nat.reduceEqDiff, ↓reduceIte, Nat.reduceAdd, Nat.reduceSub])
   refine AQ.nil ?_
   (refine hK _ ?_; clear hK K; (try simp only [nA, Nat.reduceBEq, Nat.reduceEqDiff, ↓reduceIte, Nat.reduceAdd, Nat.reduceSub]))
   refine AW.cond rfl rfl rfl (fun hc => ?_) (fun hc => ?_)
   ·
    (try simp only [hcS] at hc); have hc2 := hc; skip
    (refine AW.seq_k ?_; intro K hK)
    refine AW.region ?_
    refine awP (op_assign rfl rfl) ?_
    refine AWL.nil ?_
    (refine hK _ ?_; clear hK K; (try simp only [nA, Nat.reduceBEq, Nat.reduceEqDiff, ↓reduceIte, Nat.reduceAdd, Nat.reduceSub]))
    skip
    refine AW.ret ?_; (try simp only [thenE, inBlk, Nat.reduceEqDiff, ↓reduceIte]); rw [chk2 he0 (by omega)]; exact RQ.of0 rfl (.tmp (Nat.le_of_ble_eq_true rfl) rfl rfl .nil)
   ·
    (try simp only [hcS] at hc); have hc2 := hc; have hlen : lenP x y m := ⟨by omega, by omega, by omega⟩; obtain ⟨hl1, hl2, hl3⟩ := hlen; have hlen : lenP x y m := ⟨hl1, hl2, hl3⟩
    refine AW.skip ?_
    (refine hK _ ?_; clear hK K; (try simp only [nA, Nat.reduceBEq, Nat.reduceEqDiff, ↓reduceIte, Nat.reduceAdd, Nat.reduceSub]))
    (refine AW.seq_k ?_; intro K hK)
    (refine AW.seq_k ?_; intro K hK)
    refine AW.region ?_
    refine awP (op_assign rfl rfl) ?_
    refine AWL.nil ?_
    (refine hK _ ?_; clear hK K; (try simp only [nA, Nat.reduceBEq, Nat.reduceEqDiff, ↓reduceIte, Nat.reduceAdd, Nat.reduceSub]))
    refine AW.block ?_
    refine AW.loopI (fun (i : Nat) => [(0, .ro (x.map Desc.av)), (1, .ro (y.map Desc.av)), (5, .rop m.av), (8, .v (.int .i64 (i : Nat)))]) (fun _ => ⟨[], 1⟩) (fun i => i ≤ x.length ∧ ∀ j, j < i → -1 ≤ gI m.pairs j ∧ gI m.pairs j < y.length) (fun i => x.length - i) 0 (by simp) ⟨rfl, rfl, rfl, rfl, trivial⟩ rfl ?_; intro i ρ hi; simp only [updL]; (try simp only [nA, Nat.reduceBEq, Nat.reduceEqDiff, ↓reduceIte, Nat.reduceAdd, Nat.reduceSub])
    (refine AW.seq_k ?_; intro K hK)
    (refine AW.seq_k ?_; intro K hK)
    refine AW.region ?_
    refine awP (op_move rfl rfl) ?_
    (first | refine awP (op_fa_ptr rfl rfl rfl fl42_0 (by exact sz23) (by decide) rfl) ?_ | refine awP (op_fa_rop rfl rfl fl42_0 (by exact sz23) (by decide) (Nat.le_of_ble_eq_true rfl) rfl) ?_)
    (first | refine awR (op_load_ptr1 rfl rfl rfl rfl ag23 rfl rfl) ?_ | refine awR (op_load_rop1 rfl rfl ag23) ?_)
    (first | refine awP (op_len_ro rfl rfl Try.underlying23 (by first | exact .inr (.inl ⟨_, rfl, rfl⟩) | exact .inl rfl | exact .inr (.inr (.inl ⟨_, rfl, rfl⟩)) | exact .inr (.inr (.inr ⟨rfl, rfl⟩)))) ?_ | refine awP (op_len_sl rfl rfl rfl Try.underlying23) ?_ | refine awP (op_len_str rfl rfl Try.underlying23) ?_)
    refine awP (op_lss rfl rfl rfl) ?_
    refine AWL.nil ?_
    (refine hK _ ?_; clear hK K; (try simp only [nA, Nat.reduceBEq, Nat.reduceEqDiff, ↓reduceIte, Nat.reduceAdd, Nat.reduceSub]))
    refine AW.cond rfl rfl rfl (fun hc => ?_) (fun hc => ?_)
    ·
     (try simp only [hcS] at hc); have hc3 := hc; skip
     refine AW.skip ?_
     (refine hK _ ?_; clear hK K; (try simp only [nA, Nat.reduceBEq, Nat.reduceEqDiff, ↓reduceIte, Nat.reduceAdd, Nat.reduceSub]))
     (refine AW.seq_k ?_; intro K hK)
     refine AW.block ?_
     (refine AW.seq_k ?_; intro K hK)
     refine AW.region (AWL.quiet ?_)
     (first | refine aqP (op_fa_ptr rfl rfl rfl fl42_0 (by exact sz23) (by decide) rfl) ?_ | refine aqP (op_fa_rop rfl rfl fl42_0 (by exact sz23) (by decide) (Nat.le_of_ble_eq_true rfl) rfl) ?_)
     (first | refine aqR (op_load_ptr1 rfl rfl rfl rfl ag23 rfl rfl) ?_ | refine aqR (op_load_rop1 rfl rfl ag23) ?_)
     refine aqP (op_move rfl rfl) ?_
     (first | refine aqP (op_ia_ro i rfl (.inl rfl) rfl Try.underlying23 rfl (gI_mapD (by omega)) (by exact sz3) (Nat.le_of_ble_eq_true rfl)) ?_ | refine aqP (op_ia_sl _ _ rfl rfl rfl rfl Try.underlying23 rfl (by omega) (by exact sz3) rfl) ?_)
     (first | refine aqR (op_load_ptr1 rfl rfl rfl rfl ag3 rfl rfl) ?_ | refine aqR (op_load_rop1 rfl rfl ag3) ?_)
     refine aqP (op_lss rfl rfl rfl) ?_
     refine aqP (op_move rfl rfl) ?_
     refine' aqOr' [_, _, _, _, _, _, _, _] [63,64,65,66,67,68,69,70] rfl rfl rfl rfl rfl rfl rfl rfl rfl rfl rfl rfl (fun hb => ?_) ?_; rotate_left
     ·
      (try simp only [hcS] at hb)
      (first | refine aqP (op_fa_ptr rfl rfl rfl fl42_0 (by exact sz23) (by decide) rfl) ?_ | refine aqP (op_fa_rop rfl rfl fl42_0 (by exact sz23) (by decide) (Nat.le_of_ble_eq_true rfl) rfl) ?_)
      (first | refine aqR (op_load_ptr1 rfl rfl rfl rfl ag23 rfl rfl) ?_ | refine aqR (op_load_rop1 rfl rfl ag23) ?_)
      refine aqP (op_move rfl rfl) ?_
      (first | refine aqP (op_ia_ro i rfl (.inl rfl) rfl Try.underlying23 rfl (gI_mapD (by omega)) (by exact sz3) (Nat.le_of_ble_eq_true rfl)) ?_ | refine aqP (op_ia_sl _ _ rfl rfl rfl rfl Try.underlying23 rfl (by omega) (by exact sz3) rfl) ?_)
      (first | refine aqR (op_load_ptr1 rfl rfl rfl rfl ag3 rfl rfl) ?_ | refine aqR (op_load_rop1 rfl rfl ag3) ?_)
      refine aqP (op_move rfl rfl) ?_
      (first | refine aqP (op_len_ro rfl rfl Try.underlying22 (by first | exact .inr (.inl ⟨_, rfl, rfl⟩) | exact .inl rfl | exact .inr (.inr (.inl ⟨_, rfl, rfl⟩)) | exact .inr (.inr (.inr ⟨rfl, rfl⟩)))) ?_ | refine aqP (op_len_sl rfl rfl rfl Try.underlying22) ?_ | refine aqP (op_len_str rfl rfl Try.underlying22) ?_)
      refine aqP (op_geq rfl rfl rfl) ?_
      (refine aqSeg rfl rfl rfl ?_; repeat (first | exact fun _ _ => rfl | refine upd_out rfl ?_ | refine era_out rfl ?_))
     (try simp only [nA, Nat.reduceBEq, Nat.reduceEqDiff, ↓reduceIte, Nat.reduceAdd, Nat.reduceSub])
     refine AQ.nil ?_
     (refine hK _ ?_; clear hK K; (try simp only [nA, Nat.reduceBEq, Nat.reduceEqDiff, ↓reduceIte, Nat.reduceAdd, Nat.reduceSub]))
     refine AW.cond rfl rfl rfl (fun hc => ?_) (fun hc => ?_)
     ·
      (try simp only [hcS] at hc); have hc4 := hc; skip
      (refine AW.seq_k ?_; intro K hK)
      refine AW.region ?_
      refine awP (op_assign rfl rfl) ?_
      refine AWL.nil ?_
      (refine hK _ ?_; clear hK K; (try simp only [nA, Nat.reduceBEq, Nat.reduceEqDiff, ↓reduceIte, Nat.reduceAdd, Nat.reduceSub]))
      skip
      refine AW.ret ?_; (try simp only [thenE, inBlk, Nat.reduceEqDiff, ↓reduceIte]); rw [chk3 he0 hlen (fun h => by have := h i (by omega); omega)]; exact RQ.of0 rfl (.tmp (Nat.le_of_ble_eq_true rfl) rfl rfl .nil)
     ·
      (try simp only [hcS] at hc); have hc4 := hc; skip
      refine AW.skip ?_
      (try simp only [thenE, inBlk, Nat.reduceEqDiff, ↓reduceIte])
      (refine hK _ ?_; clear hK K; (try simp only [nA, Nat.reduceBEq, Nat.reduceEqDiff, ↓reduceIte, Nat.reduceAdd, Nat.reduceSub]))
      refine AW.region ?_
      refine awP (op_move rfl rfl) ?_
      (first | refine awP (op_addi rfl rfl rfl (by omega)) ?_ | refine awP (op_add rfl rfl rfl rfl) ?_)
      refine awP (op_assign rfl rfl) ?_
      skip
      refine AWL.nil ?_
      refine ⟨i + 1, ⟨by omega, lt_succ hi.2 (by omega)⟩, by omega, ⟨rfl, rfl, rfl, rfl, trivial⟩, (by first | rfl | trivial), (by first | rfl | trivial)⟩
    ·
     (try simp only [hcS] at hc); have hc3 := hc; have hrg : rgP x y m := fun j hj => hi.2 j (by omega)
     refine AW.exit ?_; (try simp only [thenE, inBlk, Nat.reduceEqDiff, ↓reduceIte])
     clear hK K
     (refine hK _ ?_; clear hK K; (try simp only [nA, Nat.reduceBEq, Nat.reduceEqDiff, ↓reduceIte, Nat.reduceAdd, Nat.reduceSub]))
     (refine AW.seq_k ?_; intro K hK)
     refine AW.region ?_
     (first | refine awP (op_fa_ptr rfl rfl rfl fl42_1 (by exact sz23) (by decide) rfl) ?_ | refine awP (op_fa_rop rfl rfl fl42_1 (by exact sz23) (by decide) (Nat.le_of_ble_eq_true rfl) rfl) ?_)
     (first | refine awR (op_load_ptr1 rfl rfl rfl rfl ag23 rfl rfl) ?_ | refine awR (op_load_rop1 rfl rfl ag23) ?_)
     refine awJ (op_call (b := false) rfl en42 (C42 (l := m.rows) (by omega)) (RL.cons (by first | exact View.same rfl | exact View.nil | exact View.rof | exact View.src .ro | exact View.src .rof | exact View.src (.sl rfl rfl) | exact View.ptr rfl rfl rfl) (RL.nil)) rfl (fun h => by cases h) rfl rfl) ?_; (try simp only [nA, Nat.reduceBEq, Nat.reduceEqDiff, ↓reduceIte, Nat.reduceAdd, Nat.reduceSub])
     refine awP (op_move rfl rfl) ?_
     refine awP (op_extract rfl rfl rfl) ?_
     refine awP (op_extract rfl rfl rfl) ?_
     refine awP (op_assign rfl rfl) ?_
     refine awP (op_assign rfl rfl) ?_
     refine AWL.nil ?_
     (refine hK _ ?_; clear hK K; (try simp only [nA, Nat.reduceBEq, Nat.reduceEqDiff, ↓reduceIte, Nat.reduceAdd, Nat.reduceSub]))
     (refine AW.seq_k ?_; intro K hK)
     refine AW.region ?_
     (first | refine awP (op_fa_ptr rfl rfl rfl fl42_2 (by exact sz23) (by decide) rfl) ?_ | refine awP (op_fa_rop rfl rfl fl42_2 (by exact sz23) (by decide) (Nat.le_of_ble_eq_true rfl) rfl) ?_)
     (first | refine awR (op_load_ptr1 rfl rfl rfl rfl ag23 rfl rfl) ?_ | refine awR (op_load_rop1 rfl rfl ag23) ?_)
     refine awJ (op_call (b := false) rfl en42 (C42 (l := m.cols) (by omega)) (RL.cons (by first | exact View.same rfl | exact View.nil | exact View.rof | exact View.src .ro | exact View.src .rof | exact View.src (.sl rfl rfl) | exact View.ptr rfl rfl rfl) (RL.nil)) rfl (fun h => by cases h) rfl rfl) ?_; (try simp only [nA, Nat.reduceBEq, Nat.reduceEqDiff, ↓reduceIte, Nat.reduceAdd, Nat.reduceSub])
     refine awP (op_move rfl rfl) ?_
     refine awP (op_extract rfl rfl rfl) ?_
     refine awP (op_extract rfl rfl rfl) ?_
     refine awP (op_assign rfl rfl) ?_
     refine awP (op_assign rfl rfl) ?_
     refine AWL.nil ?_
     (refine hK _ ?_; clear hK K; (try simp only [nA, Nat.reduceBEq, Nat.reduceEqDiff, ↓reduceIte, Nat.reduceAdd, Nat.reduceSub]))
     (refine AW.seq_k ?_; intro K hK)
     (refine AW.seq_k ?_; intro K hK)
     refine AW.region (AWL.quiet ?_)
     refine aqP (op_move rfl rfl) ?_
     refine aqP (op_not rfl rfl rfl) ?_
     refine aqP (op_move rfl rfl) ?_
     refine' aqOr' [_, _] [87,88] rfl rfl rfl rfl rfl rfl rfl rfl rfl rfl rfl rfl (fun hb => ?_) ?_; rotate_left
     ·
      (try simp only [hcS] at hb)
      refine aqP (op_move rfl rfl) ?_
      refine aqP (op_not rfl rfl rfl) ?_
      (refine aqSeg rfl rfl rfl ?_; repeat (first | exact fun _ _ => rfl | refine upd_out rfl ?_ | refine era_out rfl ?_))
     (try simp only [nA, Nat.reduceBEq, Nat.reduceEqDiff, ↓reduceIte, Nat.reduceAdd, Nat.reduceSub])
     refine AQ.nil ?_
     (refine hK _ ?_; clear hK K; (try simp only [nA, Nat.reduceBEq, Nat.reduceEqDiff, ↓reduceIte, Nat.reduceAdd, Nat.reduceSub]))
     refine AW.cond rfl rfl rfl (fun hc => ?_) (fun hc => ?_)
     ·
      (try simp only [hcS] at hc); have hc5 := hc; skip
      (refine AW.seq_k ?_; intro K hK)
      refine AW.region ?_
      refine awP (op_assign rfl rfl) ?_
      refine AWL.nil ?_
      (refine hK _ ?_; clear hK K; (try simp only [nA, Nat.reduceBEq, Nat.reduceEqDiff, ↓reduceIte, Nat.reduceAdd, Nat.reduceSub]))
      skip
      refine AW.ret ?_; (try simp only [thenE, inBlk, Nat.reduceEqDiff, ↓reduceIte]); rw [chk4 he0 hlen hrg (by rw [Bool.and_eq_true]; rintro ⟨h1, h2⟩; rw [h1, h2] at hc5; simp at hc5)]; exact RQ.of0 rfl (.tmp (Nat.le_of_ble_eq_true rfl) rfl rfl .nil)
     ·
      (try simp only [hcS] at hc); have hc5 := hc; have hpr : (prOk m.rows && prOk m.cols) = true := (by rw [Bool.and_eq_true]; simpa using hc5); have hpr2 := hpr; rw [Bool.and_eq_true] at hpr2; have hpR := prOk_iff.1 hpr2.1; have hpC := prOk_iff.1 hpr2.2; have hsR := sumN_bd (n := m.rows.length) (g := gI m.rows) (B := 1073741824) hpR; have hsC := sumN_bd (n := m.cols.length) (g := gI m.cols) (B := 1073741824) hpC; have hS1 : prS m.rows = sumN m.rows.length (gI m.rows) := (by unfold prS; rw [if_pos hpr2.1]); have hS2 : prS m.cols = sumN m.cols.length (gI m.cols) := (by unfold prS; rw [if_pos hpr2.2]); rw [hl2] at hpR hsR hS1; rw [hl3] at hpC hsC hS2
      refine AW.skip ?_
      (refine hK _ ?_; clear hK K; (try simp only [nA, Nat.reduceBEq, Nat.reduceEqDiff, ↓reduceIte, Nat.reduceAdd, Nat.reduceSub]))
      (refine AW.seq_k ?_; intro K hK)
      refine AW.region ?_
      refine awP (op_assign rfl rfl) ?_
      refine awP (op_assign rfl rfl) ?_
      refine AWL.nil ?_
      (refine hK _ ?_; clear hK K; (try simp only [nA, Nat.reduceBEq, Nat.reduceEqDiff, ↓reduceIte, Nat.reduceAdd, Nat.reduceSub]))
      (refine AW.seq_k ?_; intro K hK)
      (refine AW.seq_k ?_; intro K hK)
      refine AW.region ?_
      refine awP (op_assign rfl rfl) ?_
      refine AWL.nil ?_
      (refine hK _ ?_; clear hK K; (try simp only [nA, Nat.reduceBEq, Nat.reduceEqDiff, ↓reduceIte, Nat.reduceAdd, Nat.reduceSub]))
      refine AW.block ?_
      refine AW.loopI (fun (i : Nat) => [(0, .ro (x.map Desc.av)), (1, .ro (y.map Desc.av)), (5, .rop m.av), (9, .v (.int .i64 (prS m.rows))), (11, .v (.int .i64 (prS m.cols))), (13, .v (.int .i64 0)), (14, .v (.bool false)), (15, .v (.int .i64 (i : Nat)))]) (fun _ => ⟨[], 1⟩) (fun i => i ≤ x.length ∧ noDup m.pairs i) (fun i => x.length - i) 0 ⟨Nat.zero_le _, fun i hi => absurd hi (Nat.not_lt_zero i)⟩ ⟨rfl, rfl, rfl, rfl, rfl, rfl, rfl, rfl, trivial⟩ rfl ?_; intro i ρ2 hi; simp only [updL]; (try simp only [nA, Nat.reduceBEq, Nat.reduceEqDiff, ↓reduceIte, Nat.reduceAdd, Nat.reduceSub])
      (refine AW.seq_k ?_; intro K hK)
      (refine AW.seq_k ?_; intro K hK)
      refine AW.region ?_
      refine awP (op_move rfl rfl) ?_
      (first | refine awP (op_fa_ptr rfl rfl rfl fl42_0 (by exact sz23) (by decide) rfl) ?_ | refine awP (op_fa_rop rfl rfl fl42_0 (by exact sz23) (by decide) (Nat.le_of_ble_eq_true rfl) rfl) ?_)
      (first | refine awR (op_load_ptr1 rfl rfl rfl rfl ag23 rfl rfl) ?_ | refine awR (op_load_rop1 rfl rfl ag23) ?_)
      (first | refine awP (op_len_ro rfl rfl Try.underlying23 (by first | exact .inr (.inl ⟨_, rfl, rfl⟩) | exact .inl rfl | exact .inr (.inr (.inl ⟨_, rfl, rfl⟩)) | exact .inr (.inr (.inr ⟨rfl, rfl⟩)))) ?_ | refine awP (op_len_sl rfl rfl rfl Try.underlying23) ?_ | refine awP (op_len_str rfl rfl Try.underlying23) ?_)
      refine awP (op_lss rfl rfl rfl) ?_
      refine AWL.nil ?_
      (refine hK _ ?_; clear hK K; (try simp only [nA, Nat.reduceBEq, Nat.reduceEqDiff, ↓reduceIte, Nat.reduceAdd, Nat.reduceSub]))
      refine AW.cond rfl rfl rfl (fun hc => ?_) (fun hc => ?_)
      ·
       (try simp only [hcS] at hc); have hc6 := hc; have hi2 : i < x.length := (by omega)
       refine AW.skip ?_
       (refine hK _ ?_; clear hK K; (try simp only [nA, Nat.reduceBEq, Nat.reduceEqDiff, ↓reduceIte, Nat.reduceAdd, Nat.reduceSub]))
       (refine AW.seq_k ?_; intro K hK)
       refine AW.block ?_
       (refine AW.seq_k ?_; intro K hK)
       refine AW.region ?_
       refine awP (op_assign rfl rfl) ?_
       refine AWL.nil ?_
       (refine hK _ ?_; clear hK K; (try simp only [nA, Nat.reduceBEq, Nat.reduceEqDiff, ↓reduceIte, Nat.reduceAdd, Nat.reduceSub]))
       refine AW.block ?_
       refine AW.loopI (fun (k : Nat) => [(0, .ro (x.map Desc.av)), (1, .ro (y.map Desc.av)), (5, .rop m.av), (9, .v (.int .i64 (prS m.rows))), (11, .v (.int .i64 (prS m.cols))), (13, .v (.int .i64 0)), (14, .v (.bool false)), (15, .v (.int .i64 (i : Nat))), (16, .v (.int .i64 (k : Nat)))]) (fun _ => ⟨[], 1⟩) (fun k => k ≤ i ∧ ∀ q, q < k → ¬ (0 ≤ gI m.pairs i ∧ gI m.pairs i = gI m.pairs q)) (fun k => i - k) 0 ⟨Nat.zero_le _, fun i hi => absurd hi (Nat.not_lt_zero i)⟩ ⟨rfl, rfl, rfl, rfl, rfl, rfl, rfl, rfl, rfl, trivial⟩ rfl ?_; intro k ρ3 hk; simp only [updL]; (try simp only [nA, Nat.reduceBEq, Nat.reduceEqDiff, ↓reduceIte, Nat.reduceAdd, Nat.reduceSub])
       (refine AW.seq_k ?_; intro K hK)
       (refine AW.seq_k ?_; intro K hK)
       refine AW.region ?_
       refine awP (op_move rfl rfl) ?_
       refine awP (op_move rfl rfl) ?_
       refine awP (op_lss rfl rfl rfl) ?_
       refine AWL.nil ?_
       (refine hK _ ?_; clear hK K; (try simp only [nA, Nat.reduceBEq, Nat.reduceEqDiff, ↓reduceIte, Nat.reduceAdd, Nat.reduceSub]))
       refine AW.cond rfl rfl rfl (fun hc => ?_) (fun hc => ?_)
       ·
        (try simp only [hcS] at hc); have hc7 := hc; skip
        refine AW.skip ?_
        (refine hK _ ?_; clear hK K; (try simp only [nA, Nat.reduceBEq, Nat.reduceEqDiff, ↓reduceIte, Nat.reduceAdd, Nat.reduceSub]))
        (refine AW.seq_k ?_; intro K hK)
        refine AW.block ?_
        (refine AW.seq_k ?_; intro K hK)
        refine AW.quiet mix (by kernel_rfl) ?_
        (first | refine aqP (op_fa_ptr rfl rfl rfl fl42_0 (by exact sz23) (by decide) rfl) ?_ | refine aqP (op_fa_rop rfl rfl fl42_0 (by exact sz23) (by decide) (Nat.le_of_ble_eq_true rfl) rfl) ?_)
        (first | refine aqR (op_load_ptr1 rfl rfl rfl rfl ag23 rfl rfl) ?_ | refine aqR (op_load_rop1 rfl rfl ag23) ?_)
        refine aqP (op_move rfl rfl) ?_
        (first | refine aqP (op_ia_ro i rfl (.inl rfl) rfl Try.underlying23 rfl (gI_mapD (by omega)) (by exact sz3) (Nat.le_of_ble_eq_true rfl)) ?_ | refine aqP (op_ia_sl _ _ rfl rfl rfl rfl Try.underlying23 rfl (by omega) (by exact sz3) rfl) ?_)
        (first | refine aqR (op_load_ptr1 rfl rfl rfl rfl ag3 rfl rfl) ?_ | refine aqR (op_load_rop1 rfl rfl ag3) ?_)
        refine aqP (op_geq rfl rfl rfl) ?_
        refine aqP (op_move rfl rfl) ?_
        refine' aqAnd' [_, _, _, _, _, _, _, _, _, _, _] [109,110,111,112,113,114,115,116,117,118,119] rfl rfl rfl rfl rfl rfl rfl rfl rfl rfl rfl rfl (fun hb => ?_) ?_; rotate_left
        ·
         (try simp only [hcS] at hb)
         (first | refine aqP (op_fa_ptr rfl rfl rfl fl42_0 (by exact sz23) (by decide) rfl) ?_ | refine aqP (op_fa_rop rfl rfl fl42_0 (by exact sz23) (by decide) (Nat.le_of_ble_eq_true rfl) rfl) ?_)
         (first | refine aqR (op_load_ptr1 rfl rfl rfl rfl ag23 rfl rfl) ?_ | refine aqR (op_load_rop1 rfl rfl ag23) ?_)
         refine aqP (op_move rfl rfl) ?_
         (first | refine aqP (op_ia_ro i rfl (.inl rfl) rfl Try.underlying23 rfl (gI_mapD (by omega)) (by exact sz3) (Nat.le_of_ble_eq_true rfl)) ?_ | refine aqP (op_ia_sl _ _ rfl rfl rfl rfl Try.underlying23 rfl (by omega) (by exact sz3) rfl) ?_)
         (first | refine aqR (op_load_ptr1 rfl rfl rfl rfl ag3 rfl rfl) ?_ | refine aqR (op_load_rop1 rfl rfl ag3) ?_)
         (first | refine aqP (op_fa_ptr rfl rfl rfl fl42_0 (by exact sz23) (by decide) rfl) ?_ | refine aqP (op_fa_rop rfl rfl fl42_0 (by exact sz23) (by decide) (Nat.le_of_ble_eq_true rfl) rfl) ?_)
         (first | refine aqR (op_load_ptr1 rfl rfl rfl rfl ag23 rfl rfl) ?_ | refine aqR (op_load_rop1 rfl rfl ag23) ?_)
         refine aqP (op_move rfl rfl) ?_
         (first | refine aqP (op_ia_ro k rfl (.inl rfl) rfl Try.underlying23 rfl (gI_mapD (by omega)) (by exact sz3) (Nat.le_of_ble_eq_true rfl)) ?_ | refine aqP (op_ia_sl _ _ rfl rfl rfl rfl Try.underlying23 rfl (by omega) (by exact sz3) rfl) ?_)
         (first | refine aqR (op_load_ptr1 rfl rfl rfl rfl ag3 rfl rfl) ?_ | refine aqR (op_load_rop1 rfl rfl ag3) ?_)
         (first | refine aqP (op_eql rfl rfl rfl) ?_ | refine aqP (op_seql rfl rfl rfl) ?_)
         (refine aqSeg rfl rfl rfl ?_; repeat (first | exact fun _ _ => rfl | refine upd_out rfl ?_ | refine era_out rfl ?_))
        (try simp only [nA, Nat.reduceBEq, Nat.reduceEqDiff, ↓reduceIte, Nat.reduceAdd, Nat.reduceSub])
        refine AQ.nil ?_
        (refine hK _ ?_; clear hK K; (try simp only [nA, Nat.reduceBEq, Nat.reduceEqDiff, ↓reduceIte, Nat.reduceAdd, Nat.reduceSub]))
        refine AW.cond rfl rfl rfl (fun hc => ?_) (fun hc => ?_)
        ·
         (try simp only [hcS] at hc); have hc8 := hc; skip
         (refine AW.seq_k ?_; intro K hK)
         refine AW.region ?_
         refine awP (op_assign rfl rfl) ?_
         refine AWL.nil ?_
         (refine hK _ ?_; clear hK K; (try simp only [nA, Nat.reduceBEq, Nat.reduceEqDiff, ↓reduceIte, Nat.reduceAdd, Nat.reduceSub]))
         skip
         refine AW.ret ?_; (try simp only [thenE, inBlk, Nat.reduceEqDiff, ↓reduceIte]); have hp5 := pair5 (x := x) (y := y) (m := m) (fun h => h i (by omega) k (by omega) (by omega)); rw [chk5 he0 hlen hrg hpr (by omega), hp5]; exact RQ.of0 rfl (.tmp (Nat.le_of_ble_eq_true rfl) rfl rfl .nil)
        ·
         (try simp only [hcS] at hc); have hc8 := hc; skip
         refine AW.skip ?_
         (try simp only [thenE, inBlk, Nat.reduceEqDiff, ↓reduceIte])
         (refine hK _ ?_; clear hK K; (try simp only [nA, Nat.reduceBEq, Nat.reduceEqDiff, ↓reduceIte, Nat.reduceAdd, Nat.reduceSub]))
         refine AW.region ?_
         refine awP (op_move rfl rfl) ?_
         (first | refine awP (op_addi rfl rfl rfl (by omega)) ?_ | refine awP (op_add rfl rfl rfl rfl) ?_)
         refine awP (op_assign rfl rfl) ?_
         skip
         refine AWL.nil ?_
         refine ⟨k + 1, ⟨by omega, lt_succ hk.2 (by omega)⟩, by omega, ⟨rfl, rfl, rfl, rfl, rfl, rfl, rfl, rfl, rfl, trivial⟩, (by first | rfl | trivial), (by first | rfl | trivial)⟩
       ·
        (try simp only [hcS] at hc); have hc7 := hc; skip
        refine AW.exit ?_; (try simp only [thenE, inBlk, Nat.reduceEqDiff, ↓reduceIte])
        clear hK K
        (try simp only [thenE, inBlk, Nat.reduceEqDiff, ↓reduceIte])
        (refine hK _ ?_; clear hK K; (try simp only [nA, Nat.reduceBEq, Nat.reduceEqDiff, ↓reduceIte, Nat.reduceAdd, Nat.reduceSub]))
        refine AW.region ?_
        refine awP (op_move rfl rfl) ?_
        (first | refine awP (op_addi rfl rfl rfl (by omega)) ?_ | refine awP (op_add rfl rfl rfl rfl) ?_)
        refine awP (op_assign rfl rfl) ?_
        skip
        refine AWL.nil ?_
        refine ⟨i + 1, ⟨by omega, lt_succ hi.2 fun q hq => hk.2 q (by omega)⟩, by omega, ⟨rfl, rfl, rfl, rfl, rfl, rfl, rfl, rfl, trivial⟩, (by first | rfl | trivial), (by first | rfl | trivial)⟩
      ·
       (try simp only [hcS] at hc); have hc6 := hc; have hnd : noDup m.pairs m.pairs.length := fun j hj => hi.2 j (by omega)
       refine AW.exit ?_; (try simp only [thenE, inBlk, Nat.reduceEqDiff, ↓reduceIte])
       clear hK K
       (refine hK _ ?_; clear hK K; (try simp only [nA, Nat.reduceBEq, Nat.reduceEqDiff, ↓reduceIte, Nat.reduceAdd, Nat.reduceSub]))
       (refine AW.seq_k ?_; intro K hK)
       (refine AW.seq_k ?_; intro K hK)
       refine AW.region ?_
       refine awP (op_assign rfl rfl) ?_
       refine AWL.nil ?_
       (refine hK _ ?_; clear hK K; (try simp only [nA, Nat.reduceBEq, Nat.reduceEqDiff, ↓reduceIte, Nat.reduceAdd, Nat.reduceSub]))
       refine AW.block ?_
       refine AW.loopI (fun (j : Nat) => [(0, .ro (x.map Desc.av)), (1, .ro (y.map Desc.av)), (5, .rop m.av), (9, .v (.int .i64 (prS m.rows))), (11, .v (.int .i64 (prS m.cols))), (13, .v (.int .i64 (sumN j (term (scD x y) (gI m.pairs))))), (14, .v (.bool (misB (scD x y) m.pairs j))), (17, .v (.int .i64 (j : Nat)))]) (fun _ => ⟨[], 1⟩) (fun j => j ≤ x.length) (fun j => x.length - j) 0 (Nat.zero_le _) ⟨rfl, rfl, rfl, rfl, rfl, rfl, rfl, rfl, trivial⟩ rfl ?_; intro j ρ4 hj; simp only [updL]; (try simp only [nA, Nat.reduceBEq, Nat.reduceEqDiff, ↓reduceIte, Nat.reduceAdd, Nat.reduceSub]); have hsb := sumN_bd (n := j) (g := term (scD x y) (gI m.pairs)) (B := 890) (fun q _ => term_bd scD_bd)
       (refine AW.seq_k ?_; intro K hK)
       (refine AW.seq_k ?_; intro K hK)
       refine AW.region ?_
       refine awP (op_move rfl rfl) ?_
       (first | refine awP (op_fa_ptr rfl rfl rfl fl42_0 (by exact sz23) (by decide) rfl) ?_ | refine awP (op_fa_rop rfl rfl fl42_0 (by exact sz23) (by decide) (Nat.le_of_ble_eq_true rfl) rfl) ?_)
       (first | refine awR (op_load_ptr1 rfl rfl rfl rfl ag23 rfl rfl) ?_ | refine awR (op_load_rop1 rfl rfl ag23) ?_)
       (first | refine awP (op_len_ro rfl rfl Try.underlying23 (by first | exact .inr (.inl ⟨_, rfl, rfl⟩) | exact .inl rfl | exact .inr (.inr (.inl ⟨_, rfl, rfl⟩)) | exact .inr (.inr (.inr ⟨rfl, rfl⟩)))) ?_ | refine awP (op_len_sl rfl rfl rfl Try.underlying23) ?_ | refine awP (op_len_str rfl rfl Try.underlying23) ?_)
       refine awP (op_lss rfl rfl rfl) ?_
       refine AWL.nil ?_
       (refine hK _ ?_; clear hK K; (try simp only [nA, Nat.reduceBEq, Nat.reduceEqDiff, ↓reduceIte, Nat.reduceAdd, Nat.reduceSub]))
       refine AW.cond rfl rfl rfl (fun hc => ?_) (fun hc => ?_)
       ·
        (try simp only [hcS] at hc); have hc9 := hc; have hj2 : j < x.length := (by omega); have hpg := hrg j (by omega); obtain ⟨v, hv⟩ : ∃ v, gI m.pairs j = v := ⟨_, rfl⟩; rw [hv] at hpg; have htm : term (scD x y) (gI m.pairs) j = if 0 ≤ v then scD x y j v.toNat else 0 := (by unfold term; rw [hv]); have hms := misB_succ (sc := scD x y) (p := m.pairs) (j := j); rw [hv] at hms; have hsd := scD_bd (x := x) (y := y) j v.toNat
        refine AW.skip ?_
        (refine hK _ ?_; clear hK K; (try simp only [nA, Nat.reduceBEq, Nat.reduceEqDiff, ↓reduceIte, Nat.reduceAdd, Nat.reduceSub]))
        (refine AW.seq_k ?_; intro K hK)
        refine AW.block ?_
        (refine AW.seq_k ?_; intro K hK)
        refine AW.region ?_
        (first | refine awP (op_fa_ptr rfl rfl rfl fl42_0 (by exact sz23) (by decide) rfl) ?_ | refine awP (op_fa_rop rfl rfl fl42_0 (by exact sz23) (by decide) (Nat.le_of_ble_eq_true rfl) rfl) ?_)
        (first | refine awR (op_load_ptr1 rfl rfl rfl rfl ag23 rfl rfl) ?_ | refine awR (op_load_rop1 rfl rfl ag23) ?_)
        refine awP (op_move rfl rfl) ?_
        (first | refine awP (op_ia_ro j rfl (.inl rfl) rfl Try.underlying23 rfl (row := iv v) (by rw [gI_mapD (by omega), hv]) (by exact sz3) (Nat.le_of_ble_eq_true rfl)) ?_ | refine awP (op_ia_sl _ _ rfl rfl rfl rfl Try.underlying23 rfl (by omega) (by exact sz3) rfl) ?_)
        (first | refine awR (op_load_ptr1 rfl rfl rfl rfl ag3 rfl rfl) ?_ | refine awR (op_load_rop1 rfl rfl ag3) ?_)
        refine awP (op_geq rfl rfl rfl) ?_
        refine AWL.nil ?_
        (refine hK _ ?_; clear hK K; (try simp only [nA, Nat.reduceBEq, Nat.reduceEqDiff, ↓reduceIte, Nat.reduceAdd, Nat.reduceSub]))
        refine AW.cond rfl rfl rfl (fun hc => ?_) (fun hc => ?_)
        ·
         (try simp only [hcS] at hc); have hc10 := hc; skip
         (refine AW.seq_k ?_; intro K hK)
         refine AW.quiet mix (by kernel_rfl) ?_
         refine aqP (op_move rfl rfl) ?_
         refine aqP (op_move rfl rfl) ?_
         (first | refine aqP (op_ia_ro j rfl (.inl rfl) rfl Try.underlying22 rfl (get_mapD (by omega)) (by exact sz30) (Nat.le_of_ble_eq_true rfl)) ?_ | refine aqP (op_ia_sl _ _ rfl rfl rfl rfl Try.underlying22 rfl (by omega) (by exact sz30) rfl) ?_)
         (first | refine aqR (op_load_ptr rfl rfl rfl rfl ag30 sz30 (Nat.le_of_ble_eq_true rfl) rfl) ?_ | refine aqR (op_load_rop rfl rfl ag30 sz30 (Nat.le_of_ble_eq_true rfl) (by decide) rfl) ?_)
         refine aqP (op_move rfl rfl) ?_
         (first | refine aqP (op_fa_ptr rfl rfl rfl fl42_0 (by exact sz23) (by decide) rfl) ?_ | refine aqP (op_fa_rop rfl rfl fl42_0 (by exact sz23) (by decide) (Nat.le_of_ble_eq_true rfl) rfl) ?_)
         (first | refine aqR (op_load_ptr1 rfl rfl rfl rfl ag23 rfl rfl) ?_ | refine aqR (op_load_rop1 rfl rfl ag23) ?_)
         refine aqP (op_move rfl rfl) ?_
         (first | refine aqP (op_ia_ro j rfl (.inl rfl) rfl Try.underlying23 rfl (row := iv v) (by rw [gI_mapD (by omega), hv]) (by exact sz3) (Nat.le_of_ble_eq_true rfl)) ?_ | refine aqP (op_ia_sl _ _ rfl rfl rfl rfl Try.underlying23 rfl (by omega) (by exact sz3) rfl) ?_)
         (first | refine aqR (op_load_ptr1 rfl rfl rfl rfl ag3 rfl rfl) ?_ | refine aqR (op_load_rop1 rfl rfl ag3) ?_)
         (first | refine aqP (op_ia_ro v.toNat rfl (.inl rfl) rfl Try.underlying22 (by omega) (get_mapD (by omega)) (by exact sz30) (Nat.le_of_ble_eq_true rfl)) ?_ | refine aqP (op_ia_sl _ _ rfl rfl rfl rfl Try.underlying22 rfl (by omega) (by exact sz30) rfl) ?_)
         (first | refine aqR (op_load_ptr rfl rfl rfl rfl ag30 sz30 (Nat.le_of_ble_eq_true rfl) rfl) ?_ | refine aqR (op_load_rop rfl rfl ag30 sz30 (Nat.le_of_ble_eq_true rfl) (by decide) rfl) ?_)
         refine aqQ (op_callQ (b := true) rfl en19 (C19 (a := x.getD j default) (b := y.getD v.toNat default) (hx _ (getD_mem (by omega))) (hy _ (getD_mem (by omega)))) (RL.cons (by first | exact View.same rfl | exact View.nil | exact View.rof | exact View.src .ro | exact View.src .rof | exact View.src (.sl rfl rfl) | exact View.ptr rfl rfl rfl) (RL.cons (by first | exact View.same rfl | exact View.nil | exact View.rof | exact View.src .ro | exact View.src .rof | exact View.src (.sl rfl rfl) | exact View.ptr rfl rfl rfl) (RL.nil))) rfl) ?_; (try simp only [nA, Nat.reduceBEq, Nat.reduceEqDiff, ↓reduceIte, Nat.reduceAdd, Nat.reduceSub])
         refine aqP (op_assign (x := .v (.int .i64 (scD x y j v.toNat))) rfl rfl) ?_
         refine AQ.nil ?_
         (refine hK _ ?_; clear hK K; (try simp only [nA, Nat.reduceBEq, Nat.reduceEqDiff, ↓reduceIte, Nat.reduceAdd, Nat.reduceSub]))
         (refine AW.seq_k ?_; intro K hK)
         refine AW.region (AWL.quiet ?_)
         refine aqP (op_move rfl rfl) ?_
         refine aqP (op_move rfl rfl) ?_
         refine' aqOr' [_, _] [149,150] rfl rfl rfl rfl rfl rfl rfl rfl rfl rfl rfl rfl (fun hb => ?_) ?_; rotate_left
         ·
          (try simp only [hcS] at hb)
          refine aqP (op_move rfl rfl) ?_
          (first | refine aqP (op_eql rfl rfl rfl) ?_ | refine aqP (op_seql rfl rfl rfl) ?_)
          (refine aqSeg rfl rfl rfl ?_; repeat (first | exact fun _ _ => rfl | refine upd_out rfl ?_ | refine era_out rfl ?_))
         (try simp only [nA, Nat.reduceBEq, Nat.reduceEqDiff, ↓reduceIte, Nat.reduceAdd, Nat.reduceSub])
         refine aqP (op_assign rfl rfl) ?_
         refine AQ.nil ?_
         (refine hK _ ?_; clear hK K; (try simp only [nA, Nat.reduceBEq, Nat.reduceEqDiff, ↓reduceIte, Nat.reduceAdd, Nat.reduceSub]))
         refine AW.region ?_
         refine awP (op_move rfl rfl) ?_
         refine awP (op_move rfl rfl) ?_
         (first | refine awP (op_addi rfl rfl rfl (by omega)) ?_ | refine awP (op_add rfl rfl rfl rfl) ?_)
         refine awP (op_assign rfl rfl) ?_
         refine AWL.nil ?_
         (try simp only [thenE, inBlk, Nat.reduceEqDiff, ↓reduceIte])
         (refine hK _ ?_; clear hK K; (try simp only [nA, Nat.reduceBEq, Nat.reduceEqDiff, ↓reduceIte, Nat.reduceAdd, Nat.reduceSub]))
         refine AW.region ?_
         refine awP (op_move rfl rfl) ?_
         (first | refine awP (op_addi rfl rfl rfl (by omega)) ?_ | refine awP (op_add rfl rfl rfl rfl) ?_)
         refine awP (op_assign rfl rfl) ?_
         skip
         refine AWL.nil ?_
         refine ⟨j + 1, by omega, by omega, ⟨rfl, rfl, rfl, rfl, rfl, (by rw [sumN_succ, htm, if_pos (by omega)]; rfl), (by rw [hms, decide_eq_true (by omega : 0 ≤ v), Bool.true_and]; rfl), rfl, trivial⟩, (by first | rfl | trivial), (by first | rfl | trivial)⟩
        ·
         (try simp only [hcS] at hc); have hc10 := hc; skip
         refine AW.skip ?_
         (try simp only [thenE, inBlk, Nat.reduceEqDiff, ↓reduceIte])
         (refine hK _ ?_; clear hK K; (try simp only [nA, Nat.reduceBEq, Nat.reduceEqDiff, ↓reduceIte, Nat.reduceAdd, Nat.reduceSub]))
         refine AW.region ?_
         refine awP (op_move rfl rfl) ?_
         (first | refine awP (op_addi rfl rfl rfl (by omega)) ?_ | refine awP (op_add rfl rfl rfl rfl) ?_)
         refine awP (op_assign rfl rfl) ?_
         refine AWL.nil ?_
         refine ⟨j + 1, by omega, by omega, ⟨rfl, rfl, rfl, rfl, rfl, (by rw [sumN_succ, htm, if_neg (by omega), Int.add_zero]; rfl), (by rw [hms, decide_eq_false (by omega : ¬ 0 ≤ v), Bool.false_and, Bool.or_false]; rfl), rfl, trivial⟩, (by first | rfl | trivial), (by first | rfl | trivial)⟩
       ·
        (try simp only [hcS] at hc); have hc9 := hc; obtain rfl : j = m.pairs.length := (by omega)
        refine AW.exit ?_; (try simp only [thenE, inBlk, Nat.reduceEqDiff, ↓reduceIte])
        clear hK K
        (refine hK _ ?_; clear hK K; (try simp only [nA, Nat.reduceBEq, Nat.reduceEqDiff, ↓reduceIte, Nat.reduceAdd, Nat.reduceSub]))
        (refine AW.seq_k ?_; intro K hK)
        (refine AW.seq_k ?_; intro K hK)
        refine AW.region ?_
        refine awP (op_move rfl rfl) ?_
        refine AWL.nil ?_
        (refine hK _ ?_; clear hK K; (try simp only [nA, Nat.reduceBEq, Nat.reduceEqDiff, ↓reduceIte, Nat.reduceAdd, Nat.reduceSub]))
        refine AW.cond rfl rfl rfl (fun hc => ?_) (fun hc => ?_)
        ·
         (try simp only [hcS] at hc); have hc11 := hc; skip
         (refine AW.seq_k ?_; intro K hK)
         refine AW.region ?_
         refine awP (op_assign rfl rfl) ?_
         refine AWL.nil ?_
         (refine hK _ ?_; clear hK K; (try simp only [nA, Nat.reduceBEq, Nat.reduceEqDiff, ↓reduceIte, Nat.reduceAdd, Nat.reduceSub]))
         skip
         refine AW.ret ?_; (try simp only [thenE, inBlk, Nat.reduceEqDiff, ↓reduceIte]); have hp5 := pair6 (x := x) (y := y) (m := m) hnd hc11; rw [chk5 he0 hlen hrg hpr (by omega), hp5]; exact RQ.of0 rfl (.tmp (Nat.le_of_ble_eq_true rfl) rfl rfl .nil)
        ·
         (try simp only [hcS] at hc); have hc11 := hc; skip
         refine AW.skip ?_
         (refine hK _ ?_; clear hK K; (try simp only [nA, Nat.reduceBEq, Nat.reduceEqDiff, ↓reduceIte, Nat.reduceAdd, Nat.reduceSub]))
         (refine AW.seq_k ?_; intro K hK)
         (refine AW.seq_k ?_; intro K hK)
         refine AW.region ?_
         (first | refine awP (op_fa_ptr rfl rfl rfl fl42_3 (by exact sz3) (by decide) rfl) ?_ | refine awP (op_fa_rop rfl rfl fl42_3 (by exact sz3) (by decide) (Nat.le_of_ble_eq_true rfl) rfl) ?_)
         (first | refine awR (op_load_ptr1 rfl rfl rfl rfl ag3 rfl rfl) ?_ | refine awR (op_load_rop1 rfl rfl ag3) ?_)
         refine awP (op_move rfl rfl) ?_
         (first | refine awP (op_neq rfl rfl rfl) ?_ | refine awP (op_sneq rfl rfl rfl) ?_)
         refine AWL.nil ?_
         (refine hK _ ?_; clear hK K; (try simp only [nA, Nat.reduceBEq, Nat.reduceEqDiff, ↓reduceIte, Nat.reduceAdd, Nat.reduceSub]))
         refine AW.cond rfl rfl rfl (fun hc => ?_) (fun hc => ?_)
         ·
          (try simp only [hcS] at hc); have hc12 := hc; skip
          (refine AW.seq_k ?_; intro K hK)
          refine AW.region ?_
          refine awP (op_assign rfl rfl) ?_
          refine AWL.nil ?_
          (refine hK _ ?_; clear hK K; (try simp only [nA, Nat.reduceBEq, Nat.reduceEqDiff, ↓reduceIte, Nat.reduceAdd, Nat.reduceSub]))
          skip
          refine AW.ret ?_; (try simp only [thenE, inBlk, Nat.reduceEqDiff, ↓reduceIte]); have hp5 := pair7 (x := x) (y := y) (m := m) hnd hc11 (by omega); rw [chk5 he0 hlen hrg hpr (by omega), hp5]; exact RQ.of0 rfl (.tmp (Nat.le_of_ble_eq_true rfl) rfl rfl .nil)
         ·
          (try simp only [hcS] at hc); have hc12 := hc; have hpa := pair8 (x := x) (y := y) (m := m) hnd hc11 (by omega)
          refine AW.skip ?_
          (refine hK _ ?_; clear hK K; (try simp only [nA, Nat.reduceBEq, Nat.reduceEqDiff, ↓reduceIte, Nat.reduceAdd, Nat.reduceSub]))
          (refine AW.seq_k ?_; intro K hK)
          (refine AW.seq_k ?_; intro K hK)
          refine AW.region ?_
          refine awP (op_assign rfl rfl) ?_
          refine AWL.nil ?_
          (refine hK _ ?_; clear hK K; (try simp only [nA, Nat.reduceBEq, Nat.reduceEqDiff, ↓reduceIte, Nat.reduceAdd, Nat.reduceSub]))
          refine AW.block ?_
          refine AW.loopI (fun (i : Nat) => [(0, .ro (x.map Desc.av)), (1, .ro (y.map Desc.av)), (5, .rop m.av), (9, .v (.int .i64 (prS m.rows))), (11, .v (.int .i64 (prS m.cols))), (13, .v (.int .i64 (sumN m.pairs.length (term (scD x y) (gI m.pairs))))), (19, .v (.int .i64 (i : Nat)))]) (fun _ => ⟨[], 1⟩) (fun i => i ≤ x.length ∧ feP x y m i) (fun i => x.length - i) 0 ⟨Nat.zero_le _, fun i hi => absurd hi (Nat.not_lt_zero i)⟩ ⟨rfl, rfl, rfl, rfl, rfl, rfl, rfl, trivial⟩ rfl ?_; intro i ρ5 hi; simp only [updL]; (try simp only [nA, Nat.reduceBEq, Nat.reduceEqDiff, ↓reduceIte, Nat.reduceAdd, Nat.reduceSub])
          (refine AW.seq_k ?_; intro K hK)
          (refine AW.seq_k ?_; intro K hK)
          refine AW.region ?_
          refine awP (op_move rfl rfl) ?_
          refine awP (op_move rfl rfl) ?_
          (first | refine awP (op_len_ro rfl rfl Try.underlying22 (by first | exact .inr (.inl ⟨_, rfl, rfl⟩) | exact .inl rfl | exact .inr (.inr (.inl ⟨_, rfl, rfl⟩)) | exact .inr (.inr (.inr ⟨rfl, rfl⟩)))) ?_ | refine awP (op_len_sl rfl rfl rfl Try.underlying22) ?_ | refine awP (op_len_str rfl rfl Try.underlying22) ?_)
          refine awP (op_lss rfl rfl rfl) ?_
          refine AWL.nil ?_
          (refine hK _ ?_; clear hK K; (try simp only [nA, Nat.reduceBEq, Nat.reduceEqDiff, ↓reduceIte, Nat.reduceAdd, Nat.reduceSub]))
          refine AW.cond rfl rfl rfl (fun hc => ?_) (fun hc => ?_)
          ·
           (try simp only [hcS] at hc); have hc13 := hc; have hi2 : i < x.length := (by omega); have hri := hpR i hi2
           refine AW.skip ?_
           (refine hK _ ?_; clear hK K; (try simp only [nA, Nat.reduceBEq, Nat.reduceEqDiff, ↓reduceIte, Nat.reduceAdd, Nat.reduceSub]))
           (refine AW.seq_k ?_; intro K hK)
           refine AW.block ?_
           (refine AW.seq_k ?_; intro K hK)
           refine AW.region ?_
           refine awP (op_assign rfl rfl) ?_
           refine AWL.nil ?_
           (refine hK _ ?_; clear hK K; (try simp only [nA, Nat.reduceBEq, Nat.reduceEqDiff, ↓reduceIte, Nat.reduceAdd, Nat.reduceSub]))
           refine AW.block ?_
           refine AW.loopI (fun (k : Nat) => [(0, .ro (x.map Desc.av)), (1, .ro (y.map Desc.av)), (5, .rop m.av), (9, .v (.int .i64 (prS m.rows))), (11, .v (.int .i64 (prS m.cols))), (13, .v (.int .i64 (sumN m.pairs.length (term (scD x y) (gI m.pairs))))), (19, .v (.int .i64 (i : Nat))), (20, .v (.int .i64 (k : Nat)))]) (fun _ => ⟨[], 1⟩) (fun k => k ≤ y.length ∧ ∀ q, q < k → scD x y i q ≤ gI m.rows i + gI m.cols q) (fun k => y.length - k) 0 ⟨Nat.zero_le _, fun i hi => absurd hi (Nat.not_lt_zero i)⟩ ⟨rfl, rfl, rfl, rfl, rfl, rfl, rfl, rfl, trivial⟩ rfl ?_; intro k ρ6 hk; simp only [updL]; (try simp only [nA, Nat.reduceBEq, Nat.reduceEqDiff, ↓reduceIte, Nat.reduceAdd, Nat.reduceSub])
           (refine AW.seq_k ?_; intro K hK)
           (refine AW.seq_k ?_; intro K hK)
           refine AW.region ?_
           refine awP (op_move rfl rfl) ?_
           refine awP (op_move rfl rfl) ?_
           (first | refine awP (op_len_ro rfl rfl Try.underlying22 (by first | exact .inr (.inl ⟨_, rfl, rfl⟩) | exact .inl rfl | exact .inr (.inr (.inl ⟨_, rfl, rfl⟩)) | exact .inr (.inr (.inr ⟨rfl, rfl⟩)))) ?_ | refine awP (op_len_sl rfl rfl rfl Try.underlying22) ?_ | refine awP (op_len_str rfl rfl Try.underlying22) ?_)
           refine awP (op_lss rfl rfl rfl) ?_
           refine AWL.nil ?_
           (refine hK _ ?_; clear hK K; (try simp only [nA, Nat.reduceBEq, Nat.reduceEqDiff, ↓reduceIte, Nat.reduceAdd, Nat.reduceSub]))
           refine AW.cond rfl rfl rfl (fun hc => ?_) (fun hc => ?_)
           ·
            (try simp only [hcS] at hc); have hc14 := hc; have hk2 : k < y.length := (by omega); have hck := hpC k hk2
            refine AW.skip ?_
            (refine hK _ ?_; clear hK K; (try simp only [nA, Nat.reduceBEq, Nat.reduceEqDiff, ↓reduceIte, Nat.reduceAdd, Nat.reduceSub]))
            (refine AW.seq_k ?_; intro K hK)
            refine AW.block ?_
            (refine AW.seq_k ?_; intro K hK)
            refine AW.quiet mix (by kernel_rfl) ?_
            (first | refine aqP (op_fa_ptr rfl rfl rfl fl42_1 (by exact sz23) (by decide) rfl) ?_ | refine aqP (op_fa_rop rfl rfl fl42_1 (by exact sz23) (by decide) (Nat.le_of_ble_eq_true rfl) rfl) ?_)
            (first | refine aqR (op_load_ptr1 rfl rfl rfl rfl ag23 rfl rfl) ?_ | refine aqR (op_load_rop1 rfl rfl ag23) ?_)
            refine aqP (op_move rfl rfl) ?_
            (first | refine aqP (op_ia_ro i rfl (.inl rfl) rfl Try.underlying23 rfl (gI_mapD (by omega)) (by exact sz3) (Nat.le_of_ble_eq_true rfl)) ?_ | refine aqP (op_ia_sl _ _ rfl rfl rfl rfl Try.underlying23 rfl (by omega) (by exact sz3) rfl) ?_)
            (first | refine aqR (op_load_ptr1 rfl rfl rfl rfl ag3 rfl rfl) ?_ | refine aqR (op_load_rop1 rfl rfl ag3) ?_)
            (first | refine aqP (op_fa_ptr rfl rfl rfl fl42_2 (by exact sz23) (by decide) rfl) ?_ | refine aqP (op_fa_rop rfl rfl fl42_2 (by exact sz23) (by decide) (Nat.le_of_ble_eq_true rfl) rfl) ?_)
            (first | refine aqR (op_load_ptr1 rfl rfl rfl rfl ag23 rfl rfl) ?_ | refine aqR (op_load_rop1 rfl rfl ag23) ?_)
            refine aqP (op_move rfl rfl) ?_
            (first | refine aqP (op_ia_ro k rfl (.inl rfl) rfl Try.underlying23 rfl (gI_mapD (by omega)) (by exact sz3) (Nat.le_of_ble_eq_true rfl)) ?_ | refine aqP (op_ia_sl _ _ rfl rfl rfl rfl Try.underlying23 rfl (by omega) (by exact sz3) rfl) ?_)
            (first | refine aqR (op_load_ptr1 rfl rfl rfl rfl ag3 rfl rfl) ?_ | refine aqR (op_load_rop1 rfl rfl ag3) ?_)
            (first | refine aqP (op_addi rfl rfl rfl (by omega)) ?_ | refine aqP (op_add rfl rfl rfl rfl) ?_)
            refine aqP (op_move rfl rfl) ?_
            refine aqP (op_move rfl rfl) ?_
            (first | refine aqP (op_ia_ro i rfl (.inl rfl) rfl Try.underlying22 rfl (get_mapD (by omega)) (by exact sz30) (Nat.le_of_ble_eq_true rfl)) ?_ | refine aqP (op_ia_sl _ _ rfl rfl rfl rfl Try.underlying22 rfl (by omega) (by exact sz30) rfl) ?_)
            (first | refine aqR (op_load_ptr rfl rfl rfl rfl ag30 sz30 (Nat.le_of_ble_eq_true rfl) rfl) ?_ | refine aqR (op_load_rop rfl rfl ag30 sz30 (Nat.le_of_ble_eq_true rfl) (by decide) rfl) ?_)
            refine aqP (op_move rfl rfl) ?_
            refine aqP (op_move rfl rfl) ?_
            (first | refine aqP (op_ia_ro k rfl (.inl rfl) rfl Try.underlying22 rfl (get_mapD (by omega)) (by exact sz30) (Nat.le_of_ble_eq_true rfl)) ?_ | refine aqP (op_ia_sl _ _ rfl rfl rfl rfl Try.underlying22 rfl (by omega) (by exact sz30) rfl) ?_)
            (first | refine aqR (op_load_ptr rfl rfl rfl rfl ag30 sz30 (Nat.le_of_ble_eq_true rfl) rfl) ?_ | refine aqR (op_load_rop rfl rfl ag30 sz30 (Nat.le_of_ble_eq_true rfl) (by decide) rfl) ?_)
            refine aqQ (op_callQ (b := true) rfl en19 (C19 (a := x.getD i default) (b := y.getD k default) (hx _ (getD_mem (by omega))) (hy _ (getD_mem (by omega)))) (RL.cons (by first | exact View.same rfl | exact View.nil | exact View.rof | exact View.src .ro | exact View.src .rof | exact View.src (.sl rfl rfl) | exact View.ptr rfl rfl rfl) (RL.cons (by first | exact View.same rfl | exact View.nil | exact View.rof | exact View.src .ro | exact View.src .rof | exact View.src (.sl rfl rfl) | exact View.ptr rfl rfl rfl) (RL.nil))) rfl) ?_; (try simp only [nA, Nat.reduceBEq, Nat.reduceEqDiff, ↓reduceIte, Nat.reduceAdd, Nat.reduceSub])
            refine aqP (op_lss rfl rfl rfl) ?_
            refine AQ.nil ?_
            (refine hK _ ?_; clear hK K; (try simp only [nA, Nat.reduceBEq, Nat.reduceEqDiff, ↓reduceIte, Nat.reduceAdd, Nat.reduceSub]))
            refine AW.cond rfl rfl rfl (fun hc => ?_) (fun hc => ?_)
            ·
             (try simp only [hcS] at hc); have hc15 := hc; have hbad : ¬ scD x y i k ≤ gI m.rows i + gI m.cols k := (by show ¬ scoreF _ _ ≤ _; omega)
             (refine AW.seq_k ?_; intro K hK)
             refine AW.region ?_
             refine awP (op_assign rfl rfl) ?_
             refine AWL.nil ?_
             (refine hK _ ?_; clear hK K; (try simp only [nA, Nat.reduceBEq, Nat.reduceEqDiff, ↓reduceIte, Nat.reduceAdd, Nat.reduceSub]))
             skip
             refine AW.ret ?_; (try simp only [thenE, inBlk, Nat.reduceEqDiff, ↓reduceIte]); rw [chk6 he0 hlen hrg hpr hpa (fun h => hbad (h i hi2 k hk2))]; exact RQ.of0 rfl (.tmp (Nat.le_of_ble_eq_true rfl) rfl rfl .nil)
            ·
             (try simp only [hcS] at hc); have hc15 := hc; have hgood : scD x y i k ≤ gI m.rows i + gI m.cols k := (by show scoreF _ _ ≤ _; omega)
             refine AW.skip ?_
             (try simp only [thenE, inBlk, Nat.reduceEqDiff, ↓reduceIte])
             (refine hK _ ?_; clear hK K; (try simp only [nA, Nat.reduceBEq, Nat.reduceEqDiff, ↓reduceIte, Nat.reduceAdd, Nat.reduceSub]))
             refine AW.region ?_
             refine awP (op_move rfl rfl) ?_
             (first | refine awP (op_addi rfl rfl rfl (by omega)) ?_ | refine awP (op_add rfl rfl rfl rfl) ?_)
             refine awP (op_assign rfl rfl) ?_
             skip
             refine AWL.nil ?_
             refine ⟨k + 1, ⟨by omega, lt_succ hk.2 hgood⟩, by omega, ⟨rfl, rfl, rfl, rfl, rfl, rfl, rfl, rfl, trivial⟩, (by first | rfl | trivial), (by first | rfl | trivial)⟩
           ·
            (try simp only [hcS] at hc); have hc14 := hc; skip
            refine AW.exit ?_; (try simp only [thenE, inBlk, Nat.reduceEqDiff, ↓reduceIte])
            clear hK K
            (try simp only [thenE, inBlk, Nat.reduceEqDiff, ↓reduceIte])
            (refine hK _ ?_; clear hK K; (try simp only [nA, Nat.reduceBEq, Nat.reduceEqDiff, ↓reduceIte, Nat.reduceAdd, Nat.reduceSub]))
            refine AW.region ?_
            refine awP (op_move rfl rfl) ?_
            (first | refine awP (op_addi rfl rfl rfl (by omega)) ?_ | refine awP (op_add rfl rfl rfl rfl) ?_)
            refine awP (op_assign rfl rfl) ?_
            skip
            refine AWL.nil ?_
            refine ⟨i + 1, ⟨by omega, lt_succ hi.2 fun k' hk' => hk.2 k' (by omega)⟩, by omega, ⟨rfl, rfl, rfl, rfl, rfl, rfl, rfl, trivial⟩, (by first | rfl | trivial), (by first | rfl | trivial)⟩
          ·
           (try simp only [hcS] at hc); have hc13 := hc; obtain rfl : i = x.length := (by omega); have hfe : feP x y m x.length := hi.2
           refine AW.exit ?_; (try simp only [thenE, inBlk, Nat.reduceEqDiff, ↓reduceIte])
           clear hK K
           (refine hK _ ?_; clear hK K; (try simp only [nA, Nat.reduceBEq, Nat.reduceEqDiff, ↓reduceIte, Nat.reduceAdd, Nat.reduceSub]))
           (refine AW.seq_k ?_; intro K hK)
           (refine AW.seq_k ?_; intro K hK)
           refine AW.region ?_
           refine awP (op_move rfl rfl) ?_
           refine awP (op_move rfl rfl) ?_
           (first | refine awP (op_addi rfl rfl rfl (by omega)) ?_ | refine awP (op_add rfl rfl rfl rfl) ?_)
           refine awP (op_move rfl rfl) ?_
           (first | refine awP (op_neq rfl rfl rfl) ?_ | refine awP (op_sneq rfl rfl rfl) ?_)
           refine AWL.nil ?_
           (refine hK _ ?_; clear hK K; (try simp only [nA, Nat.reduceBEq, Nat.reduceEqDiff, ↓reduceIte, Nat.reduceAdd, Nat.reduceSub]))
           refine AW.cond rfl rfl rfl (fun hc => ?_) (fun hc => ?_)
           ·
            (try simp only [hcS] at hc); have hc16 := hc; skip
            (refine AW.seq_k ?_; intro K hK)
            refine AW.region ?_
            refine awP (op_assign rfl rfl) ?_
            refine AWL.nil ?_
            (refine hK _ ?_; clear hK K; (try simp only [nA, Nat.reduceBEq, Nat.reduceEqDiff, ↓reduceIte, Nat.reduceAdd, Nat.reduceSub]))
            skip
            refine AW.ret ?_; (try simp only [thenE, inBlk, Nat.reduceEqDiff, ↓reduceIte]); rw [chk7 he0 hlen hrg hpr hpa hfe (by omega)]; exact RQ.of0 rfl (.tmp (Nat.le_of_ble_eq_true rfl) rfl rfl .nil)
           ·
            (try simp only [hcS] at hc); have hc16 := hc; skip
            refine AW.skip ?_
            (refine hK _ ?_; clear hK K; (try simp only [nA, Nat.reduceBEq, Nat.reduceEqDiff, ↓reduceIte, Nat.reduceAdd, Nat.reduceSub]))
            (refine AW.seq_k ?_; intro K hK)
            refine AW.region ?_
            refine awP (op_assign rfl rfl) ?_
            refine AWL.nil ?_
            (refine hK _ ?_; clear hK K; (try simp only [nA, Nat.reduceBEq, Nat.reduceEqDiff, ↓reduceIte, Nat.reduceAdd, Nat.reduceSub]))
            skip
            refine AW.ret ?_; (try simp only [thenE, inBlk, Nat.reduceEqDiff, ↓reduceIte]); rw [chk8 he0 hlen hrg hpr hpa hfe (by omega)]; exact RQ.of0 rfl (.tmp (Nat.le_of_ble_eq_true rfl) rfl rfl .nil)
end Go.Proofs.Ytjgbbffcjbmjmaa
