import Derived.Test.YtngfknoddphhaaaMf
import Derived.Test.YtngfknoddphhaaaMd
namespace Go.Proofs.Ytngfknoddphhaaa
open Go.RowKit
set_option linter.unusedSimpArgs false
set_option linter.unusedVariables false

/-! ### The specification of Validate, Force, Add, Remove -/
theorem cmpP_bd (p q : Plate) : cmpP p q = -1 ∨ cmpP p q = 0 ∨ cmpP p q = 1 := by
  rcases cmpP_cases p q with ⟨_, e⟩ | ⟨_, e⟩ | ⟨_, e⟩ <;> omega
theorem C39 {c : Container} : Fn Try.prog 39 [] [.agg c.av] [.v (.int .i64 (valC c))] [] := by
  refine Spec.body Try.func39 rfl Try.ntmps39 (by simp) rfl ?_; intro S0 own0 v0 w0
  (refine AW.seq_k ?_; intro K hK)
  refine AW.region ?_
  refine awJ (op_box rfl rfl rfl sz29 rfl) ?_; (try simp only [evS, lcS, nzR, nzA, nzL, Nat.reduceBEq, Nat.reduceEqDiff, ↓reduceIte, Nat.reduceAdd, Nat.reduceSub])
  refine awP (op_assign rfl rfl) ?_; (try simp only [evS, lcS, nzR, nzA, nzL, Nat.reduceBEq, Nat.reduceEqDiff, ↓reduceIte, Nat.reduceAdd, Nat.reduceSub])
  refine AWL.nil ?_
  (refine hK _ ?_; clear hK K; (try simp only [evS, lcS, nzR, nzA, nzL, Nat.reduceBEq, Nat.reduceEqDiff, ↓reduceIte, Nat.reduceAdd, Nat.reduceSub]))
  (refine AW.seq_k ?_; intro K hK)
  (refine AW.seq_k ?_; intro K hK)
  refine AW.region ?_
  (first | refine awR (op_load_ptr rfl rfl rfl rfl ag29 sz29 (Nat.le_of_ble_eq_true rfl) rfl) ?_ | refine awR (op_load_rop rfl rfl ag29 sz29 (Nat.le_of_ble_eq_true rfl) (by decide) rfl) ?_); (try simp only [evS, lcS, nzR, nzA, nzL, Nat.reduceBEq, Nat.reduceEqDiff, ↓reduceIte, Nat.reduceAdd, Nat.reduceSub])
  refine awJ (OpQ.j (op_callQ (b := true) rfl en57 (C57 (c := c)) (RL.cons (by first | exact View.same rfl | exact View.nil | exact View.rof | exact View.src .ro | exact View.src .rof | exact View.src (.sl rfl rfl) | exact View.ptr rfl rfl rfl) (RL.nil)) rfl)) ?_; (try simp only [evS, lcS, nzR, nzA, nzL, Nat.reduceBEq, Nat.reduceEqDiff, ↓reduceIte, Nat.reduceAdd, Nat.reduceSub])
  refine awP (op_not rfl rfl rfl) ?_; (try simp only [evS, lcS, nzR, nzA, nzL, Nat.reduceBEq, Nat.reduceEqDiff, ↓reduceIte, Nat.reduceAdd, Nat.reduceSub])
  refine AWL.nil ?_
  (refine hK _ ?_; clear hK K; (try simp only [evS, lcS, nzR, nzA, nzL, Nat.reduceBEq, Nat.reduceEqDiff, ↓reduceIte, Nat.reduceAdd, Nat.reduceSub]))
  refine AW.cond rfl rfl rfl (fun hc => ?_) (fun hc => ?_)   -- cond 1
  · -- true
    (try simp only [Bool.and_eq_true, Bool.or_eq_true, Bool.or_eq_false_iff, Bool.and_eq_false_iff, decide_eq_true_eq, decide_eq_false_iff_not, Int.not_le, Int.not_lt, ge_iff_le, gt_iff_lt, Bool.not_eq_true', Bool.not_eq_false', bne_iff_ne, beq_iff_eq, bne_eq_false_iff_eq, beq_eq_false_iff_ne, ne_eq] at hc); have hc1 := hc; skip
    (refine AW.seq_k ?_; intro K hK)
    refine AW.region ?_
    refine awP (op_assign rfl rfl) ?_; (try simp only [evS, lcS, nzR, nzA, nzL, Nat.reduceBEq, Nat.reduceEqDiff, ↓reduceIte, Nat.reduceAdd, Nat.reduceSub])
    refine AWL.nil ?_
    (refine hK _ ?_; clear hK K; (try simp only [evS, lcS, nzR, nzA, nzL, Nat.reduceBEq, Nat.reduceEqDiff, ↓reduceIte, Nat.reduceAdd, Nat.reduceSub]))
    skip
    refine AW.ret ?_; (try simp only [thenE, inBlk, Nat.reduceEqDiff, ↓reduceIte]); rw [show valC c = 1 by unfold valC; rw [if_pos hc]]; exact RQ.of0 rfl (.tmp (Nat.le_of_ble_eq_true rfl) rfl rfl .nil)
  · -- false
    (try simp only [Bool.and_eq_true, Bool.or_eq_true, Bool.or_eq_false_iff, Bool.and_eq_false_iff, decide_eq_true_eq, decide_eq_false_iff_not, Int.not_le, Int.not_lt, ge_iff_le, gt_iff_lt, Bool.not_eq_true', Bool.not_eq_false', bne_iff_ne, beq_iff_eq, bne_eq_false_iff_eq, beq_eq_false_iff_ne, ne_eq] at hc); have hc1 := hc; skip
    refine AW.skip ?_
    (refine hK _ ?_; clear hK K; (try simp only [evS, lcS, nzR, nzA, nzL, Nat.reduceBEq, Nat.reduceEqDiff, ↓reduceIte, Nat.reduceAdd, Nat.reduceSub]))
    (refine AW.seq_k ?_; intro K hK)
    (refine AW.seq_k ?_; intro K hK)
    refine AW.region ?_
    (first | refine awP (op_fa_ptr rfl rfl rfl fl29_7 (by exact sz27) (by decide) rfl) ?_ | refine awP (op_fa_rop rfl rfl fl29_7 (by exact sz27) (by decide) (Nat.le_of_ble_eq_true rfl) rfl) ?_); (try simp only [evS, lcS, nzR, nzA, nzL, Nat.reduceBEq, Nat.reduceEqDiff, ↓reduceIte, Nat.reduceAdd, Nat.reduceSub])
    (first | refine awR (op_load_ptr1 rfl rfl rfl rfl ag27 rfl rfl) ?_ | refine awR (op_load_rop1 rfl rfl ag27) ?_); (try simp only [evS, lcS, nzR, nzA, nzL, Nat.reduceBEq, Nat.reduceEqDiff, ↓reduceIte, Nat.reduceAdd, Nat.reduceSub])
    (first | refine awP (op_len_ro rfl rfl Try.underlying27 (by first | exact .inr (.inl ⟨_, rfl, rfl⟩) | exact .inl rfl | exact .inr (.inr (.inl ⟨_, rfl, rfl⟩)) | exact .inr (.inr (.inr ⟨rfl, rfl⟩)))) ?_ | refine awP (op_len_sl rfl rfl rfl Try.underlying27) ?_ | refine awP (op_len_str rfl rfl Try.underlying27) ?_); (try simp only [evS, lcS, nzR, nzA, nzL, Nat.reduceBEq, Nat.reduceEqDiff, ↓reduceIte, Nat.reduceAdd, Nat.reduceSub])
    refine awP (op_gtr rfl rfl rfl) ?_; (try simp only [evS, lcS, nzR, nzA, nzL, Nat.reduceBEq, Nat.reduceEqDiff, ↓reduceIte, Nat.reduceAdd, Nat.reduceSub])
    refine AWL.nil ?_
    (refine hK _ ?_; clear hK K; (try simp only [evS, lcS, nzR, nzA, nzL, Nat.reduceBEq, Nat.reduceEqDiff, ↓reduceIte, Nat.reduceAdd, Nat.reduceSub]))
    refine AW.cond rfl rfl rfl (fun hc => ?_) (fun hc => ?_)   -- cond 2
    · -- true
      (try simp only [Bool.and_eq_true, Bool.or_eq_true, Bool.or_eq_false_iff, Bool.and_eq_false_iff, decide_eq_true_eq, decide_eq_false_iff_not, Int.not_le, Int.not_lt, ge_iff_le, gt_iff_lt, Bool.not_eq_true', Bool.not_eq_false', bne_iff_ne, beq_iff_eq, bne_eq_false_iff_eq, beq_eq_false_iff_ne, ne_eq] at hc); have hc2 := hc; skip
      (refine AW.seq_k ?_; intro K hK)
      refine AW.region ?_
      refine awP (op_assign rfl rfl) ?_; (try simp only [evS, lcS, nzR, nzA, nzL, Nat.reduceBEq, Nat.reduceEqDiff, ↓reduceIte, Nat.reduceAdd, Nat.reduceSub])
      refine AWL.nil ?_
      (refine hK _ ?_; clear hK K; (try simp only [evS, lcS, nzR, nzA, nzL, Nat.reduceBEq, Nat.reduceEqDiff, ↓reduceIte, Nat.reduceAdd, Nat.reduceSub]))
      skip
      refine AW.ret ?_; (try simp only [thenE, inBlk, Nat.reduceEqDiff, ↓reduceIte]); rw [show valC c = 2 by unfold valC; rw [if_neg (by simp [hc1]), if_pos (by omega)]]; exact RQ.of0 rfl (.tmp (Nat.le_of_ble_eq_true rfl) rfl rfl .nil)
    · -- false
      (try simp only [Bool.and_eq_true, Bool.or_eq_true, Bool.or_eq_false_iff, Bool.and_eq_false_iff, decide_eq_true_eq, decide_eq_false_iff_not, Int.not_le, Int.not_lt, ge_iff_le, gt_iff_lt, Bool.not_eq_true', Bool.not_eq_false', bne_iff_ne, beq_iff_eq, bne_eq_false_iff_eq, beq_eq_false_iff_ne, ne_eq] at hc); have hc2 := hc; skip
      refine AW.skip ?_
      (refine hK _ ?_; clear hK K; (try simp only [evS, lcS, nzR, nzA, nzL, Nat.reduceBEq, Nat.reduceEqDiff, ↓reduceIte, Nat.reduceAdd, Nat.reduceSub]))
      (refine AW.seq_k ?_; intro K hK)
      (refine AW.seq_k ?_; intro K hK)
      refine AW.region ?_
      refine awP (op_assign rfl rfl) ?_; (try simp only [evS, lcS, nzR, nzA, nzL, Nat.reduceBEq, Nat.reduceEqDiff, ↓reduceIte, Nat.reduceAdd, Nat.reduceSub])
      refine AWL.nil ?_
      (refine hK _ ?_; clear hK K; (try simp only [evS, lcS, nzR, nzA, nzL, Nat.reduceBEq, Nat.reduceEqDiff, ↓reduceIte, Nat.reduceAdd, Nat.reduceSub]))
      refine AW.block ?_   -- block 0
      refine AW.loopI (fun (i : Nat) => [(1, .ptr 0 1 0 0), (3, .v (.int .i64 (i : Nat)))]) (fun i => ⟨[(1, .own 29 [c.av])], 2⟩) (fun i => i ≤ c.pieces.length ∧ ∀ k, k < i → errI c.pieces k = 0) (fun i => c.pieces.length - i) 0 (by simp) ⟨rfl, rfl, trivial⟩ rfl ?_; intro i ρ hi; simp only [updL]; (try simp only [evS, lcS, nzR, nzA, nzL, Nat.reduceBEq, Nat.reduceEqDiff, ↓reduceIte, Nat.reduceAdd, Nat.reduceSub])
      (refine AW.seq_k ?_; intro K hK)
      (refine AW.seq_k ?_; intro K hK)
      refine AW.region ?_
      refine awP (op_move rfl rfl) ?_; (try simp only [evS, lcS, nzR, nzA, nzL, Nat.reduceBEq, Nat.reduceEqDiff, ↓reduceIte, Nat.reduceAdd, Nat.reduceSub])
      (first | refine awP (op_fa_ptr rfl rfl rfl fl29_7 (by exact sz27) (by decide) rfl) ?_ | refine awP (op_fa_rop rfl rfl fl29_7 (by exact sz27) (by decide) (Nat.le_of_ble_eq_true rfl) rfl) ?_); (try simp only [evS, lcS, nzR, nzA, nzL, Nat.reduceBEq, Nat.reduceEqDiff, ↓reduceIte, Nat.reduceAdd, Nat.reduceSub])
      (first | refine awR (op_load_ptr1 rfl rfl rfl rfl ag27 rfl rfl) ?_ | refine awR (op_load_rop1 rfl rfl ag27) ?_); (try simp only [evS, lcS, nzR, nzA, nzL, Nat.reduceBEq, Nat.reduceEqDiff, ↓reduceIte, Nat.reduceAdd, Nat.reduceSub])
      (first | refine awP (op_len_ro rfl rfl Try.underlying27 (by first | exact .inr (.inl ⟨_, rfl, rfl⟩) | exact .inl rfl | exact .inr (.inr (.inl ⟨_, rfl, rfl⟩)) | exact .inr (.inr (.inr ⟨rfl, rfl⟩)))) ?_ | refine awP (op_len_sl rfl rfl rfl Try.underlying27) ?_ | refine awP (op_len_str rfl rfl Try.underlying27) ?_); (try simp only [evS, lcS, nzR, nzA, nzL, Nat.reduceBEq, Nat.reduceEqDiff, ↓reduceIte, Nat.reduceAdd, Nat.reduceSub])
      refine awP (op_lss rfl rfl rfl) ?_; (try simp only [evS, lcS, nzR, nzA, nzL, Nat.reduceBEq, Nat.reduceEqDiff, ↓reduceIte, Nat.reduceAdd, Nat.reduceSub])
      refine AWL.nil ?_
      (refine hK _ ?_; clear hK K; (try simp only [evS, lcS, nzR, nzA, nzL, Nat.reduceBEq, Nat.reduceEqDiff, ↓reduceIte, Nat.reduceAdd, Nat.reduceSub]))
      refine AW.cond rfl rfl rfl (fun hc => ?_) (fun hc => ?_)   -- cond 3
      · -- true
        (try simp only [Bool.and_eq_true, Bool.or_eq_true, Bool.or_eq_false_iff, Bool.and_eq_false_iff, decide_eq_true_eq, decide_eq_false_iff_not, Int.not_le, Int.not_lt, ge_iff_le, gt_iff_lt, Bool.not_eq_true', Bool.not_eq_false', bne_iff_ne, beq_iff_eq, bne_eq_false_iff_eq, beq_eq_false_iff_ne, ne_eq] at hc); have hc3 := hc; have hlt : i < c.pieces.length := (by simpa using hc3)
        refine AW.skip ?_
        (refine hK _ ?_; clear hK K; (try simp only [evS, lcS, nzR, nzA, nzL, Nat.reduceBEq, Nat.reduceEqDiff, ↓reduceIte, Nat.reduceAdd, Nat.reduceSub]))
        (refine AW.seq_k ?_; intro K hK)
        refine AW.block ?_   -- block 1
        (refine AW.seq_k ?_; intro K hK)
        (refine AW.seq_k ?_; intro K hK)
        refine AW.region ?_
        (first | refine awP (op_fa_ptr rfl rfl rfl fl29_7 (by exact sz27) (by decide) rfl) ?_ | refine awP (op_fa_rop rfl rfl fl29_7 (by exact sz27) (by decide) (Nat.le_of_ble_eq_true rfl) rfl) ?_); (try simp only [evS, lcS, nzR, nzA, nzL, Nat.reduceBEq, Nat.reduceEqDiff, ↓reduceIte, Nat.reduceAdd, Nat.reduceSub])
        (first | refine awR (op_load_ptr1 rfl rfl rfl rfl ag27 rfl rfl) ?_ | refine awR (op_load_rop1 rfl rfl ag27) ?_); (try simp only [evS, lcS, nzR, nzA, nzL, Nat.reduceBEq, Nat.reduceEqDiff, ↓reduceIte, Nat.reduceAdd, Nat.reduceSub])
        refine awP (op_move rfl rfl) ?_; (try simp only [evS, lcS, nzR, nzA, nzL, Nat.reduceBEq, Nat.reduceEqDiff, ↓reduceIte, Nat.reduceAdd, Nat.reduceSub])
        (first | refine awP (op_ia_ro i rfl (.inl rfl) rfl Try.underlying27 rfl (get_map (by omega)) (by exact sz36) (Nat.le_of_ble_eq_true rfl)) ?_ | refine awP (op_ia_sl _ _ rfl rfl rfl rfl Try.underlying27 rfl (by omega) (by exact sz36) rfl) ?_); (try simp only [evS, lcS, nzR, nzA, nzL, Nat.reduceBEq, Nat.reduceEqDiff, ↓reduceIte, Nat.reduceAdd, Nat.reduceSub])
        (first | refine awR (op_load_ptr rfl rfl rfl rfl ag36 sz36 (Nat.le_of_ble_eq_true rfl) rfl) ?_ | refine awR (op_load_rop rfl rfl ag36 sz36 (Nat.le_of_ble_eq_true rfl) (by decide) rfl) ?_); (try simp only [evS, lcS, nzR, nzA, nzL, Nat.reduceBEq, Nat.reduceEqDiff, ↓reduceIte, Nat.reduceAdd, Nat.reduceSub])
        refine awJ (OpQ.j (op_callQ (b := true) rfl en48 (C48) (RL.cons (by first | exact View.same rfl | exact View.nil | exact View.rof | exact View.src .ro | exact View.src .rof | exact View.src (.sl rfl rfl) | exact View.ptr rfl rfl rfl) (RL.nil)) rfl)) ?_; (try simp only [evS, lcS, nzR, nzA, nzL, Nat.reduceBEq, Nat.reduceEqDiff, ↓reduceIte, Nat.reduceAdd, Nat.reduceSub])
        refine awP (op_not rfl rfl rfl) ?_; (try simp only [evS, lcS, nzR, nzA, nzL, Nat.reduceBEq, Nat.reduceEqDiff, ↓reduceIte, Nat.reduceAdd, Nat.reduceSub])
        refine AWL.nil ?_
        (refine hK _ ?_; clear hK K; (try simp only [evS, lcS, nzR, nzA, nzL, Nat.reduceBEq, Nat.reduceEqDiff, ↓reduceIte, Nat.reduceAdd, Nat.reduceSub]))
        refine AW.cond rfl rfl rfl (fun hc => ?_) (fun hc => ?_)   -- cond 4
        · -- true
          (try simp only [Bool.and_eq_true, Bool.or_eq_true, Bool.or_eq_false_iff, Bool.and_eq_false_iff, decide_eq_true_eq, decide_eq_false_iff_not, Int.not_le, Int.not_lt, ge_iff_le, gt_iff_lt, Bool.not_eq_true', Bool.not_eq_false', bne_iff_ne, beq_iff_eq, bne_eq_false_iff_eq, beq_eq_false_iff_ne, ne_eq] at hc); have hc4 := hc; skip
          (refine AW.seq_k ?_; intro K hK)
          refine AW.region ?_
          refine awP (op_assign rfl rfl) ?_; (try simp only [evS, lcS, nzR, nzA, nzL, Nat.reduceBEq, Nat.reduceEqDiff, ↓reduceIte, Nat.reduceAdd, Nat.reduceSub])
          refine AWL.nil ?_
          (refine hK _ ?_; clear hK K; (try simp only [evS, lcS, nzR, nzA, nzL, Nat.reduceBEq, Nat.reduceEqDiff, ↓reduceIte, Nat.reduceAdd, Nat.reduceSub]))
          skip
          refine AW.ret ?_; (try simp only [thenE, inBlk, Nat.reduceEqDiff, ↓reduceIte]); rw [val_err (e := 1) hc1 (by omega) (i := i) (by omega) hi.2 (by rw [errI_at (by omega), if_pos hc4]) (by decide)]; exact RQ.of0 rfl (.tmp (Nat.le_of_ble_eq_true rfl) rfl rfl .nil)
        · -- false
          (try simp only [Bool.and_eq_true, Bool.or_eq_true, Bool.or_eq_false_iff, Bool.and_eq_false_iff, decide_eq_true_eq, decide_eq_false_iff_not, Int.not_le, Int.not_lt, ge_iff_le, gt_iff_lt, Bool.not_eq_true', Bool.not_eq_false', bne_iff_ne, beq_iff_eq, bne_eq_false_iff_eq, beq_eq_false_iff_ne, ne_eq] at hc); have hc4 := hc; skip
          refine AW.skip ?_
          (refine hK _ ?_; clear hK K; (try simp only [evS, lcS, nzR, nzA, nzL, Nat.reduceBEq, Nat.reduceEqDiff, ↓reduceIte, Nat.reduceAdd, Nat.reduceSub]))
          (refine AW.seq_k ?_; intro K hK)
          (refine AW.seq_k ?_; intro K hK)
          refine AW.region ?_
          refine awP (op_move rfl rfl) ?_; (try simp only [evS, lcS, nzR, nzA, nzL, Nat.reduceBEq, Nat.reduceEqDiff, ↓reduceIte, Nat.reduceAdd, Nat.reduceSub])
          (first | refine awP (op_eql rfl rfl rfl) ?_ | refine awP (op_seql rfl rfl rfl) ?_); (try simp only [evS, lcS, nzR, nzA, nzL, Nat.reduceBEq, Nat.reduceEqDiff, ↓reduceIte, Nat.reduceAdd, Nat.reduceSub])
          refine AWL.nil ?_
          (refine hK _ ?_; clear hK K; (try simp only [evS, lcS, nzR, nzA, nzL, Nat.reduceBEq, Nat.reduceEqDiff, ↓reduceIte, Nat.reduceAdd, Nat.reduceSub]))
          refine AW.cond rfl rfl rfl (fun hc => ?_) (fun hc => ?_)   -- cond 5
          · -- true
            (try simp only [Bool.and_eq_true, Bool.or_eq_true, Bool.or_eq_false_iff, Bool.and_eq_false_iff, decide_eq_true_eq, decide_eq_false_iff_not, Int.not_le, Int.not_lt, ge_iff_le, gt_iff_lt, Bool.not_eq_true', Bool.not_eq_false', bne_iff_ne, beq_iff_eq, bne_eq_false_iff_eq, beq_eq_false_iff_ne, ne_eq] at hc); have hc5 := hc; skip
            refine AW.exit ?_; (try simp only [thenE, inBlk, Nat.reduceEqDiff, ↓reduceIte])   -- to 1
            clear hK K
            (refine hK _ ?_; clear hK K; (try simp only [evS, lcS, nzR, nzA, nzL, Nat.reduceBEq, Nat.reduceEqDiff, ↓reduceIte, Nat.reduceAdd, Nat.reduceSub]))
            refine AW.region ?_
            refine awP (op_move rfl rfl) ?_; (try simp only [evS, lcS, nzR, nzA, nzL, Nat.reduceBEq, Nat.reduceEqDiff, ↓reduceIte, Nat.reduceAdd, Nat.reduceSub])
            (first | refine awP (op_addi rfl rfl rfl (by omega)) ?_ | refine awP (op_add rfl rfl rfl rfl) ?_); (try simp only [evS, lcS, nzR, nzA, nzL, Nat.reduceBEq, Nat.reduceEqDiff, ↓reduceIte, Nat.reduceAdd, Nat.reduceSub])
            refine awP (op_assign rfl rfl) ?_; (try simp only [evS, lcS, nzR, nzA, nzL, Nat.reduceBEq, Nat.reduceEqDiff, ↓reduceIte, Nat.reduceAdd, Nat.reduceSub])
            skip
            refine AWL.nil ?_
            refine ⟨i + 1, ⟨by omega, all_step hi.2 (by rw [errI_at (by omega), if_neg (by simp [hc4]), if_pos (by omega)])⟩, by omega, ⟨rfl, rfl, trivial⟩, (by first | rfl | trivial), (by first | rfl | trivial)⟩
          · -- false
            (try simp only [Bool.and_eq_true, Bool.or_eq_true, Bool.or_eq_false_iff, Bool.and_eq_false_iff, decide_eq_true_eq, decide_eq_false_iff_not, Int.not_le, Int.not_lt, ge_iff_le, gt_iff_lt, Bool.not_eq_true', Bool.not_eq_false', bne_iff_ne, beq_iff_eq, bne_eq_false_iff_eq, beq_eq_false_iff_ne, ne_eq] at hc); have hc5 := hc; skip
            refine AW.skip ?_
            (refine hK _ ?_; clear hK K; (try simp only [evS, lcS, nzR, nzA, nzL, Nat.reduceBEq, Nat.reduceEqDiff, ↓reduceIte, Nat.reduceAdd, Nat.reduceSub]))
            (refine AW.seq_k ?_; intro K hK)
            refine AW.quiet mix (by kernel_rfl) ?_   -- DRAWS
            (first | refine aqP (op_fa_ptr rfl rfl rfl fl29_7 (by exact sz27) (by decide) rfl) ?_ | refine aqP (op_fa_rop rfl rfl fl29_7 (by exact sz27) (by decide) (Nat.le_of_ble_eq_true rfl) rfl) ?_); (try simp only [evS, lcS, nzR, nzA, nzL, Nat.reduceBEq, Nat.reduceEqDiff, ↓reduceIte, Nat.reduceAdd, Nat.reduceSub])
            (first | refine aqR (op_load_ptr1 rfl rfl rfl rfl ag27 rfl rfl) ?_ | refine aqR (op_load_rop1 rfl rfl ag27) ?_); (try simp only [evS, lcS, nzR, nzA, nzL, Nat.reduceBEq, Nat.reduceEqDiff, ↓reduceIte, Nat.reduceAdd, Nat.reduceSub])
            refine aqP (op_move rfl rfl) ?_; (try simp only [evS, lcS, nzR, nzA, nzL, Nat.reduceBEq, Nat.reduceEqDiff, ↓reduceIte, Nat.reduceAdd, Nat.reduceSub])
            (first | refine aqP (op_subi rfl rfl rfl (by omega)) ?_ | refine aqP (op_sub rfl rfl rfl rfl) ?_); (try simp only [evS, lcS, nzR, nzA, nzL, Nat.reduceBEq, Nat.reduceEqDiff, ↓reduceIte, Nat.reduceAdd, Nat.reduceSub])
            (first | refine aqP (op_ia_ro (i - 1) rfl (.inl rfl) rfl Try.underlying27 (by omega) (get_map (by omega)) (by exact sz36) (Nat.le_of_ble_eq_true rfl)) ?_ | refine aqP (op_ia_sl _ _ rfl rfl rfl rfl Try.underlying27 rfl (by omega) (by exact sz36) rfl) ?_); (try simp only [evS, lcS, nzR, nzA, nzL, Nat.reduceBEq, Nat.reduceEqDiff, ↓reduceIte, Nat.reduceAdd, Nat.reduceSub])
            (first | refine aqP (op_fa_ptr rfl rfl rfl fl36_0 (by exact sz33) (by decide) rfl) ?_ | refine aqP (op_fa_rop rfl rfl fl36_0 (by exact sz33) (by decide) (Nat.le_of_ble_eq_true rfl) rfl) ?_); (try simp only [evS, lcS, nzR, nzA, nzL, Nat.reduceBEq, Nat.reduceEqDiff, ↓reduceIte, Nat.reduceAdd, Nat.reduceSub])
            (first | refine aqR (op_load_ptr rfl rfl rfl rfl ag33 sz33 (Nat.le_of_ble_eq_true rfl) rfl) ?_ | refine aqR (op_load_rop rfl rfl ag33 sz33 (Nat.le_of_ble_eq_true rfl) (by decide) rfl) ?_); (try simp only [evS, lcS, nzR, nzA, nzL, Nat.reduceBEq, Nat.reduceEqDiff, ↓reduceIte, Nat.reduceAdd, Nat.reduceSub])
            (first | refine aqP (op_fa_ptr rfl rfl rfl fl29_7 (by exact sz27) (by decide) rfl) ?_ | refine aqP (op_fa_rop rfl rfl fl29_7 (by exact sz27) (by decide) (Nat.le_of_ble_eq_true rfl) rfl) ?_); (try simp only [evS, lcS, nzR, nzA, nzL, Nat.reduceBEq, Nat.reduceEqDiff, ↓reduceIte, Nat.reduceAdd, Nat.reduceSub])
            (first | refine aqR (op_load_ptr1 rfl rfl rfl rfl ag27 rfl rfl) ?_ | refine aqR (op_load_rop1 rfl rfl ag27) ?_); (try simp only [evS, lcS, nzR, nzA, nzL, Nat.reduceBEq, Nat.reduceEqDiff, ↓reduceIte, Nat.reduceAdd, Nat.reduceSub])
            refine aqP (op_move rfl rfl) ?_; (try simp only [evS, lcS, nzR, nzA, nzL, Nat.reduceBEq, Nat.reduceEqDiff, ↓reduceIte, Nat.reduceAdd, Nat.reduceSub])
            (first | refine aqP (op_ia_ro _ rfl (.inl rfl) rfl Try.underlying27 rfl (get_map (by omega)) (by exact sz36) (Nat.le_of_ble_eq_true rfl)) ?_ | refine aqP (op_ia_sl _ _ rfl rfl rfl rfl Try.underlying27 rfl (by omega) (by exact sz36) rfl) ?_); (try simp only [evS, lcS, nzR, nzA, nzL, Nat.reduceBEq, Nat.reduceEqDiff, ↓reduceIte, Nat.reduceAdd, Nat.reduceSub])
            (first | refine aqP (op_fa_ptr rfl rfl rfl fl36_0 (by exact sz33) (by decide) rfl) ?_ | refine aqP (op_fa_rop rfl rfl fl36_0 (by exact sz33) (by decide) (Nat.le_of_ble_eq_true rfl) rfl) ?_); (try simp only [evS, lcS, nzR, nzA, nzL, Nat.reduceBEq, Nat.reduceEqDiff, ↓reduceIte, Nat.reduceAdd, Nat.reduceSub])
            (first | refine aqR (op_load_ptr rfl rfl rfl rfl ag33 sz33 (Nat.le_of_ble_eq_true rfl) rfl) ?_ | refine aqR (op_load_rop rfl rfl ag33 sz33 (Nat.le_of_ble_eq_true rfl) (by decide) rfl) ?_); (try simp only [evS, lcS, nzR, nzA, nzL, Nat.reduceBEq, Nat.reduceEqDiff, ↓reduceIte, Nat.reduceAdd, Nat.reduceSub])
            refine aqQ (op_callQ (b := true) rfl en58 (C58) (RL.cons (by first | exact View.same rfl | exact View.nil | exact View.rof | exact View.src .ro | exact View.src .rof | exact View.src (.sl rfl rfl) | exact View.ptr rfl rfl rfl) (RL.cons (by first | exact View.same rfl | exact View.nil | exact View.rof | exact View.src .ro | exact View.src .rof | exact View.src (.sl rfl rfl) | exact View.ptr rfl rfl rfl) (RL.nil))) rfl) ?_; (try simp only [evS, lcS, nzR, nzA, nzL, Nat.reduceBEq, Nat.reduceEqDiff, ↓reduceIte, Nat.reduceAdd, Nat.reduceSub])
            refine aqP (op_assign rfl rfl) ?_; (try simp only [evS, lcS, nzR, nzA, nzL, Nat.reduceBEq, Nat.reduceEqDiff, ↓reduceIte, Nat.reduceAdd, Nat.reduceSub])
            refine AQ.nil ?_
            (refine hK _ ?_; clear hK K; (try simp only [evS, lcS, nzR, nzA, nzL, Nat.reduceBEq, Nat.reduceEqDiff, ↓reduceIte, Nat.reduceAdd, Nat.reduceSub]))
            (refine AW.seq_k ?_; intro K hK)
            refine AW.region ?_
            refine awP (op_move rfl rfl) ?_; (try simp only [evS, lcS, nzR, nzA, nzL, Nat.reduceBEq, Nat.reduceEqDiff, ↓reduceIte, Nat.reduceAdd, Nat.reduceSub])
            (first | refine awP (op_eql rfl rfl rfl) ?_ | refine awP (op_seql rfl rfl rfl) ?_); (try simp only [evS, lcS, nzR, nzA, nzL, Nat.reduceBEq, Nat.reduceEqDiff, ↓reduceIte, Nat.reduceAdd, Nat.reduceSub])
            refine AWL.nil ?_
            (refine hK _ ?_; clear hK K; (try simp only [evS, lcS, nzR, nzA, nzL, Nat.reduceBEq, Nat.reduceEqDiff, ↓reduceIte, Nat.reduceAdd, Nat.reduceSub]))
            refine AW.cond rfl rfl rfl (fun hc => ?_) (fun hc => ?_)   -- cond 6
            · -- true
              (try simp only [Bool.and_eq_true, Bool.or_eq_true, Bool.or_eq_false_iff, Bool.and_eq_false_iff, decide_eq_true_eq, decide_eq_false_iff_not, Int.not_le, Int.not_lt, ge_iff_le, gt_iff_lt, Bool.not_eq_true', Bool.not_eq_false', bne_iff_ne, beq_iff_eq, bne_eq_false_iff_eq, beq_eq_false_iff_ne, ne_eq] at hc); have hc6 := hc; skip
              (refine AW.seq_k ?_; intro K hK)
              refine AW.region ?_
              refine awP (op_assign rfl rfl) ?_; (try simp only [evS, lcS, nzR, nzA, nzL, Nat.reduceBEq, Nat.reduceEqDiff, ↓reduceIte, Nat.reduceAdd, Nat.reduceSub])
              refine AWL.nil ?_
              (refine hK _ ?_; clear hK K; (try simp only [evS, lcS, nzR, nzA, nzL, Nat.reduceBEq, Nat.reduceEqDiff, ↓reduceIte, Nat.reduceAdd, Nat.reduceSub]))
              skip
              refine AW.ret ?_; (try simp only [thenE, inBlk, Nat.reduceEqDiff, ↓reduceIte]); rw [val_err (e := 5) hc1 (by omega) (i := i) (by omega) hi.2 (by rw [errI_at (by omega), if_neg (by simp [hc4]), if_neg (by omega), if_pos hc6]) (by decide)]; exact RQ.of0 rfl (.tmp (Nat.le_of_ble_eq_true rfl) rfl rfl .nil)
            · -- false
              (try simp only [Bool.and_eq_true, Bool.or_eq_true, Bool.or_eq_false_iff, Bool.and_eq_false_iff, decide_eq_true_eq, decide_eq_false_iff_not, Int.not_le, Int.not_lt, ge_iff_le, gt_iff_lt, Bool.not_eq_true', Bool.not_eq_false', bne_iff_ne, beq_iff_eq, bne_eq_false_iff_eq, beq_eq_false_iff_ne, ne_eq] at hc); have hc6 := hc; have hcb := cmpP_bd c.pieces[i - 1].plate c.pieces[i].plate
              (refine AW.seq_k ?_; intro K hK)
              refine AW.region ?_
              refine awP (op_move rfl rfl) ?_; (try simp only [evS, lcS, nzR, nzA, nzL, Nat.reduceBEq, Nat.reduceEqDiff, ↓reduceIte, Nat.reduceAdd, Nat.reduceSub])
              refine awP (op_gtr rfl rfl rfl) ?_; (try simp only [evS, lcS, nzR, nzA, nzL, Nat.reduceBEq, Nat.reduceEqDiff, ↓reduceIte, Nat.reduceAdd, Nat.reduceSub])
              refine AWL.nil ?_
              (refine hK _ ?_; clear hK K; (try simp only [evS, lcS, nzR, nzA, nzL, Nat.reduceBEq, Nat.reduceEqDiff, ↓reduceIte, Nat.reduceAdd, Nat.reduceSub]))
              refine AW.cond rfl rfl rfl (fun hc => ?_) (fun hc => ?_)   -- cond 7
              · -- true
                (try simp only [Bool.and_eq_true, Bool.or_eq_true, Bool.or_eq_false_iff, Bool.and_eq_false_iff, decide_eq_true_eq, decide_eq_false_iff_not, Int.not_le, Int.not_lt, ge_iff_le, gt_iff_lt, Bool.not_eq_true', Bool.not_eq_false', bne_iff_ne, beq_iff_eq, bne_eq_false_iff_eq, beq_eq_false_iff_ne, ne_eq] at hc); have hc7 := hc; skip
                (refine AW.seq_k ?_; intro K hK)
                refine AW.region ?_
                refine awP (op_assign rfl rfl) ?_; (try simp only [evS, lcS, nzR, nzA, nzL, Nat.reduceBEq, Nat.reduceEqDiff, ↓reduceIte, Nat.reduceAdd, Nat.reduceSub])
                refine AWL.nil ?_
                (refine hK _ ?_; clear hK K; (try simp only [evS, lcS, nzR, nzA, nzL, Nat.reduceBEq, Nat.reduceEqDiff, ↓reduceIte, Nat.reduceAdd, Nat.reduceSub]))
                skip
                refine AW.ret ?_; (try simp only [thenE, inBlk, Nat.reduceEqDiff, ↓reduceIte]); rw [val_err (e := 9) hc1 (by omega) (i := i) (by omega) hi.2 (by rw [errI_at (by omega), if_neg (by simp [hc4]), if_neg (by omega), if_neg hc6, if_pos (by omega)]) (by decide)]; exact RQ.of0 rfl (.tmp (Nat.le_of_ble_eq_true rfl) rfl rfl .nil)
              · -- false
                (try simp only [Bool.and_eq_true, Bool.or_eq_true, Bool.or_eq_false_iff, Bool.and_eq_false_iff, decide_eq_true_eq, decide_eq_false_iff_not, Int.not_le, Int.not_lt, ge_iff_le, gt_iff_lt, Bool.not_eq_true', Bool.not_eq_false', bne_iff_ne, beq_iff_eq, bne_eq_false_iff_eq, beq_eq_false_iff_ne, ne_eq] at hc); have hc7 := hc; skip
                refine AW.skip ?_
                (try simp only [thenE, inBlk, Nat.reduceEqDiff, ↓reduceIte])
                (refine hK _ ?_; clear hK K; (try simp only [evS, lcS, nzR, nzA, nzL, Nat.reduceBEq, Nat.reduceEqDiff, ↓reduceIte, Nat.reduceAdd, Nat.reduceSub]))
                refine AW.region ?_
                refine awP (op_move rfl rfl) ?_; (try simp only [evS, lcS, nzR, nzA, nzL, Nat.reduceBEq, Nat.reduceEqDiff, ↓reduceIte, Nat.reduceAdd, Nat.reduceSub])
                (first | refine awP (op_addi rfl rfl rfl (by omega)) ?_ | refine awP (op_add rfl rfl rfl rfl) ?_); (try simp only [evS, lcS, nzR, nzA, nzL, Nat.reduceBEq, Nat.reduceEqDiff, ↓reduceIte, Nat.reduceAdd, Nat.reduceSub])
                refine awP (op_assign rfl rfl) ?_; (try simp only [evS, lcS, nzR, nzA, nzL, Nat.reduceBEq, Nat.reduceEqDiff, ↓reduceIte, Nat.reduceAdd, Nat.reduceSub])
                skip
                refine AWL.nil ?_
                refine ⟨i + 1, ⟨by omega, all_step hi.2 (by rw [errI_at (by omega), if_neg (by simp [hc4]), if_neg (by omega), if_neg hc6, if_neg (by omega)])⟩, by omega, ⟨rfl, rfl, trivial⟩, (by first | rfl | trivial), (by first | rfl | trivial)⟩
      · -- false
        (try simp only [Bool.and_eq_true, Bool.or_eq_true, Bool.or_eq_false_iff, Bool.and_eq_false_iff, decide_eq_true_eq, decide_eq_false_iff_not, Int.not_le, Int.not_lt, ge_iff_le, gt_iff_lt, Bool.not_eq_true', Bool.not_eq_false', bne_iff_ne, beq_iff_eq, bne_eq_false_iff_eq, beq_eq_false_iff_ne, ne_eq] at hc); have hc3 := hc; skip
        refine AW.exit ?_; (try simp only [thenE, inBlk, Nat.reduceEqDiff, ↓reduceIte])   -- to 0
        clear hK K
        (refine hK _ ?_; clear hK K; (try simp only [evS, lcS, nzR, nzA, nzL, Nat.reduceBEq, Nat.reduceEqDiff, ↓reduceIte, Nat.reduceAdd, Nat.reduceSub]))
        (refine AW.seq_k ?_; intro K hK)
        refine AW.region ?_
        refine awP (op_assign rfl rfl) ?_; (try simp only [evS, lcS, nzR, nzA, nzL, Nat.reduceBEq, Nat.reduceEqDiff, ↓reduceIte, Nat.reduceAdd, Nat.reduceSub])
        refine AWL.nil ?_
        (refine hK _ ?_; clear hK K; (try simp only [evS, lcS, nzR, nzA, nzL, Nat.reduceBEq, Nat.reduceEqDiff, ↓reduceIte, Nat.reduceAdd, Nat.reduceSub]))
        skip
        refine AW.ret ?_; (try simp only [thenE, inBlk, Nat.reduceEqDiff, ↓reduceIte]); rw [val_ok hc1 (by omega) (i := i) (by omega) hi.2]; exact RQ.of0 rfl (.tmp (Nat.le_of_ble_eq_true rfl) rfl rfl .nil)
abbrev setP (c : Container) (l : List Piece) : Container := ⟨c.number, c.flight, c.categories, c.limit, c.most, c.position, c.arm, l⟩
theorem pos_first {l : List Piece} {p : Plate} {k : Nat} (hk : k ≤ l.length) (h1 : ∀ j, j < k → cmpP (l.getD j default).plate p < 0) (h2 : ¬ (k < l.length ∧ cmpP (l.getD k default).plate p < 0)) : posP l p = k := by
  unfold posP
  have e : l.takeWhile (fun x => decide (cmpP x.plate p < 0)) = l.take k := by
    conv => lhs; rw [← List.take_append_drop k l]
    rw [List.takeWhile_append_of_pos]
    · have : (l.drop k).takeWhile (fun x => decide (cmpP x.plate p < 0)) = [] := by
        rcases Nat.lt_or_ge k l.length with h | h
        · rw [List.drop_eq_getElem_cons h, List.takeWhile_cons_of_neg]
          have e : l.getD k default = l[k] := by rw [List.getD_eq_getElem?_getD, List.getElem?_eq_getElem h]; rfl
          rw [e] at h2
          simpa using fun hlt => h2 ⟨h, hlt⟩
        · rw [List.drop_eq_nil_of_le h]; rfl
      rw [this, List.append_nil]
    · intro x hx
      obtain ⟨i, hi, rfl⟩ := List.getElem_of_mem hx
      simp at hi
      have := h1 i (by omega)
      rw [List.getD_eq_getElem?_getD, List.getElem?_eq_getElem (by omega)] at this
      simpa using this
  rw [e]; simp; omega
theorem C51 {c : Container} {p : Piece} (hcl : c.pieces.length ≤ 1000) : Fn Try.prog 51 [] [.agg c.av, .agg p.av] [.agg (insC c p).av] [] := by
  refine Spec.body Try.func51 rfl Try.ntmps51 (by simp) rfl ?_; intro S0 own0 v0 w0
  (refine AW.seq_k ?_; intro K hK)
  refine AW.region ?_
  refine awJ (op_box rfl rfl rfl sz29 rfl) ?_; (try simp only [evS, lcS, nzR, nzA, nzL, Nat.reduceBEq, Nat.reduceEqDiff, ↓reduceIte, Nat.reduceAdd, Nat.reduceSub])
  refine awJ (op_box rfl rfl rfl sz36 rfl) ?_; (try simp only [evS, lcS, nzR, nzA, nzL, Nat.reduceBEq, Nat.reduceEqDiff, ↓reduceIte, Nat.reduceAdd, Nat.reduceSub])
  refine awJ (op_alloc rfl ze29 rfl) ?_; (try simp only [evS, lcS, nzR, nzA, nzL, Nat.reduceBEq, Nat.reduceEqDiff, ↓reduceIte, Nat.reduceAdd, Nat.reduceSub])
  refine AWL.nil ?_
  (refine hK _ ?_; clear hK K; (try simp only [evS, lcS, nzR, nzA, nzL, Nat.reduceBEq, Nat.reduceEqDiff, ↓reduceIte, Nat.reduceAdd, Nat.reduceSub]))
  (refine AW.seq_k ?_; intro K hK)
  refine AW.region ?_
  refine awP (op_assign rfl rfl) ?_; (try simp only [evS, lcS, nzR, nzA, nzL, Nat.reduceBEq, Nat.reduceEqDiff, ↓reduceIte, Nat.reduceAdd, Nat.reduceSub])
  refine AWL.nil ?_
  (refine hK _ ?_; clear hK K; (try simp only [evS, lcS, nzR, nzA, nzL, Nat.reduceBEq, Nat.reduceEqDiff, ↓reduceIte, Nat.reduceAdd, Nat.reduceSub]))
  (refine AW.seq_k ?_; intro K hK)
  refine AW.block ?_   -- block 0
  refine AW.loopI (fun (k : Nat) => [(2, .ptr 0 1 0 0), (3, .ptr 1 2 0 0), (4, .ptr 2 3 0 0), (5, .v (.int .i64 (k : Nat)))]) (fun _ => ⟨[(1, .own 29 [c.av]), (2, .own 36 [p.av]), (3, .own 29 [[AV.v (.int .i64 0), .v (.string ⟨#[]⟩), .v (.int .i64 0), .v (.string ⟨#[]⟩), .v (.int .i64 0), .v (.int .i64 0), .v (.int .i64 0), .v (.int .i64 0), .v (.int .i64 0), .v (.int .i64 0), .v (.slice none 0 0)]])], 4⟩) (fun k => k ≤ c.pieces.length ∧ ∀ j, j < k → cmpP (c.pieces.getD j default).plate p.plate < 0) (fun k => c.pieces.length - k) 0 (by simp) ⟨rfl, rfl, rfl, rfl, trivial⟩ rfl ?_; intro k ρ hi; simp only [updL]; (try simp only [evS, lcS, nzR, nzA, nzL, Nat.reduceBEq, Nat.reduceEqDiff, ↓reduceIte, Nat.reduceAdd, Nat.reduceSub])
  (refine AW.seq_k ?_; intro K hK)
  (refine AW.seq_k ?_; intro K hK)
  refine AW.quiet mix (by kernel_rfl) ?_   -- DRAWS
  refine aqP (op_move rfl rfl) ?_; (try simp only [evS, lcS, nzR, nzA, nzL, Nat.reduceBEq, Nat.reduceEqDiff, ↓reduceIte, Nat.reduceAdd, Nat.reduceSub])
  (first | refine aqP (op_fa_ptr rfl rfl rfl fl29_7 (by exact sz27) (by decide) rfl) ?_ | refine aqP (op_fa_rop rfl rfl fl29_7 (by exact sz27) (by decide) (Nat.le_of_ble_eq_true rfl) rfl) ?_); (try simp only [evS, lcS, nzR, nzA, nzL, Nat.reduceBEq, Nat.reduceEqDiff, ↓reduceIte, Nat.reduceAdd, Nat.reduceSub])
  (first | refine aqR (op_load_ptr1 rfl rfl rfl rfl ag27 rfl rfl) ?_ | refine aqR (op_load_rop1 rfl rfl ag27) ?_); (try simp only [evS, lcS, nzR, nzA, nzL, Nat.reduceBEq, Nat.reduceEqDiff, ↓reduceIte, Nat.reduceAdd, Nat.reduceSub])
  (first | refine aqP (op_len_ro rfl rfl Try.underlying27 (by first | exact .inr (.inl ⟨_, rfl, rfl⟩) | exact .inl rfl | exact .inr (.inr (.inl ⟨_, rfl, rfl⟩)) | exact .inr (.inr (.inr ⟨rfl, rfl⟩)))) ?_ | refine aqP (op_len_sl rfl rfl rfl Try.underlying27) ?_ | refine aqP (op_len_str rfl rfl Try.underlying27) ?_); (try simp only [evS, lcS, nzR, nzA, nzL, Nat.reduceBEq, Nat.reduceEqDiff, ↓reduceIte, Nat.reduceAdd, Nat.reduceSub])
  refine aqP (op_lss rfl rfl rfl) ?_; (try simp only [evS, lcS, nzR, nzA, nzL, Nat.reduceBEq, Nat.reduceEqDiff, ↓reduceIte, Nat.reduceAdd, Nat.reduceSub])
  refine aqP (op_move rfl rfl) ?_; (try simp only [evS, lcS, nzR, nzA, nzL, Nat.reduceBEq, Nat.reduceEqDiff, ↓reduceIte, Nat.reduceAdd, Nat.reduceSub])
  refine' aqAnd' [_, _, _, _, _, _, _, _, _, _] [13,14,15,16,17,18,19,20,21,22] rfl rfl rfl rfl rfl rfl rfl rfl rfl rfl rfl rfl (fun hb => ?_) ?_; rotate_left
  · -- segment
    (try simp only [Bool.and_eq_true, Bool.or_eq_true, Bool.or_eq_false_iff, Bool.and_eq_false_iff, decide_eq_true_eq, decide_eq_false_iff_not, Int.not_le, Int.not_lt, ge_iff_le, gt_iff_lt, Bool.not_eq_true', Bool.not_eq_false', bne_iff_ne, beq_iff_eq, bne_eq_false_iff_eq, beq_eq_false_iff_ne, ne_eq] at hb)
    (first | refine aqP (op_fa_ptr rfl rfl rfl fl29_7 (by exact sz27) (by decide) rfl) ?_ | refine aqP (op_fa_rop rfl rfl fl29_7 (by exact sz27) (by decide) (Nat.le_of_ble_eq_true rfl) rfl) ?_); (try simp only [evS, lcS, nzR, nzA, nzL, Nat.reduceBEq, Nat.reduceEqDiff, ↓reduceIte, Nat.reduceAdd, Nat.reduceSub])
    (first | refine aqR (op_load_ptr1 rfl rfl rfl rfl ag27 rfl rfl) ?_ | refine aqR (op_load_rop1 rfl rfl ag27) ?_); (try simp only [evS, lcS, nzR, nzA, nzL, Nat.reduceBEq, Nat.reduceEqDiff, ↓reduceIte, Nat.reduceAdd, Nat.reduceSub])
    refine aqP (op_move rfl rfl) ?_; (try simp only [evS, lcS, nzR, nzA, nzL, Nat.reduceBEq, Nat.reduceEqDiff, ↓reduceIte, Nat.reduceAdd, Nat.reduceSub])
    (first | refine aqP (op_ia_ro k rfl (.inl rfl) rfl Try.underlying27 rfl (get_mapD (by omega)) (by exact sz36) (Nat.le_of_ble_eq_true rfl)) ?_ | refine aqP (op_ia_sl _ _ rfl rfl rfl rfl Try.underlying27 rfl (by omega) (by exact sz36) rfl) ?_); (try simp only [evS, lcS, nzR, nzA, nzL, Nat.reduceBEq, Nat.reduceEqDiff, ↓reduceIte, Nat.reduceAdd, Nat.reduceSub])
    (first | refine aqP (op_fa_ptr rfl rfl rfl fl36_0 (by exact sz33) (by decide) rfl) ?_ | refine aqP (op_fa_rop rfl rfl fl36_0 (by exact sz33) (by decide) (Nat.le_of_ble_eq_true rfl) rfl) ?_); (try simp only [evS, lcS, nzR, nzA, nzL, Nat.reduceBEq, Nat.reduceEqDiff, ↓reduceIte, Nat.reduceAdd, Nat.reduceSub])
    (first | refine aqR (op_load_ptr rfl rfl rfl rfl ag33 sz33 (Nat.le_of_ble_eq_true rfl) rfl) ?_ | refine aqR (op_load_rop rfl rfl ag33 sz33 (Nat.le_of_ble_eq_true rfl) (by decide) rfl) ?_); (try simp only [evS, lcS, nzR, nzA, nzL, Nat.reduceBEq, Nat.reduceEqDiff, ↓reduceIte, Nat.reduceAdd, Nat.reduceSub])
    (first | refine aqP (op_fa_ptr rfl rfl rfl fl36_0 (by exact sz33) (by decide) rfl) ?_ | refine aqP (op_fa_rop rfl rfl fl36_0 (by exact sz33) (by decide) (Nat.le_of_ble_eq_true rfl) rfl) ?_); (try simp only [evS, lcS, nzR, nzA, nzL, Nat.reduceBEq, Nat.reduceEqDiff, ↓reduceIte, Nat.reduceAdd, Nat.reduceSub])
    (first | refine aqR (op_load_ptr rfl rfl rfl rfl ag33 sz33 (Nat.le_of_ble_eq_true rfl) rfl) ?_ | refine aqR (op_load_rop rfl rfl ag33 sz33 (Nat.le_of_ble_eq_true rfl) (by decide) rfl) ?_); (try simp only [evS, lcS, nzR, nzA, nzL, Nat.reduceBEq, Nat.reduceEqDiff, ↓reduceIte, Nat.reduceAdd, Nat.reduceSub])
    refine aqQ (op_callQ (b := true) rfl en58 (C58 (p := (c.pieces.getD k default).plate) (q := p.plate)) (RL.cons (by first | exact View.same rfl | exact View.nil | exact View.rof | exact View.src .ro | exact View.src .rof | exact View.src (.sl rfl rfl) | exact View.ptr rfl rfl rfl) (RL.cons (by first | exact View.same rfl | exact View.nil | exact View.rof | exact View.src .ro | exact View.src .rof | exact View.src (.sl rfl rfl) | exact View.ptr rfl rfl rfl) (RL.nil))) rfl) ?_; (try simp only [evS, lcS, nzR, nzA, nzL, Nat.reduceBEq, Nat.reduceEqDiff, ↓reduceIte, Nat.reduceAdd, Nat.reduceSub])
    refine aqP (op_lss rfl rfl rfl) ?_; (try simp only [evS, lcS, nzR, nzA, nzL, Nat.reduceBEq, Nat.reduceEqDiff, ↓reduceIte, Nat.reduceAdd, Nat.reduceSub])
    (refine aqSeg rfl rfl rfl ?_; repeat (first | exact fun _ _ => rfl | refine upd_out rfl ?_ | refine era_out rfl ?_))
  (try simp only [evS, lcS, nzR, nzA, nzL, Nat.reduceBEq, Nat.reduceEqDiff, ↓reduceIte, Nat.reduceAdd, Nat.reduceSub])
  refine AQ.nil ?_
  (refine hK _ ?_; clear hK K; (try simp only [evS, lcS, nzR, nzA, nzL, Nat.reduceBEq, Nat.reduceEqDiff, ↓reduceIte, Nat.reduceAdd, Nat.reduceSub]))
  refine AW.cond rfl rfl rfl (fun hc => ?_) (fun hc => ?_)   -- cond 1
  · -- true
    (try simp only [Bool.and_eq_true, Bool.or_eq_true, Bool.or_eq_false_iff, Bool.and_eq_false_iff, decide_eq_true_eq, decide_eq_false_iff_not, Int.not_le, Int.not_lt, ge_iff_le, gt_iff_lt, Bool.not_eq_true', Bool.not_eq_false', bne_iff_ne, beq_iff_eq, bne_eq_false_iff_eq, beq_eq_false_iff_ne, ne_eq] at hc); have hc1 := hc; skip
    refine AW.skip ?_
    (refine hK _ ?_; clear hK K; (try simp only [evS, lcS, nzR, nzA, nzL, Nat.reduceBEq, Nat.reduceEqDiff, ↓reduceIte, Nat.reduceAdd, Nat.reduceSub]))
    refine AW.block ?_   -- block 1
    refine AW.region ?_
    refine awP (op_move rfl rfl) ?_; (try simp only [evS, lcS, nzR, nzA, nzL, Nat.reduceBEq, Nat.reduceEqDiff, ↓reduceIte, Nat.reduceAdd, Nat.reduceSub])
    (first | refine awP (op_addi rfl rfl rfl (by omega)) ?_ | refine awP (op_add rfl rfl rfl rfl) ?_); (try simp only [evS, lcS, nzR, nzA, nzL, Nat.reduceBEq, Nat.reduceEqDiff, ↓reduceIte, Nat.reduceAdd, Nat.reduceSub])
    refine awP (op_assign rfl rfl) ?_; (try simp only [evS, lcS, nzR, nzA, nzL, Nat.reduceBEq, Nat.reduceEqDiff, ↓reduceIte, Nat.reduceAdd, Nat.reduceSub])
    refine AWL.nil ?_
    (try simp only [thenE, inBlk, Nat.reduceEqDiff, ↓reduceIte])
    refine ⟨k + 1, ⟨by omega, fun j hj => by rcases Nat.lt_or_ge j k with h | h; exact hi.2 j h; (obtain rfl : j = k := by omega); exact hc1.2⟩, by omega, ⟨rfl, rfl, rfl, rfl, trivial⟩, (by first | rfl | trivial), (by first | rfl | trivial)⟩
  · -- false
    (try simp only [Bool.and_eq_true, Bool.or_eq_true, Bool.or_eq_false_iff, Bool.and_eq_false_iff, decide_eq_true_eq, decide_eq_false_iff_not, Int.not_le, Int.not_lt, ge_iff_le, gt_iff_lt, Bool.not_eq_true', Bool.not_eq_false', bne_iff_ne, beq_iff_eq, bne_eq_false_iff_eq, beq_eq_false_iff_ne, ne_eq] at hc); have hc1 := hc; have hk := pos_first hi.1 hi.2 (fun h => by have h1 : (k : Int) < (c.pieces.length : Int) := (by omega); have h2 := h.2; rcases hc1 with h3 | h3 <;> omega); have hins : insC c p = setP c (c.pieces.take k ++ p :: c.pieces.drop k) := (by unfold insC; rw [hk])
    refine AW.exit ?_; (try simp only [thenE, inBlk, Nat.reduceEqDiff, ↓reduceIte])   -- to 0
    clear hK K
    (refine hK _ ?_; clear hK K; (try simp only [evS, lcS, nzR, nzA, nzL, Nat.reduceBEq, Nat.reduceEqDiff, ↓reduceIte, Nat.reduceAdd, Nat.reduceSub]))
    (refine AW.seq_k ?_; intro K hK)
    refine AW.region ?_
    refine awJ (op_buildSlice rfl [] [] Try.underlying27 ze36 rfl (by simp) rfl (by simp) rfl (Nat.le_of_ble_eq_true rfl) (by simp [maxLen])) ?_; (try simp only [evS, lcS, nzR, nzA, nzL, Nat.reduceBEq, Nat.reduceEqDiff, ↓reduceIte, Nat.reduceAdd, Nat.reduceSub]); skip; (try simp only [evS, lcS, nzR, nzA, nzL, Nat.reduceBEq, Nat.reduceEqDiff, ↓reduceIte, Nat.reduceAdd, Nat.reduceSub])
    (first | refine awP (op_fa_ptr rfl rfl rfl fl29_7 (by exact sz27) (by decide) rfl) ?_ | refine awP (op_fa_rop rfl rfl fl29_7 (by exact sz27) (by decide) (Nat.le_of_ble_eq_true rfl) rfl) ?_); (try simp only [evS, lcS, nzR, nzA, nzL, Nat.reduceBEq, Nat.reduceEqDiff, ↓reduceIte, Nat.reduceAdd, Nat.reduceSub])
    (first | refine awR (op_load_ptr1 rfl rfl rfl rfl ag27 rfl rfl) ?_ | refine awR (op_load_rop1 rfl rfl ag27) ?_); (try simp only [evS, lcS, nzR, nzA, nzL, Nat.reduceBEq, Nat.reduceEqDiff, ↓reduceIte, Nat.reduceAdd, Nat.reduceSub])
    refine awP (op_move rfl rfl) ?_; (try simp only [evS, lcS, nzR, nzA, nzL, Nat.reduceBEq, Nat.reduceEqDiff, ↓reduceIte, Nat.reduceAdd, Nat.reduceSub])
    refine awP (op_slice_ro 0 k rfl (.inl rfl) (by exact rfl) (by exact ⟨_, rfl⟩) (Nat.zero_le _) (by simp; omega) Try.underlying27 sz36 (av_len c.pieces) (es' := (c.pieces.take k).map Piece.av) (by simp [List.map_take])) ?_ -- SLICE 27 ['t28', '-', 't29', '-']; (try simp only [evS, lcS, nzR, nzA, nzL, Nat.reduceBEq, Nat.reduceEqDiff, ↓reduceIte, Nat.reduceAdd, Nat.reduceSub])
    refine awJ (op_app rfl rfl rfl rfl rfl .ro Try.underlying27 ze36 (by decide) (av_len _) (by simp; omega) (by decide) (List.nil_append _) rfl) ?_ -- BUILTIN append ['t26', 't30'] [27, 27]; (try simp only [evS, lcS, nzR, nzA, nzL, Nat.reduceBEq, Nat.reduceEqDiff, ↓reduceIte, Nat.reduceAdd, Nat.reduceSub])
    refine awP (op_assign rfl rfl) ?_; (try simp only [evS, lcS, nzR, nzA, nzL, Nat.reduceBEq, Nat.reduceEqDiff, ↓reduceIte, Nat.reduceAdd, Nat.reduceSub])
    refine AWL.nil ?_
    (refine hK _ ?_; clear hK K; (try simp only [evS, lcS, nzR, nzA, nzL, Nat.reduceBEq, Nat.reduceEqDiff, ↓reduceIte, Nat.reduceAdd, Nat.reduceSub]))
    (refine AW.seq_k ?_; intro K hK)
    refine AW.ado (fun T' => T'.slots[0]? = some (1, .own 29 [c.av]) ∧ T'.slots[1]? = some (2, .own 36 [p.av])) mix rfl ?_
    refine adPo 0 rfl (fun T' ok => op_move rfl rfl) ⟨rfl, rfl⟩ (by kernel_rfl) (by kernel_rfl) ?_; (try simp only [evS, lcS, nzR, nzA, nzL, Nat.reduceBEq, Nat.reduceEqDiff, ↓reduceIte, Nat.reduceAdd, Nat.reduceSub])
    refine adRo 1 rfl (fun T' ok => op_load_ptr rfl rfl ok.2 rfl ag36 sz36 (Nat.le_of_ble_eq_true rfl) rfl) ⟨rfl, rfl⟩ (by kernel_rfl) (by kernel_rfl) ?_; (try simp only [evS, lcS, nzR, nzA, nzL, Nat.reduceBEq, Nat.reduceEqDiff, ↓reduceIte, Nat.reduceAdd, Nat.reduceSub])
    refine adPo 4 rfl (fun T' ok => op_fa_ptr rfl rfl ok.1 fl29_7 (by exact sz27) (by decide) rfl) ⟨rfl, rfl⟩ (by kernel_rfl) (by kernel_rfl) ?_; (try simp only [evS, lcS, nzR, nzA, nzL, Nat.reduceBEq, Nat.reduceEqDiff, ↓reduceIte, Nat.reduceAdd, Nat.reduceSub])
    refine adRo 5 rfl (fun T' ok => op_load_ptr1 rfl rfl ok.1 rfl ag27 rfl rfl) ⟨rfl, rfl⟩ (by kernel_rfl) (by kernel_rfl) ?_; (try simp only [evS, lcS, nzR, nzA, nzL, Nat.reduceBEq, Nat.reduceEqDiff, ↓reduceIte, Nat.reduceAdd, Nat.reduceSub])
    refine adPo 6 rfl (fun T' ok => op_move rfl rfl) ⟨rfl, rfl⟩ (by kernel_rfl) (by kernel_rfl) ?_; (try simp only [evS, lcS, nzR, nzA, nzL, Nat.reduceBEq, Nat.reduceEqDiff, ↓reduceIte, Nat.reduceAdd, Nat.reduceSub])
    refine adPo 7 rfl (fun T' ok => op_slice_ro k c.pieces.length rfl (.inl rfl) (by exact ⟨_, rfl⟩) (by simp [bndIs]) hi.1 (by simp) Try.underlying27 sz36 (av_len c.pieces) (es' := (c.pieces.drop k).map Piece.av) (by rw [List.map_drop, List.take_of_length_le (by simp)])) ⟨rfl, rfl⟩ (by kernel_rfl) (by kernel_rfl) ?_; (try simp only [evS, lcS, nzR, nzA, nzL, Nat.reduceBEq, Nat.reduceEqDiff, ↓reduceIte, Nat.reduceAdd, Nat.reduceSub])
    refine adJo 2 rfl (op_buildSlice rfl [(0, p.av)] [p.av] Try.underlying27 ze36 rfl (by simp) rfl (by simp) rfl (Nat.le_of_ble_eq_true rfl) (by simp [maxLen])) (by kernel_rfl) ⟨rfl, rfl⟩ ?_; (try simp only [evS, lcS, nzR, nzA, nzL, Nat.reduceBEq, Nat.reduceEqDiff, ↓reduceIte, Nat.reduceAdd, Nat.reduceSub])
    refine adJo 3 rfl (op_app (rows := [p.av]) rfl rfl rfl rfl (by simp) (.sl (es := [p.av]) rfl rfl) Try.underlying27 ze36 (by decide) (by simp) (by simp; omega) (by decide) (es' := (c.pieces.take k ++ [p]).map Piece.av) (by simp [ldc_v]) (n := (c.pieces.take k ++ [p]).length) (by simp)) (by kernel_rfl) ⟨rfl, rfl⟩ ?_; (try simp only [evS, lcS, nzR, nzA, nzL, Nat.reduceBEq, Nat.reduceEqDiff, ↓reduceIte, Nat.reduceAdd, Nat.reduceSub])
    refine adJo 8 rfl (op_app (rows := (c.pieces.drop k).map Piece.av) rfl rfl rfl rfl (by simp) .ro Try.underlying27 ze36 (by decide) (av_len _) (by simp; omega) (by decide) (es' := (c.pieces.take k ++ p :: c.pieces.drop k).map Piece.av) (by simp) (n := (c.pieces.take k ++ p :: c.pieces.drop k).length) (by simp; omega)) (by kernel_rfl) ⟨rfl, rfl⟩ ?_; (try simp only [evS, lcS, nzR, nzA, nzL, Nat.reduceBEq, Nat.reduceEqDiff, ↓reduceIte, Nat.reduceAdd, Nat.reduceSub])
    refine adPo 9 rfl (fun T' ok => op_fa_ptr rfl rfl ok.1 fl29_7 (by exact sz27) (by decide) rfl) ⟨rfl, rfl⟩ (by kernel_rfl) (by kernel_rfl) ?_; (try simp only [evS, lcS, nzR, nzA, nzL, Nat.reduceBEq, Nat.reduceEqDiff, ↓reduceIte, Nat.reduceAdd, Nat.reduceSub])
    refine adLo 10 rfl (op_store_nest rfl rfl rfl rfl (row := c.av) rfl sz27 rfl (by decide) (by simp) (by simp) (es2 := [oav (setP c (c.pieces.take k ++ p :: c.pieces.drop k))]) rfl) (by kernel_rfl) (by kernel_rfl) ?_; (try simp only [evS, lcS, nzR, nzA, nzL, Nat.reduceBEq, Nat.reduceEqDiff, ↓reduceIte, Nat.reduceAdd, Nat.reduceSub])
    refine adDoneo (by kernel_rfl) ?_
    (refine hK _ ?_; clear hK K; (try simp only [evS, lcS, nzR, nzA, nzL, Nat.reduceBEq, Nat.reduceEqDiff, ↓reduceIte, Nat.reduceAdd, Nat.reduceSub]))
    (refine AW.seq_k ?_; intro K hK)
    refine AW.region ?_
    refine AWL.gh (Gh.freezeC (r := 0) (es := [oav (setP c (c.pieces.take k ++ p :: c.pieces.drop k))]) (row := oav (setP c (c.pieces.take k ++ p :: c.pieces.drop k))) 0 10 rfl rfl rfl (av_flat (c.pieces.take k ++ p :: c.pieces.drop k)) (es2 := [(setP c (c.pieces.take k ++ p :: c.pieces.drop k)).av]) rfl) ?_; (try simp only [evS, lcS, nzR, nzA, nzL, Nat.reduceBEq, Nat.reduceEqDiff, ↓reduceIte, Nat.reduceAdd, Nat.reduceSub]); (first | refine awR (op_load_ptr rfl rfl rfl rfl ag29 sz29 (Nat.le_of_ble_eq_true rfl) rfl) ?_ | refine awR (op_load_rop rfl rfl ag29 sz29 (Nat.le_of_ble_eq_true rfl) (by decide) rfl) ?_); (try simp only [evS, lcS, nzR, nzA, nzL, Nat.reduceBEq, Nat.reduceEqDiff, ↓reduceIte, Nat.reduceAdd, Nat.reduceSub])
    refine awJ (op_store rfl rfl rfl rfl rfl rfl sz29 rfl (Nat.le_of_ble_eq_true rfl) rfl) ?_; (try simp only [evS, lcS, nzR, nzA, nzL, Nat.reduceBEq, Nat.reduceEqDiff, ↓reduceIte, Nat.reduceAdd, Nat.reduceSub])
    refine AWL.nil ?_
    (refine hK _ ?_; clear hK K; (try simp only [evS, lcS, nzR, nzA, nzL, Nat.reduceBEq, Nat.reduceEqDiff, ↓reduceIte, Nat.reduceAdd, Nat.reduceSub]))
    skip
    refine AW.ret ?_; (try simp only [thenE, inBlk, Nat.reduceEqDiff, ↓reduceIte]); rw [hins]; exact RQ.of0 rfl (.cell (Nat.le_of_ble_eq_true rfl) rfl rfl rfl ag29 sz29 (Nat.le_of_ble_eq_true rfl) rfl rfl .nil)
theorem C26 {c : Container} {p : Piece} : Fn Try.prog 26 [] [.agg c.av, .agg p.av] [.agg (putC c p false).1.av, .v (.int .i64 (putC c p false).2)] [] := by
  refine Spec.body Try.func26 rfl Try.ntmps26 (by simp) rfl ?_; intro S0 own0 v0 w0
  (refine AW.seq_k ?_; intro K hK)
  refine AW.region ?_
  refine awJ (op_box rfl rfl rfl sz29 rfl) ?_; (try simp only [evS, lcS, nzR, nzA, nzL, Nat.reduceBEq, Nat.reduceEqDiff, ↓reduceIte, Nat.reduceAdd, Nat.reduceSub])
  refine awJ (op_box rfl rfl rfl sz36 rfl) ?_; (try simp only [evS, lcS, nzR, nzA, nzL, Nat.reduceBEq, Nat.reduceEqDiff, ↓reduceIte, Nat.reduceAdd, Nat.reduceSub])
  refine awJ (op_alloc rfl ze29 rfl) ?_; (try simp only [evS, lcS, nzR, nzA, nzL, Nat.reduceBEq, Nat.reduceEqDiff, ↓reduceIte, Nat.reduceAdd, Nat.reduceSub])
  refine awP (op_assign rfl rfl) ?_; (try simp only [evS, lcS, nzR, nzA, nzL, Nat.reduceBEq, Nat.reduceEqDiff, ↓reduceIte, Nat.reduceAdd, Nat.reduceSub])
  refine AWL.nil ?_
  (refine hK _ ?_; clear hK K; (try simp only [evS, lcS, nzR, nzA, nzL, Nat.reduceBEq, Nat.reduceEqDiff, ↓reduceIte, Nat.reduceAdd, Nat.reduceSub]))
  (refine AW.seq_k ?_; intro K hK)
  (refine AW.seq_k ?_; intro K hK)
  refine AW.region ?_
  (first | refine awR (op_load_ptr rfl rfl rfl rfl ag29 sz29 (Nat.le_of_ble_eq_true rfl) rfl) ?_ | refine awR (op_load_rop rfl rfl ag29 sz29 (Nat.le_of_ble_eq_true rfl) (by decide) rfl) ?_); (try simp only [evS, lcS, nzR, nzA, nzL, Nat.reduceBEq, Nat.reduceEqDiff, ↓reduceIte, Nat.reduceAdd, Nat.reduceSub])
  refine awJ (OpQ.j (op_callQ (b := true) rfl en39 (C39 (c := c)) (RL.cons (by first | exact View.same rfl | exact View.nil | exact View.rof | exact View.src .ro | exact View.src .rof | exact View.src (.sl rfl rfl) | exact View.ptr rfl rfl rfl) (RL.nil)) rfl)) ?_; (try simp only [evS, lcS, nzR, nzA, nzL, Nat.reduceBEq, Nat.reduceEqDiff, ↓reduceIte, Nat.reduceAdd, Nat.reduceSub])
  refine awP (op_assign rfl rfl) ?_; (try simp only [evS, lcS, nzR, nzA, nzL, Nat.reduceBEq, Nat.reduceEqDiff, ↓reduceIte, Nat.reduceAdd, Nat.reduceSub])
  refine AWL.nil ?_
  (refine hK _ ?_; clear hK K; (try simp only [evS, lcS, nzR, nzA, nzL, Nat.reduceBEq, Nat.reduceEqDiff, ↓reduceIte, Nat.reduceAdd, Nat.reduceSub]))
  (refine AW.seq_k ?_; intro K hK)
  refine AW.region ?_
  refine awP (op_move rfl rfl) ?_; (try simp only [evS, lcS, nzR, nzA, nzL, Nat.reduceBEq, Nat.reduceEqDiff, ↓reduceIte, Nat.reduceAdd, Nat.reduceSub])
  (first | refine awP (op_neq rfl rfl rfl) ?_ | refine awP (op_sneq rfl rfl rfl) ?_); (try simp only [evS, lcS, nzR, nzA, nzL, Nat.reduceBEq, Nat.reduceEqDiff, ↓reduceIte, Nat.reduceAdd, Nat.reduceSub])
  refine AWL.nil ?_
  (refine hK _ ?_; clear hK K; (try simp only [evS, lcS, nzR, nzA, nzL, Nat.reduceBEq, Nat.reduceEqDiff, ↓reduceIte, Nat.reduceAdd, Nat.reduceSub]))
  refine AW.cond rfl rfl rfl (fun hc => ?_) (fun hc => ?_)   -- cond 1
  · -- true
    (try simp only [Bool.and_eq_true, Bool.or_eq_true, Bool.or_eq_false_iff, Bool.and_eq_false_iff, decide_eq_true_eq, decide_eq_false_iff_not, Int.not_le, Int.not_lt, ge_iff_le, gt_iff_lt, Bool.not_eq_true', Bool.not_eq_false', bne_iff_ne, beq_iff_eq, bne_eq_false_iff_eq, beq_eq_false_iff_ne, ne_eq] at hc); have hc1 := hc; skip
    (refine AW.seq_k ?_; intro K hK)
    refine AW.region ?_
    refine awP (op_build2 (xs := [.v (.int .i64 0), .v (.string ⟨#[]⟩), .v (.int .i64 0), .v (.string ⟨#[]⟩), .v (.int .i64 0), .v (.int .i64 0), .v (.int .i64 0), .v (.int .i64 0), .v (.int .i64 0), .v (.int .i64 0), .v (.slice none 0 0)]) rfl pl29 ze29 [] rfl rfl rfl) ?_; (try simp only [evS, lcS, nzR, nzA, nzL, Nat.reduceBEq, Nat.reduceEqDiff, ↓reduceIte, Nat.reduceAdd, Nat.reduceSub])
    refine awP (op_move rfl rfl) ?_; (try simp only [evS, lcS, nzR, nzA, nzL, Nat.reduceBEq, Nat.reduceEqDiff, ↓reduceIte, Nat.reduceAdd, Nat.reduceSub])
    refine awJ (op_store rfl rfl rfl rfl rfl rfl sz29 rfl (Nat.le_of_ble_eq_true rfl) rfl) ?_; (try simp only [evS, lcS, nzR, nzA, nzL, Nat.reduceBEq, Nat.reduceEqDiff, ↓reduceIte, Nat.reduceAdd, Nat.reduceSub])
    refine awP (op_assign rfl rfl) ?_; (try simp only [evS, lcS, nzR, nzA, nzL, Nat.reduceBEq, Nat.reduceEqDiff, ↓reduceIte, Nat.reduceAdd, Nat.reduceSub])
    refine AWL.nil ?_
    (refine hK _ ?_; clear hK K; (try simp only [evS, lcS, nzR, nzA, nzL, Nat.reduceBEq, Nat.reduceEqDiff, ↓reduceIte, Nat.reduceAdd, Nat.reduceSub]))
    refine AW.gh (Gh.slot (r := 2) (es' := [zeroC.av]) rfl rfl zero_le) ?_; (try simp only [evS, lcS, nzR, nzA, nzL, Nat.reduceBEq, Nat.reduceEqDiff, ↓reduceIte, Nat.reduceAdd, Nat.reduceSub])
    refine AW.ret ?_; (try simp only [thenE, inBlk, Nat.reduceEqDiff, ↓reduceIte]); have he : putC c p false = (zeroC, valC c) := (by unfold putC; rw [if_pos (by simpa using hc)]); rw [he]; exact RQ.of0 rfl (.cell (Nat.le_of_ble_eq_true rfl) rfl rfl rfl ag29 sz29 (Nat.le_of_ble_eq_true rfl) rfl rfl (.tmp (Nat.le_of_ble_eq_true rfl) rfl rfl .nil))
  · -- false
    (try simp only [Bool.and_eq_true, Bool.or_eq_true, Bool.or_eq_false_iff, Bool.and_eq_false_iff, decide_eq_true_eq, decide_eq_false_iff_not, Int.not_le, Int.not_lt, ge_iff_le, gt_iff_lt, Bool.not_eq_true', Bool.not_eq_false', bne_iff_ne, beq_iff_eq, bne_eq_false_iff_eq, beq_eq_false_iff_ne, ne_eq] at hc); have hc1 := hc; have hv := val_inv (c := c) (by simpa using hc1); have hv0 : valC c = 0 := (by simpa using hc1); have hfh := found_has (p := p.plate) (val_asc hv0)
    refine AW.skip ?_
    (refine hK _ ?_; clear hK K; (try simp only [evS, lcS, nzR, nzA, nzL, Nat.reduceBEq, Nat.reduceEqDiff, ↓reduceIte, Nat.reduceAdd, Nat.reduceSub]))
    (refine AW.seq_k ?_; intro K hK)
    (refine AW.seq_k ?_; intro K hK)
    refine AW.region ?_
    (first | refine awR (op_load_ptr rfl rfl rfl rfl ag36 sz36 (Nat.le_of_ble_eq_true rfl) rfl) ?_ | refine awR (op_load_rop rfl rfl ag36 sz36 (Nat.le_of_ble_eq_true rfl) (by decide) rfl) ?_); (try simp only [evS, lcS, nzR, nzA, nzL, Nat.reduceBEq, Nat.reduceEqDiff, ↓reduceIte, Nat.reduceAdd, Nat.reduceSub])
    refine awJ (OpQ.j (op_callQ (b := true) rfl en48 (C48 (p := p)) (RL.cons (by first | exact View.same rfl | exact View.nil | exact View.rof | exact View.src .ro | exact View.src .rof | exact View.src (.sl rfl rfl) | exact View.ptr rfl rfl rfl) (RL.nil)) rfl)) ?_; (try simp only [evS, lcS, nzR, nzA, nzL, Nat.reduceBEq, Nat.reduceEqDiff, ↓reduceIte, Nat.reduceAdd, Nat.reduceSub])
    refine awP (op_not rfl rfl rfl) ?_; (try simp only [evS, lcS, nzR, nzA, nzL, Nat.reduceBEq, Nat.reduceEqDiff, ↓reduceIte, Nat.reduceAdd, Nat.reduceSub])
    refine AWL.nil ?_
    (refine hK _ ?_; clear hK K; (try simp only [evS, lcS, nzR, nzA, nzL, Nat.reduceBEq, Nat.reduceEqDiff, ↓reduceIte, Nat.reduceAdd, Nat.reduceSub]))
    refine AW.cond rfl rfl rfl (fun hc => ?_) (fun hc => ?_)   -- cond 2
    · -- true
      (try simp only [Bool.and_eq_true, Bool.or_eq_true, Bool.or_eq_false_iff, Bool.and_eq_false_iff, decide_eq_true_eq, decide_eq_false_iff_not, Int.not_le, Int.not_lt, ge_iff_le, gt_iff_lt, Bool.not_eq_true', Bool.not_eq_false', bne_iff_ne, beq_iff_eq, bne_eq_false_iff_eq, beq_eq_false_iff_ne, ne_eq] at hc); have hc2 := hc; skip
      (refine AW.seq_k ?_; intro K hK)
      refine AW.region ?_
      refine awP (op_build2 (xs := [.v (.int .i64 0), .v (.string ⟨#[]⟩), .v (.int .i64 0), .v (.string ⟨#[]⟩), .v (.int .i64 0), .v (.int .i64 0), .v (.int .i64 0), .v (.int .i64 0), .v (.int .i64 0), .v (.int .i64 0), .v (.slice none 0 0)]) rfl pl29 ze29 [] rfl rfl rfl) ?_; (try simp only [evS, lcS, nzR, nzA, nzL, Nat.reduceBEq, Nat.reduceEqDiff, ↓reduceIte, Nat.reduceAdd, Nat.reduceSub])
      refine awJ (op_store rfl rfl rfl rfl rfl rfl sz29 rfl (Nat.le_of_ble_eq_true rfl) rfl) ?_; (try simp only [evS, lcS, nzR, nzA, nzL, Nat.reduceBEq, Nat.reduceEqDiff, ↓reduceIte, Nat.reduceAdd, Nat.reduceSub])
      refine awP (op_assign rfl rfl) ?_; (try simp only [evS, lcS, nzR, nzA, nzL, Nat.reduceBEq, Nat.reduceEqDiff, ↓reduceIte, Nat.reduceAdd, Nat.reduceSub])
      refine AWL.nil ?_
      (refine hK _ ?_; clear hK K; (try simp only [evS, lcS, nzR, nzA, nzL, Nat.reduceBEq, Nat.reduceEqDiff, ↓reduceIte, Nat.reduceAdd, Nat.reduceSub]))
      refine AW.gh (Gh.slot (r := 2) (es' := [zeroC.av]) rfl rfl zero_le) ?_; (try simp only [evS, lcS, nzR, nzA, nzL, Nat.reduceBEq, Nat.reduceEqDiff, ↓reduceIte, Nat.reduceAdd, Nat.reduceSub])
      refine AW.ret ?_; (try simp only [thenE, inBlk, Nat.reduceEqDiff, ↓reduceIte]); have he : putC c p false = (zeroC, 1) := (by unfold putC; rw [if_neg (by simp [hv0]), if_pos (by simpa using hc)]); rw [he]; exact RQ.of0 rfl (.cell (Nat.le_of_ble_eq_true rfl) rfl rfl rfl ag29 sz29 (Nat.le_of_ble_eq_true rfl) rfl rfl (.tmp (Nat.le_of_ble_eq_true rfl) rfl rfl .nil))
    · -- false
      (try simp only [Bool.and_eq_true, Bool.or_eq_true, Bool.or_eq_false_iff, Bool.and_eq_false_iff, decide_eq_true_eq, decide_eq_false_iff_not, Int.not_le, Int.not_lt, ge_iff_le, gt_iff_lt, Bool.not_eq_true', Bool.not_eq_false', bne_iff_ne, beq_iff_eq, bne_eq_false_iff_eq, beq_eq_false_iff_ne, ne_eq] at hc); have hc2 := hc; have hp1 : piB p = true := (by simpa using hc2); have hpi := piB_inv hp1
      refine AW.skip ?_
      (refine hK _ ?_; clear hK K; (try simp only [evS, lcS, nzR, nzA, nzL, Nat.reduceBEq, Nat.reduceEqDiff, ↓reduceIte, Nat.reduceAdd, Nat.reduceSub]))
      (refine AW.seq_k ?_; intro K hK)
      (refine AW.seq_k ?_; intro K hK)
      refine AW.region ?_
      (first | refine awR (op_load_ptr rfl rfl rfl rfl ag29 sz29 (Nat.le_of_ble_eq_true rfl) rfl) ?_ | refine awR (op_load_rop rfl rfl ag29 sz29 (Nat.le_of_ble_eq_true rfl) (by decide) rfl) ?_); (try simp only [evS, lcS, nzR, nzA, nzL, Nat.reduceBEq, Nat.reduceEqDiff, ↓reduceIte, Nat.reduceAdd, Nat.reduceSub])
      (first | refine awP (op_fa_ptr rfl rfl rfl fl36_0 (by exact sz33) (by decide) rfl) ?_ | refine awP (op_fa_rop rfl rfl fl36_0 (by exact sz33) (by decide) (Nat.le_of_ble_eq_true rfl) rfl) ?_); (try simp only [evS, lcS, nzR, nzA, nzL, Nat.reduceBEq, Nat.reduceEqDiff, ↓reduceIte, Nat.reduceAdd, Nat.reduceSub])
      (first | refine awR (op_load_ptr rfl rfl rfl rfl ag33 sz33 (Nat.le_of_ble_eq_true rfl) rfl) ?_ | refine awR (op_load_rop rfl rfl ag33 sz33 (Nat.le_of_ble_eq_true rfl) (by decide) rfl) ?_); (try simp only [evS, lcS, nzR, nzA, nzL, Nat.reduceBEq, Nat.reduceEqDiff, ↓reduceIte, Nat.reduceAdd, Nat.reduceSub])
      refine awJ (OpQ.j (op_callQ (b := true) rfl en38 (C38 (c := c) (p := p.plate) (by omega)) (RL.cons (by first | exact View.same rfl | exact View.nil | exact View.rof | exact View.src .ro | exact View.src .rof | exact View.src (.sl rfl rfl) | exact View.ptr rfl rfl rfl) (RL.cons (by first | exact View.same rfl | exact View.nil | exact View.rof | exact View.src .ro | exact View.src .rof | exact View.src (.sl rfl rfl) | exact View.ptr rfl rfl rfl) (RL.nil))) rfl)) ?_; (try simp only [evS, lcS, nzR, nzA, nzL, Nat.reduceBEq, Nat.reduceEqDiff, ↓reduceIte, Nat.reduceAdd, Nat.reduceSub])
      refine AWL.nil ?_
      (refine hK _ ?_; clear hK K; (try simp only [evS, lcS, nzR, nzA, nzL, Nat.reduceBEq, Nat.reduceEqDiff, ↓reduceIte, Nat.reduceAdd, Nat.reduceSub]))
      refine AW.cond rfl rfl rfl (fun hc => ?_) (fun hc => ?_)   -- cond 3
      · -- true
        (try simp only [Bool.and_eq_true, Bool.or_eq_true, Bool.or_eq_false_iff, Bool.and_eq_false_iff, decide_eq_true_eq, decide_eq_false_iff_not, Int.not_le, Int.not_lt, ge_iff_le, gt_iff_lt, Bool.not_eq_true', Bool.not_eq_false', bne_iff_ne, beq_iff_eq, bne_eq_false_iff_eq, beq_eq_false_iff_ne, ne_eq] at hc); have hc3 := hc; skip
        (refine AW.seq_k ?_; intro K hK)
        refine AW.region ?_
        refine awP (op_build2 (xs := [.v (.int .i64 0), .v (.string ⟨#[]⟩), .v (.int .i64 0), .v (.string ⟨#[]⟩), .v (.int .i64 0), .v (.int .i64 0), .v (.int .i64 0), .v (.int .i64 0), .v (.int .i64 0), .v (.int .i64 0), .v (.slice none 0 0)]) rfl pl29 ze29 [] rfl rfl rfl) ?_; (try simp only [evS, lcS, nzR, nzA, nzL, Nat.reduceBEq, Nat.reduceEqDiff, ↓reduceIte, Nat.reduceAdd, Nat.reduceSub])
        refine awJ (op_store rfl rfl rfl rfl rfl rfl sz29 rfl (Nat.le_of_ble_eq_true rfl) rfl) ?_; (try simp only [evS, lcS, nzR, nzA, nzL, Nat.reduceBEq, Nat.reduceEqDiff, ↓reduceIte, Nat.reduceAdd, Nat.reduceSub])
        refine awP (op_assign rfl rfl) ?_; (try simp only [evS, lcS, nzR, nzA, nzL, Nat.reduceBEq, Nat.reduceEqDiff, ↓reduceIte, Nat.reduceAdd, Nat.reduceSub])
        refine AWL.nil ?_
        (refine hK _ ?_; clear hK K; (try simp only [evS, lcS, nzR, nzA, nzL, Nat.reduceBEq, Nat.reduceEqDiff, ↓reduceIte, Nat.reduceAdd, Nat.reduceSub]))
        refine AW.gh (Gh.slot (r := 2) (es' := [zeroC.av]) rfl rfl zero_le) ?_; (try simp only [evS, lcS, nzR, nzA, nzL, Nat.reduceBEq, Nat.reduceEqDiff, ↓reduceIte, Nat.reduceAdd, Nat.reduceSub])
        refine AW.ret ?_; (try simp only [thenE, inBlk, Nat.reduceEqDiff, ↓reduceIte]); have he : putC c p false = (zeroC, 5) := (by rw [put_eq hv0 hp1, hfh, if_pos (by simpa using hc)]); rw [he]; exact RQ.of0 rfl (.cell (Nat.le_of_ble_eq_true rfl) rfl rfl rfl ag29 sz29 (Nat.le_of_ble_eq_true rfl) rfl rfl (.tmp (Nat.le_of_ble_eq_true rfl) rfl rfl .nil))
      · -- false
        (try simp only [Bool.and_eq_true, Bool.or_eq_true, Bool.or_eq_false_iff, Bool.and_eq_false_iff, decide_eq_true_eq, decide_eq_false_iff_not, Int.not_le, Int.not_lt, ge_iff_le, gt_iff_lt, Bool.not_eq_true', Bool.not_eq_false', bne_iff_ne, beq_iff_eq, bne_eq_false_iff_eq, beq_eq_false_iff_ne, ne_eq] at hc); have hc3 := hc; skip
        refine AW.skip ?_
        (refine hK _ ?_; clear hK K; (try simp only [evS, lcS, nzR, nzA, nzL, Nat.reduceBEq, Nat.reduceEqDiff, ↓reduceIte, Nat.reduceAdd, Nat.reduceSub]))
        (refine AW.seq_k ?_; intro K hK)
        (refine AW.seq_k ?_; intro K hK)
        refine AW.region ?_
        (first | refine awP (op_fa_ptr rfl rfl rfl fl29_7 (by exact sz27) (by decide) rfl) ?_ | refine awP (op_fa_rop rfl rfl fl29_7 (by exact sz27) (by decide) (Nat.le_of_ble_eq_true rfl) rfl) ?_); (try simp only [evS, lcS, nzR, nzA, nzL, Nat.reduceBEq, Nat.reduceEqDiff, ↓reduceIte, Nat.reduceAdd, Nat.reduceSub])
        (first | refine awR (op_load_ptr1 rfl rfl rfl rfl ag27 rfl rfl) ?_ | refine awR (op_load_rop1 rfl rfl ag27) ?_); (try simp only [evS, lcS, nzR, nzA, nzL, Nat.reduceBEq, Nat.reduceEqDiff, ↓reduceIte, Nat.reduceAdd, Nat.reduceSub])
        (first | refine awP (op_len_ro rfl rfl Try.underlying27 (by first | exact .inr (.inl ⟨_, rfl, rfl⟩) | exact .inl rfl | exact .inr (.inr (.inl ⟨_, rfl, rfl⟩)) | exact .inr (.inr (.inr ⟨rfl, rfl⟩)))) ?_ | refine awP (op_len_sl rfl rfl rfl Try.underlying27) ?_ | refine awP (op_len_str rfl rfl Try.underlying27) ?_); (try simp only [evS, lcS, nzR, nzA, nzL, Nat.reduceBEq, Nat.reduceEqDiff, ↓reduceIte, Nat.reduceAdd, Nat.reduceSub])
        refine awP (op_geq rfl rfl rfl) ?_; (try simp only [evS, lcS, nzR, nzA, nzL, Nat.reduceBEq, Nat.reduceEqDiff, ↓reduceIte, Nat.reduceAdd, Nat.reduceSub])
        refine AWL.nil ?_
        (refine hK _ ?_; clear hK K; (try simp only [evS, lcS, nzR, nzA, nzL, Nat.reduceBEq, Nat.reduceEqDiff, ↓reduceIte, Nat.reduceAdd, Nat.reduceSub]))
        refine AW.cond rfl rfl rfl (fun hc => ?_) (fun hc => ?_)   -- cond 4
        · -- true
          (try simp only [Bool.and_eq_true, Bool.or_eq_true, Bool.or_eq_false_iff, Bool.and_eq_false_iff, decide_eq_true_eq, decide_eq_false_iff_not, Int.not_le, Int.not_lt, ge_iff_le, gt_iff_lt, Bool.not_eq_true', Bool.not_eq_false', bne_iff_ne, beq_iff_eq, bne_eq_false_iff_eq, beq_eq_false_iff_ne, ne_eq] at hc); have hc4 := hc; skip
          (refine AW.seq_k ?_; intro K hK)
          refine AW.region ?_
          refine awP (op_build2 (xs := [.v (.int .i64 0), .v (.string ⟨#[]⟩), .v (.int .i64 0), .v (.string ⟨#[]⟩), .v (.int .i64 0), .v (.int .i64 0), .v (.int .i64 0), .v (.int .i64 0), .v (.int .i64 0), .v (.int .i64 0), .v (.slice none 0 0)]) rfl pl29 ze29 [] rfl rfl rfl) ?_; (try simp only [evS, lcS, nzR, nzA, nzL, Nat.reduceBEq, Nat.reduceEqDiff, ↓reduceIte, Nat.reduceAdd, Nat.reduceSub])
          refine awJ (op_store rfl rfl rfl rfl rfl rfl sz29 rfl (Nat.le_of_ble_eq_true rfl) rfl) ?_; (try simp only [evS, lcS, nzR, nzA, nzL, Nat.reduceBEq, Nat.reduceEqDiff, ↓reduceIte, Nat.reduceAdd, Nat.reduceSub])
          refine awP (op_assign rfl rfl) ?_; (try simp only [evS, lcS, nzR, nzA, nzL, Nat.reduceBEq, Nat.reduceEqDiff, ↓reduceIte, Nat.reduceAdd, Nat.reduceSub])
          refine AWL.nil ?_
          (refine hK _ ?_; clear hK K; (try simp only [evS, lcS, nzR, nzA, nzL, Nat.reduceBEq, Nat.reduceEqDiff, ↓reduceIte, Nat.reduceAdd, Nat.reduceSub]))
          refine AW.gh (Gh.slot (r := 2) (es' := [zeroC.av]) rfl rfl zero_le) ?_; (try simp only [evS, lcS, nzR, nzA, nzL, Nat.reduceBEq, Nat.reduceEqDiff, ↓reduceIte, Nat.reduceAdd, Nat.reduceSub])
          refine AW.ret ?_; (try simp only [thenE, inBlk, Nat.reduceEqDiff, ↓reduceIte]); have he : putC c p false = (zeroC, 2) := (by rw [put_eq hv0 hp1, hfh, if_neg (by simpa using hc3), if_neg (by simp), if_neg (by simp), if_pos (by omega)]); rw [he]; exact RQ.of0 rfl (.cell (Nat.le_of_ble_eq_true rfl) rfl rfl rfl ag29 sz29 (Nat.le_of_ble_eq_true rfl) rfl rfl (.tmp (Nat.le_of_ble_eq_true rfl) rfl rfl .nil))
        · -- false
          (try simp only [Bool.and_eq_true, Bool.or_eq_true, Bool.or_eq_false_iff, Bool.and_eq_false_iff, decide_eq_true_eq, decide_eq_false_iff_not, Int.not_le, Int.not_lt, ge_iff_le, gt_iff_lt, Bool.not_eq_true', Bool.not_eq_false', bne_iff_ne, beq_iff_eq, bne_eq_false_iff_eq, beq_eq_false_iff_ne, ne_eq] at hc); have hc4 := hc; skip
          refine AW.skip ?_
          (refine hK _ ?_; clear hK K; (try simp only [evS, lcS, nzR, nzA, nzL, Nat.reduceBEq, Nat.reduceEqDiff, ↓reduceIte, Nat.reduceAdd, Nat.reduceSub]))
          (refine AW.seq_k ?_; intro K hK)
          refine AW.region ?_
          (first | refine awR (op_load_ptr rfl rfl rfl rfl ag29 sz29 (Nat.le_of_ble_eq_true rfl) rfl) ?_ | refine awR (op_load_rop rfl rfl ag29 sz29 (Nat.le_of_ble_eq_true rfl) (by decide) rfl) ?_); (try simp only [evS, lcS, nzR, nzA, nzL, Nat.reduceBEq, Nat.reduceEqDiff, ↓reduceIte, Nat.reduceAdd, Nat.reduceSub])
          (first | refine awR (op_load_ptr rfl rfl rfl rfl ag36 sz36 (Nat.le_of_ble_eq_true rfl) rfl) ?_ | refine awR (op_load_rop rfl rfl ag36 sz36 (Nat.le_of_ble_eq_true rfl) (by decide) rfl) ?_); (try simp only [evS, lcS, nzR, nzA, nzL, Nat.reduceBEq, Nat.reduceEqDiff, ↓reduceIte, Nat.reduceAdd, Nat.reduceSub])
          refine awJ (op_call (b := false) rfl en51 (C51 (c := c) (p := p) (by omega)) (RL.cons (by first | exact View.same rfl | exact View.nil | exact View.rof | exact View.src .ro | exact View.src .rof | exact View.src (.sl rfl rfl) | exact View.ptr rfl rfl rfl) (RL.cons (by first | exact View.same rfl | exact View.nil | exact View.rof | exact View.src .ro | exact View.src .rof | exact View.src (.sl rfl rfl) | exact View.ptr rfl rfl rfl) (RL.nil))) rfl (fun h => by cases h) rfl rfl) ?_; (try simp only [evS, lcS, nzR, nzA, nzL, Nat.reduceBEq, Nat.reduceEqDiff, ↓reduceIte, Nat.reduceAdd, Nat.reduceSub])
          refine awJ (op_store rfl rfl rfl rfl rfl rfl sz29 rfl (Nat.le_of_ble_eq_true rfl) rfl) ?_; (try simp only [evS, lcS, nzR, nzA, nzL, Nat.reduceBEq, Nat.reduceEqDiff, ↓reduceIte, Nat.reduceAdd, Nat.reduceSub])
          refine awP (op_assign rfl rfl) ?_; (try simp only [evS, lcS, nzR, nzA, nzL, Nat.reduceBEq, Nat.reduceEqDiff, ↓reduceIte, Nat.reduceAdd, Nat.reduceSub])
          refine AWL.nil ?_
          (refine hK _ ?_; clear hK K; (try simp only [evS, lcS, nzR, nzA, nzL, Nat.reduceBEq, Nat.reduceEqDiff, ↓reduceIte, Nat.reduceAdd, Nat.reduceSub]))
          skip
          refine AW.ret ?_; (try simp only [thenE, inBlk, Nat.reduceEqDiff, ↓reduceIte]); have he : putC c p false = (insC c p, 0) := (by rw [put_eq hv0 hp1, hfh, if_neg (by simpa using hc3), if_neg (by simp), if_neg (by simp), if_neg (by omega)]); rw [he]; exact RQ.of0 rfl (.cell (Nat.le_of_ble_eq_true rfl) rfl rfl rfl ag29 sz29 (Nat.le_of_ble_eq_true rfl) rfl rfl (.tmp (Nat.le_of_ble_eq_true rfl) rfl rfl .nil))
theorem C25 {c : Container} {p : Piece} : Fn Try.prog 25 [] [.agg c.av, .agg p.av] [.agg (putC c p true).1.av, .v (.int .i64 (putC c p true).2)] [] := by
  refine Spec.body Try.func25 rfl Try.ntmps25 (by simp) rfl ?_; intro S0 own0 v0 w0
  (refine AW.seq_k ?_; intro K hK)
  refine AW.region ?_
  refine awJ (op_box rfl rfl rfl sz29 rfl) ?_; (try simp only [evS, lcS, nzR, nzA, nzL, Nat.reduceBEq, Nat.reduceEqDiff, ↓reduceIte, Nat.reduceAdd, Nat.reduceSub])
  refine awJ (op_box rfl rfl rfl sz36 rfl) ?_; (try simp only [evS, lcS, nzR, nzA, nzL, Nat.reduceBEq, Nat.reduceEqDiff, ↓reduceIte, Nat.reduceAdd, Nat.reduceSub])
  refine awJ (op_alloc rfl ze29 rfl) ?_; (try simp only [evS, lcS, nzR, nzA, nzL, Nat.reduceBEq, Nat.reduceEqDiff, ↓reduceIte, Nat.reduceAdd, Nat.reduceSub])
  refine awP (op_assign rfl rfl) ?_; (try simp only [evS, lcS, nzR, nzA, nzL, Nat.reduceBEq, Nat.reduceEqDiff, ↓reduceIte, Nat.reduceAdd, Nat.reduceSub])
  refine AWL.nil ?_
  (refine hK _ ?_; clear hK K; (try simp only [evS, lcS, nzR, nzA, nzL, Nat.reduceBEq, Nat.reduceEqDiff, ↓reduceIte, Nat.reduceAdd, Nat.reduceSub]))
  (refine AW.seq_k ?_; intro K hK)
  (refine AW.seq_k ?_; intro K hK)
  refine AW.region ?_
  (first | refine awR (op_load_ptr rfl rfl rfl rfl ag29 sz29 (Nat.le_of_ble_eq_true rfl) rfl) ?_ | refine awR (op_load_rop rfl rfl ag29 sz29 (Nat.le_of_ble_eq_true rfl) (by decide) rfl) ?_); (try simp only [evS, lcS, nzR, nzA, nzL, Nat.reduceBEq, Nat.reduceEqDiff, ↓reduceIte, Nat.reduceAdd, Nat.reduceSub])
  refine awJ (OpQ.j (op_callQ (b := true) rfl en39 (C39 (c := c)) (RL.cons (by first | exact View.same rfl | exact View.nil | exact View.rof | exact View.src .ro | exact View.src .rof | exact View.src (.sl rfl rfl) | exact View.ptr rfl rfl rfl) (RL.nil)) rfl)) ?_; (try simp only [evS, lcS, nzR, nzA, nzL, Nat.reduceBEq, Nat.reduceEqDiff, ↓reduceIte, Nat.reduceAdd, Nat.reduceSub])
  refine awP (op_assign rfl rfl) ?_; (try simp only [evS, lcS, nzR, nzA, nzL, Nat.reduceBEq, Nat.reduceEqDiff, ↓reduceIte, Nat.reduceAdd, Nat.reduceSub])
  refine AWL.nil ?_
  (refine hK _ ?_; clear hK K; (try simp only [evS, lcS, nzR, nzA, nzL, Nat.reduceBEq, Nat.reduceEqDiff, ↓reduceIte, Nat.reduceAdd, Nat.reduceSub]))
  (refine AW.seq_k ?_; intro K hK)
  refine AW.region ?_
  refine awP (op_move rfl rfl) ?_; (try simp only [evS, lcS, nzR, nzA, nzL, Nat.reduceBEq, Nat.reduceEqDiff, ↓reduceIte, Nat.reduceAdd, Nat.reduceSub])
  (first | refine awP (op_neq rfl rfl rfl) ?_ | refine awP (op_sneq rfl rfl rfl) ?_); (try simp only [evS, lcS, nzR, nzA, nzL, Nat.reduceBEq, Nat.reduceEqDiff, ↓reduceIte, Nat.reduceAdd, Nat.reduceSub])
  refine AWL.nil ?_
  (refine hK _ ?_; clear hK K; (try simp only [evS, lcS, nzR, nzA, nzL, Nat.reduceBEq, Nat.reduceEqDiff, ↓reduceIte, Nat.reduceAdd, Nat.reduceSub]))
  refine AW.cond rfl rfl rfl (fun hc => ?_) (fun hc => ?_)   -- cond 1
  · -- true
    (try simp only [Bool.and_eq_true, Bool.or_eq_true, Bool.or_eq_false_iff, Bool.and_eq_false_iff, decide_eq_true_eq, decide_eq_false_iff_not, Int.not_le, Int.not_lt, ge_iff_le, gt_iff_lt, Bool.not_eq_true', Bool.not_eq_false', bne_iff_ne, beq_iff_eq, bne_eq_false_iff_eq, beq_eq_false_iff_ne, ne_eq] at hc); have hc1 := hc; skip
    (refine AW.seq_k ?_; intro K hK)
    refine AW.region ?_
    refine awP (op_build2 (xs := [.v (.int .i64 0), .v (.string ⟨#[]⟩), .v (.int .i64 0), .v (.string ⟨#[]⟩), .v (.int .i64 0), .v (.int .i64 0), .v (.int .i64 0), .v (.int .i64 0), .v (.int .i64 0), .v (.int .i64 0), .v (.slice none 0 0)]) rfl pl29 ze29 [] rfl rfl rfl) ?_; (try simp only [evS, lcS, nzR, nzA, nzL, Nat.reduceBEq, Nat.reduceEqDiff, ↓reduceIte, Nat.reduceAdd, Nat.reduceSub])
    refine awP (op_move rfl rfl) ?_; (try simp only [evS, lcS, nzR, nzA, nzL, Nat.reduceBEq, Nat.reduceEqDiff, ↓reduceIte, Nat.reduceAdd, Nat.reduceSub])
    refine awJ (op_store rfl rfl rfl rfl rfl rfl sz29 rfl (Nat.le_of_ble_eq_true rfl) rfl) ?_; (try simp only [evS, lcS, nzR, nzA, nzL, Nat.reduceBEq, Nat.reduceEqDiff, ↓reduceIte, Nat.reduceAdd, Nat.reduceSub])
    refine awP (op_assign rfl rfl) ?_; (try simp only [evS, lcS, nzR, nzA, nzL, Nat.reduceBEq, Nat.reduceEqDiff, ↓reduceIte, Nat.reduceAdd, Nat.reduceSub])
    refine AWL.nil ?_
    (refine hK _ ?_; clear hK K; (try simp only [evS, lcS, nzR, nzA, nzL, Nat.reduceBEq, Nat.reduceEqDiff, ↓reduceIte, Nat.reduceAdd, Nat.reduceSub]))
    refine AW.gh (Gh.slot (r := 2) (es' := [zeroC.av]) rfl rfl zero_le) ?_; (try simp only [evS, lcS, nzR, nzA, nzL, Nat.reduceBEq, Nat.reduceEqDiff, ↓reduceIte, Nat.reduceAdd, Nat.reduceSub])
    refine AW.ret ?_; (try simp only [thenE, inBlk, Nat.reduceEqDiff, ↓reduceIte]); have he : putC c p true = (zeroC, valC c) := (by unfold putC; rw [if_pos (by simpa using hc)]); rw [he]; exact RQ.of0 rfl (.cell (Nat.le_of_ble_eq_true rfl) rfl rfl rfl ag29 sz29 (Nat.le_of_ble_eq_true rfl) rfl rfl (.tmp (Nat.le_of_ble_eq_true rfl) rfl rfl .nil))
  · -- false
    (try simp only [Bool.and_eq_true, Bool.or_eq_true, Bool.or_eq_false_iff, Bool.and_eq_false_iff, decide_eq_true_eq, decide_eq_false_iff_not, Int.not_le, Int.not_lt, ge_iff_le, gt_iff_lt, Bool.not_eq_true', Bool.not_eq_false', bne_iff_ne, beq_iff_eq, bne_eq_false_iff_eq, beq_eq_false_iff_ne, ne_eq] at hc); have hc1 := hc; have hv := val_inv (c := c) (by simpa using hc1); have hv0 : valC c = 0 := (by simpa using hc1); have hfh := found_has (p := p.plate) (val_asc hv0); have hvw := val_w hv0; have hsb := sum_bd _ hvw
    refine AW.skip ?_
    (refine hK _ ?_; clear hK K; (try simp only [evS, lcS, nzR, nzA, nzL, Nat.reduceBEq, Nat.reduceEqDiff, ↓reduceIte, Nat.reduceAdd, Nat.reduceSub]))
    (refine AW.seq_k ?_; intro K hK)
    (refine AW.seq_k ?_; intro K hK)
    refine AW.region ?_
    (first | refine awR (op_load_ptr rfl rfl rfl rfl ag36 sz36 (Nat.le_of_ble_eq_true rfl) rfl) ?_ | refine awR (op_load_rop rfl rfl ag36 sz36 (Nat.le_of_ble_eq_true rfl) (by decide) rfl) ?_); (try simp only [evS, lcS, nzR, nzA, nzL, Nat.reduceBEq, Nat.reduceEqDiff, ↓reduceIte, Nat.reduceAdd, Nat.reduceSub])
    refine awJ (OpQ.j (op_callQ (b := true) rfl en48 (C48 (p := p)) (RL.cons (by first | exact View.same rfl | exact View.nil | exact View.rof | exact View.src .ro | exact View.src .rof | exact View.src (.sl rfl rfl) | exact View.ptr rfl rfl rfl) (RL.nil)) rfl)) ?_; (try simp only [evS, lcS, nzR, nzA, nzL, Nat.reduceBEq, Nat.reduceEqDiff, ↓reduceIte, Nat.reduceAdd, Nat.reduceSub])
    refine awP (op_not rfl rfl rfl) ?_; (try simp only [evS, lcS, nzR, nzA, nzL, Nat.reduceBEq, Nat.reduceEqDiff, ↓reduceIte, Nat.reduceAdd, Nat.reduceSub])
    refine AWL.nil ?_
    (refine hK _ ?_; clear hK K; (try simp only [evS, lcS, nzR, nzA, nzL, Nat.reduceBEq, Nat.reduceEqDiff, ↓reduceIte, Nat.reduceAdd, Nat.reduceSub]))
    refine AW.cond rfl rfl rfl (fun hc => ?_) (fun hc => ?_)   -- cond 2
    · -- true
      (try simp only [Bool.and_eq_true, Bool.or_eq_true, Bool.or_eq_false_iff, Bool.and_eq_false_iff, decide_eq_true_eq, decide_eq_false_iff_not, Int.not_le, Int.not_lt, ge_iff_le, gt_iff_lt, Bool.not_eq_true', Bool.not_eq_false', bne_iff_ne, beq_iff_eq, bne_eq_false_iff_eq, beq_eq_false_iff_ne, ne_eq] at hc); have hc2 := hc; skip
      (refine AW.seq_k ?_; intro K hK)
      refine AW.region ?_
      refine awP (op_build2 (xs := [.v (.int .i64 0), .v (.string ⟨#[]⟩), .v (.int .i64 0), .v (.string ⟨#[]⟩), .v (.int .i64 0), .v (.int .i64 0), .v (.int .i64 0), .v (.int .i64 0), .v (.int .i64 0), .v (.int .i64 0), .v (.slice none 0 0)]) rfl pl29 ze29 [] rfl rfl rfl) ?_; (try simp only [evS, lcS, nzR, nzA, nzL, Nat.reduceBEq, Nat.reduceEqDiff, ↓reduceIte, Nat.reduceAdd, Nat.reduceSub])
      refine awJ (op_store rfl rfl rfl rfl rfl rfl sz29 rfl (Nat.le_of_ble_eq_true rfl) rfl) ?_; (try simp only [evS, lcS, nzR, nzA, nzL, Nat.reduceBEq, Nat.reduceEqDiff, ↓reduceIte, Nat.reduceAdd, Nat.reduceSub])
      refine awP (op_assign rfl rfl) ?_; (try simp only [evS, lcS, nzR, nzA, nzL, Nat.reduceBEq, Nat.reduceEqDiff, ↓reduceIte, Nat.reduceAdd, Nat.reduceSub])
      refine AWL.nil ?_
      (refine hK _ ?_; clear hK K; (try simp only [evS, lcS, nzR, nzA, nzL, Nat.reduceBEq, Nat.reduceEqDiff, ↓reduceIte, Nat.reduceAdd, Nat.reduceSub]))
      refine AW.gh (Gh.slot (r := 2) (es' := [zeroC.av]) rfl rfl zero_le) ?_; (try simp only [evS, lcS, nzR, nzA, nzL, Nat.reduceBEq, Nat.reduceEqDiff, ↓reduceIte, Nat.reduceAdd, Nat.reduceSub])
      refine AW.ret ?_; (try simp only [thenE, inBlk, Nat.reduceEqDiff, ↓reduceIte]); have he : putC c p true = (zeroC, 1) := (by unfold putC; rw [if_neg (by simp [hv0]), if_pos (by simpa using hc)]); rw [he]; exact RQ.of0 rfl (.cell (Nat.le_of_ble_eq_true rfl) rfl rfl rfl ag29 sz29 (Nat.le_of_ble_eq_true rfl) rfl rfl (.tmp (Nat.le_of_ble_eq_true rfl) rfl rfl .nil))
    · -- false
      (try simp only [Bool.and_eq_true, Bool.or_eq_true, Bool.or_eq_false_iff, Bool.and_eq_false_iff, decide_eq_true_eq, decide_eq_false_iff_not, Int.not_le, Int.not_lt, ge_iff_le, gt_iff_lt, Bool.not_eq_true', Bool.not_eq_false', bne_iff_ne, beq_iff_eq, bne_eq_false_iff_eq, beq_eq_false_iff_ne, ne_eq] at hc); have hc2 := hc; have hp1 : piB p = true := (by simpa using hc2); have hpi := piB_inv hp1
      refine AW.skip ?_
      (refine hK _ ?_; clear hK K; (try simp only [evS, lcS, nzR, nzA, nzL, Nat.reduceBEq, Nat.reduceEqDiff, ↓reduceIte, Nat.reduceAdd, Nat.reduceSub]))
      (refine AW.seq_k ?_; intro K hK)
      (refine AW.seq_k ?_; intro K hK)
      refine AW.region ?_
      (first | refine awR (op_load_ptr rfl rfl rfl rfl ag29 sz29 (Nat.le_of_ble_eq_true rfl) rfl) ?_ | refine awR (op_load_rop rfl rfl ag29 sz29 (Nat.le_of_ble_eq_true rfl) (by decide) rfl) ?_); (try simp only [evS, lcS, nzR, nzA, nzL, Nat.reduceBEq, Nat.reduceEqDiff, ↓reduceIte, Nat.reduceAdd, Nat.reduceSub])
      (first | refine awP (op_fa_ptr rfl rfl rfl fl36_0 (by exact sz33) (by decide) rfl) ?_ | refine awP (op_fa_rop rfl rfl fl36_0 (by exact sz33) (by decide) (Nat.le_of_ble_eq_true rfl) rfl) ?_); (try simp only [evS, lcS, nzR, nzA, nzL, Nat.reduceBEq, Nat.reduceEqDiff, ↓reduceIte, Nat.reduceAdd, Nat.reduceSub])
      (first | refine awR (op_load_ptr rfl rfl rfl rfl ag33 sz33 (Nat.le_of_ble_eq_true rfl) rfl) ?_ | refine awR (op_load_rop rfl rfl ag33 sz33 (Nat.le_of_ble_eq_true rfl) (by decide) rfl) ?_); (try simp only [evS, lcS, nzR, nzA, nzL, Nat.reduceBEq, Nat.reduceEqDiff, ↓reduceIte, Nat.reduceAdd, Nat.reduceSub])
      refine awJ (OpQ.j (op_callQ (b := true) rfl en38 (C38 (c := c) (p := p.plate) (by omega)) (RL.cons (by first | exact View.same rfl | exact View.nil | exact View.rof | exact View.src .ro | exact View.src .rof | exact View.src (.sl rfl rfl) | exact View.ptr rfl rfl rfl) (RL.cons (by first | exact View.same rfl | exact View.nil | exact View.rof | exact View.src .ro | exact View.src .rof | exact View.src (.sl rfl rfl) | exact View.ptr rfl rfl rfl) (RL.nil))) rfl)) ?_; (try simp only [evS, lcS, nzR, nzA, nzL, Nat.reduceBEq, Nat.reduceEqDiff, ↓reduceIte, Nat.reduceAdd, Nat.reduceSub])
      refine AWL.nil ?_
      (refine hK _ ?_; clear hK K; (try simp only [evS, lcS, nzR, nzA, nzL, Nat.reduceBEq, Nat.reduceEqDiff, ↓reduceIte, Nat.reduceAdd, Nat.reduceSub]))
      refine AW.cond rfl rfl rfl (fun hc => ?_) (fun hc => ?_)   -- cond 3
      · -- true
        (try simp only [Bool.and_eq_true, Bool.or_eq_true, Bool.or_eq_false_iff, Bool.and_eq_false_iff, decide_eq_true_eq, decide_eq_false_iff_not, Int.not_le, Int.not_lt, ge_iff_le, gt_iff_lt, Bool.not_eq_true', Bool.not_eq_false', bne_iff_ne, beq_iff_eq, bne_eq_false_iff_eq, beq_eq_false_iff_ne, ne_eq] at hc); have hc3 := hc; skip
        (refine AW.seq_k ?_; intro K hK)
        refine AW.region ?_
        refine awP (op_build2 (xs := [.v (.int .i64 0), .v (.string ⟨#[]⟩), .v (.int .i64 0), .v (.string ⟨#[]⟩), .v (.int .i64 0), .v (.int .i64 0), .v (.int .i64 0), .v (.int .i64 0), .v (.int .i64 0), .v (.int .i64 0), .v (.slice none 0 0)]) rfl pl29 ze29 [] rfl rfl rfl) ?_; (try simp only [evS, lcS, nzR, nzA, nzL, Nat.reduceBEq, Nat.reduceEqDiff, ↓reduceIte, Nat.reduceAdd, Nat.reduceSub])
        refine awJ (op_store rfl rfl rfl rfl rfl rfl sz29 rfl (Nat.le_of_ble_eq_true rfl) rfl) ?_; (try simp only [evS, lcS, nzR, nzA, nzL, Nat.reduceBEq, Nat.reduceEqDiff, ↓reduceIte, Nat.reduceAdd, Nat.reduceSub])
        refine awP (op_assign rfl rfl) ?_; (try simp only [evS, lcS, nzR, nzA, nzL, Nat.reduceBEq, Nat.reduceEqDiff, ↓reduceIte, Nat.reduceAdd, Nat.reduceSub])
        refine AWL.nil ?_
        (refine hK _ ?_; clear hK K; (try simp only [evS, lcS, nzR, nzA, nzL, Nat.reduceBEq, Nat.reduceEqDiff, ↓reduceIte, Nat.reduceAdd, Nat.reduceSub]))
        refine AW.gh (Gh.slot (r := 2) (es' := [zeroC.av]) rfl rfl zero_le) ?_; (try simp only [evS, lcS, nzR, nzA, nzL, Nat.reduceBEq, Nat.reduceEqDiff, ↓reduceIte, Nat.reduceAdd, Nat.reduceSub])
        refine AW.ret ?_; (try simp only [thenE, inBlk, Nat.reduceEqDiff, ↓reduceIte]); have he : putC c p true = (zeroC, 5) := (by rw [put_eq hv0 hp1, hfh, if_pos (by simpa using hc)]); rw [he]; exact RQ.of0 rfl (.cell (Nat.le_of_ble_eq_true rfl) rfl rfl rfl ag29 sz29 (Nat.le_of_ble_eq_true rfl) rfl rfl (.tmp (Nat.le_of_ble_eq_true rfl) rfl rfl .nil))
      · -- false
        (try simp only [Bool.and_eq_true, Bool.or_eq_true, Bool.or_eq_false_iff, Bool.and_eq_false_iff, decide_eq_true_eq, decide_eq_false_iff_not, Int.not_le, Int.not_lt, ge_iff_le, gt_iff_lt, Bool.not_eq_true', Bool.not_eq_false', bne_iff_ne, beq_iff_eq, bne_eq_false_iff_eq, beq_eq_false_iff_ne, ne_eq] at hc); have hc3 := hc; skip
        refine AW.skip ?_
        (refine hK _ ?_; clear hK K; (try simp only [evS, lcS, nzR, nzA, nzL, Nat.reduceBEq, Nat.reduceEqDiff, ↓reduceIte, Nat.reduceAdd, Nat.reduceSub]))
        (refine AW.seq_k ?_; intro K hK)
        (refine AW.seq_k ?_; intro K hK)
        refine AW.region ?_
        (first | refine awR (op_load_ptr rfl rfl rfl rfl ag29 sz29 (Nat.le_of_ble_eq_true rfl) rfl) ?_ | refine awR (op_load_rop rfl rfl ag29 sz29 (Nat.le_of_ble_eq_true rfl) (by decide) rfl) ?_); (try simp only [evS, lcS, nzR, nzA, nzL, Nat.reduceBEq, Nat.reduceEqDiff, ↓reduceIte, Nat.reduceAdd, Nat.reduceSub])
        (first | refine awP (op_fa_ptr rfl rfl rfl fl36_2 (by exact sz3) (by decide) rfl) ?_ | refine awP (op_fa_rop rfl rfl fl36_2 (by exact sz3) (by decide) (Nat.le_of_ble_eq_true rfl) rfl) ?_); (try simp only [evS, lcS, nzR, nzA, nzL, Nat.reduceBEq, Nat.reduceEqDiff, ↓reduceIte, Nat.reduceAdd, Nat.reduceSub])
        (first | refine awR (op_load_ptr1 rfl rfl rfl rfl ag3 rfl rfl) ?_ | refine awR (op_load_rop1 rfl rfl ag3) ?_); (try simp only [evS, lcS, nzR, nzA, nzL, Nat.reduceBEq, Nat.reduceEqDiff, ↓reduceIte, Nat.reduceAdd, Nat.reduceSub])
        refine awJ (OpQ.j (op_callQ (b := true) rfl en49 (C49 (c := c) (cat := p.category)) (RL.cons (by first | exact View.same rfl | exact View.nil | exact View.rof | exact View.src .ro | exact View.src .rof | exact View.src (.sl rfl rfl) | exact View.ptr rfl rfl rfl) (RL.cons (by first | exact View.same rfl | exact View.nil | exact View.rof | exact View.src .ro | exact View.src .rof | exact View.src (.sl rfl rfl) | exact View.ptr rfl rfl rfl) (RL.nil))) rfl)) ?_; (try simp only [evS, lcS, nzR, nzA, nzL, Nat.reduceBEq, Nat.reduceEqDiff, ↓reduceIte, Nat.reduceAdd, Nat.reduceSub])
        refine awP (op_not rfl rfl rfl) ?_; (try simp only [evS, lcS, nzR, nzA, nzL, Nat.reduceBEq, Nat.reduceEqDiff, ↓reduceIte, Nat.reduceAdd, Nat.reduceSub])
        refine AWL.nil ?_
        (refine hK _ ?_; clear hK K; (try simp only [evS, lcS, nzR, nzA, nzL, Nat.reduceBEq, Nat.reduceEqDiff, ↓reduceIte, Nat.reduceAdd, Nat.reduceSub]))
        refine AW.cond rfl rfl rfl (fun hc => ?_) (fun hc => ?_)   -- cond 4
        · -- true
          (try simp only [Bool.and_eq_true, Bool.or_eq_true, Bool.or_eq_false_iff, Bool.and_eq_false_iff, decide_eq_true_eq, decide_eq_false_iff_not, Int.not_le, Int.not_lt, ge_iff_le, gt_iff_lt, Bool.not_eq_true', Bool.not_eq_false', bne_iff_ne, beq_iff_eq, bne_eq_false_iff_eq, beq_eq_false_iff_ne, ne_eq] at hc); have hc4 := hc; have hb4 : bitB c.categories p.category = false := (by rcases hc4 with (h | h) | h; omega; omega; exact h)
          (refine AW.seq_k ?_; intro K hK)
          refine AW.region ?_
          refine awP (op_build2 (xs := [.v (.int .i64 0), .v (.string ⟨#[]⟩), .v (.int .i64 0), .v (.string ⟨#[]⟩), .v (.int .i64 0), .v (.int .i64 0), .v (.int .i64 0), .v (.int .i64 0), .v (.int .i64 0), .v (.int .i64 0), .v (.slice none 0 0)]) rfl pl29 ze29 [] rfl rfl rfl) ?_; (try simp only [evS, lcS, nzR, nzA, nzL, Nat.reduceBEq, Nat.reduceEqDiff, ↓reduceIte, Nat.reduceAdd, Nat.reduceSub])
          refine awJ (op_store rfl rfl rfl rfl rfl rfl sz29 rfl (Nat.le_of_ble_eq_true rfl) rfl) ?_; (try simp only [evS, lcS, nzR, nzA, nzL, Nat.reduceBEq, Nat.reduceEqDiff, ↓reduceIte, Nat.reduceAdd, Nat.reduceSub])
          refine awP (op_assign rfl rfl) ?_; (try simp only [evS, lcS, nzR, nzA, nzL, Nat.reduceBEq, Nat.reduceEqDiff, ↓reduceIte, Nat.reduceAdd, Nat.reduceSub])
          refine AWL.nil ?_
          (refine hK _ ?_; clear hK K; (try simp only [evS, lcS, nzR, nzA, nzL, Nat.reduceBEq, Nat.reduceEqDiff, ↓reduceIte, Nat.reduceAdd, Nat.reduceSub]))
          refine AW.gh (Gh.slot (r := 2) (es' := [zeroC.av]) rfl rfl zero_le) ?_; (try simp only [evS, lcS, nzR, nzA, nzL, Nat.reduceBEq, Nat.reduceEqDiff, ↓reduceIte, Nat.reduceAdd, Nat.reduceSub])
          refine AW.ret ?_; (try simp only [thenE, inBlk, Nat.reduceEqDiff, ↓reduceIte]); have he : putC c p true = (zeroC, 4) := (by rw [put_eq hv0 hp1, hfh, if_neg (by simpa using hc3), if_pos (by simp [hb4])]); rw [he]; exact RQ.of0 rfl (.cell (Nat.le_of_ble_eq_true rfl) rfl rfl rfl ag29 sz29 (Nat.le_of_ble_eq_true rfl) rfl rfl (.tmp (Nat.le_of_ble_eq_true rfl) rfl rfl .nil))
        · -- false
          (try simp only [Bool.and_eq_true, Bool.or_eq_true, Bool.or_eq_false_iff, Bool.and_eq_false_iff, decide_eq_true_eq, decide_eq_false_iff_not, Int.not_le, Int.not_lt, ge_iff_le, gt_iff_lt, Bool.not_eq_true', Bool.not_eq_false', bne_iff_ne, beq_iff_eq, bne_eq_false_iff_eq, beq_eq_false_iff_ne, ne_eq] at hc); have hc4 := hc; have hb4 : bitB c.categories p.category = true := hc4.2
          refine AW.skip ?_
          (refine hK _ ?_; clear hK K; (try simp only [evS, lcS, nzR, nzA, nzL, Nat.reduceBEq, Nat.reduceEqDiff, ↓reduceIte, Nat.reduceAdd, Nat.reduceSub]))
          (refine AW.seq_k ?_; intro K hK)
          (refine AW.seq_k ?_; intro K hK)
          refine AW.quiet mix (by kernel_rfl) ?_   -- DRAWS
          (first | refine aqP (op_fa_ptr rfl rfl rfl fl29_7 (by exact sz27) (by decide) rfl) ?_ | refine aqP (op_fa_rop rfl rfl fl29_7 (by exact sz27) (by decide) (Nat.le_of_ble_eq_true rfl) rfl) ?_); (try simp only [evS, lcS, nzR, nzA, nzL, Nat.reduceBEq, Nat.reduceEqDiff, ↓reduceIte, Nat.reduceAdd, Nat.reduceSub])
          (first | refine aqR (op_load_ptr1 rfl rfl rfl rfl ag27 rfl rfl) ?_ | refine aqR (op_load_rop1 rfl rfl ag27) ?_); (try simp only [evS, lcS, nzR, nzA, nzL, Nat.reduceBEq, Nat.reduceEqDiff, ↓reduceIte, Nat.reduceAdd, Nat.reduceSub])
          (first | refine aqP (op_len_ro rfl rfl Try.underlying27 (by first | exact .inr (.inl ⟨_, rfl, rfl⟩) | exact .inl rfl | exact .inr (.inr (.inl ⟨_, rfl, rfl⟩)) | exact .inr (.inr (.inr ⟨rfl, rfl⟩)))) ?_ | refine aqP (op_len_sl rfl rfl rfl Try.underlying27) ?_ | refine aqP (op_len_str rfl rfl Try.underlying27) ?_); (try simp only [evS, lcS, nzR, nzA, nzL, Nat.reduceBEq, Nat.reduceEqDiff, ↓reduceIte, Nat.reduceAdd, Nat.reduceSub])
          (first | refine aqP (op_fa_ptr rfl rfl rfl fl29_4 (by exact sz3) (by decide) rfl) ?_ | refine aqP (op_fa_rop rfl rfl fl29_4 (by exact sz3) (by decide) (Nat.le_of_ble_eq_true rfl) rfl) ?_); (try simp only [evS, lcS, nzR, nzA, nzL, Nat.reduceBEq, Nat.reduceEqDiff, ↓reduceIte, Nat.reduceAdd, Nat.reduceSub])
          (first | refine aqR (op_load_ptr1 rfl rfl rfl rfl ag3 rfl rfl) ?_ | refine aqR (op_load_rop1 rfl rfl ag3) ?_); (try simp only [evS, lcS, nzR, nzA, nzL, Nat.reduceBEq, Nat.reduceEqDiff, ↓reduceIte, Nat.reduceAdd, Nat.reduceSub])
          refine aqP (op_geq rfl rfl rfl) ?_; (try simp only [evS, lcS, nzR, nzA, nzL, Nat.reduceBEq, Nat.reduceEqDiff, ↓reduceIte, Nat.reduceAdd, Nat.reduceSub])
          refine aqP (op_move rfl rfl) ?_; (try simp only [evS, lcS, nzR, nzA, nzL, Nat.reduceBEq, Nat.reduceEqDiff, ↓reduceIte, Nat.reduceAdd, Nat.reduceSub])
          refine' aqOr' [_, _, _, _, _, _, _, _, _] [35,36,37,38,39,40,41,42,43] rfl rfl rfl rfl rfl rfl rfl rfl rfl rfl rfl rfl (fun hb => ?_) ?_; rotate_left
          · -- segment
            (try simp only [Bool.and_eq_true, Bool.or_eq_true, Bool.or_eq_false_iff, Bool.and_eq_false_iff, decide_eq_true_eq, decide_eq_false_iff_not, Int.not_le, Int.not_lt, ge_iff_le, gt_iff_lt, Bool.not_eq_true', Bool.not_eq_false', bne_iff_ne, beq_iff_eq, bne_eq_false_iff_eq, beq_eq_false_iff_ne, ne_eq] at hb)
            (first | refine aqP (op_fa_ptr rfl rfl rfl fl29_7 (by exact sz27) (by decide) rfl) ?_ | refine aqP (op_fa_rop rfl rfl fl29_7 (by exact sz27) (by decide) (Nat.le_of_ble_eq_true rfl) rfl) ?_); (try simp only [evS, lcS, nzR, nzA, nzL, Nat.reduceBEq, Nat.reduceEqDiff, ↓reduceIte, Nat.reduceAdd, Nat.reduceSub])
            (first | refine aqR (op_load_ptr1 rfl rfl rfl rfl ag27 rfl rfl) ?_ | refine aqR (op_load_rop1 rfl rfl ag27) ?_); (try simp only [evS, lcS, nzR, nzA, nzL, Nat.reduceBEq, Nat.reduceEqDiff, ↓reduceIte, Nat.reduceAdd, Nat.reduceSub])
            refine aqQ (op_callQ (b := true) rfl en50 (C50 (l := c.pieces) (by omega) hvw) (RL.cons (by first | exact View.same rfl | exact View.nil | exact View.rof | exact View.src .ro | exact View.src .rof | exact View.src (.sl rfl rfl) | exact View.ptr rfl rfl rfl) (RL.nil)) rfl) ?_; (try simp only [evS, lcS, nzR, nzA, nzL, Nat.reduceBEq, Nat.reduceEqDiff, ↓reduceIte, Nat.reduceAdd, Nat.reduceSub])
            (first | refine aqP (op_fa_ptr rfl rfl rfl fl36_1 (by exact sz3) (by decide) rfl) ?_ | refine aqP (op_fa_rop rfl rfl fl36_1 (by exact sz3) (by decide) (Nat.le_of_ble_eq_true rfl) rfl) ?_); (try simp only [evS, lcS, nzR, nzA, nzL, Nat.reduceBEq, Nat.reduceEqDiff, ↓reduceIte, Nat.reduceAdd, Nat.reduceSub])
            (first | refine aqR (op_load_ptr1 rfl rfl rfl rfl ag3 rfl rfl) ?_ | refine aqR (op_load_rop1 rfl rfl ag3) ?_); (try simp only [evS, lcS, nzR, nzA, nzL, Nat.reduceBEq, Nat.reduceEqDiff, ↓reduceIte, Nat.reduceAdd, Nat.reduceSub])
            (first | refine aqP (op_addi rfl rfl rfl (by omega)) ?_ | refine aqP (op_add rfl rfl rfl rfl) ?_); (try simp only [evS, lcS, nzR, nzA, nzL, Nat.reduceBEq, Nat.reduceEqDiff, ↓reduceIte, Nat.reduceAdd, Nat.reduceSub])
            (first | refine aqP (op_fa_ptr rfl rfl rfl fl29_3 (by exact sz3) (by decide) rfl) ?_ | refine aqP (op_fa_rop rfl rfl fl29_3 (by exact sz3) (by decide) (Nat.le_of_ble_eq_true rfl) rfl) ?_); (try simp only [evS, lcS, nzR, nzA, nzL, Nat.reduceBEq, Nat.reduceEqDiff, ↓reduceIte, Nat.reduceAdd, Nat.reduceSub])
            (first | refine aqR (op_load_ptr1 rfl rfl rfl rfl ag3 rfl rfl) ?_ | refine aqR (op_load_rop1 rfl rfl ag3) ?_); (try simp only [evS, lcS, nzR, nzA, nzL, Nat.reduceBEq, Nat.reduceEqDiff, ↓reduceIte, Nat.reduceAdd, Nat.reduceSub])
            refine aqP (op_gtr rfl rfl rfl) ?_; (try simp only [evS, lcS, nzR, nzA, nzL, Nat.reduceBEq, Nat.reduceEqDiff, ↓reduceIte, Nat.reduceAdd, Nat.reduceSub])
            (refine aqSeg rfl rfl rfl ?_; repeat (first | exact fun _ _ => rfl | refine upd_out rfl ?_ | refine era_out rfl ?_))
          (try simp only [evS, lcS, nzR, nzA, nzL, Nat.reduceBEq, Nat.reduceEqDiff, ↓reduceIte, Nat.reduceAdd, Nat.reduceSub])
          refine AQ.nil ?_
          (refine hK _ ?_; clear hK K; (try simp only [evS, lcS, nzR, nzA, nzL, Nat.reduceBEq, Nat.reduceEqDiff, ↓reduceIte, Nat.reduceAdd, Nat.reduceSub]))
          refine AW.cond rfl rfl rfl (fun hc => ?_) (fun hc => ?_)   -- cond 5
          · -- true
            (try simp only [Bool.and_eq_true, Bool.or_eq_true, Bool.or_eq_false_iff, Bool.and_eq_false_iff, decide_eq_true_eq, decide_eq_false_iff_not, Int.not_le, Int.not_lt, ge_iff_le, gt_iff_lt, Bool.not_eq_true', Bool.not_eq_false', bne_iff_ne, beq_iff_eq, bne_eq_false_iff_eq, beq_eq_false_iff_ne, ne_eq] at hc); have hc5 := hc; skip
            (refine AW.seq_k ?_; intro K hK)
            refine AW.region ?_
            refine awP (op_build2 (xs := [.v (.int .i64 0), .v (.string ⟨#[]⟩), .v (.int .i64 0), .v (.string ⟨#[]⟩), .v (.int .i64 0), .v (.int .i64 0), .v (.int .i64 0), .v (.int .i64 0), .v (.int .i64 0), .v (.int .i64 0), .v (.slice none 0 0)]) rfl pl29 ze29 [] rfl rfl rfl) ?_; (try simp only [evS, lcS, nzR, nzA, nzL, Nat.reduceBEq, Nat.reduceEqDiff, ↓reduceIte, Nat.reduceAdd, Nat.reduceSub])
            refine awJ (op_store rfl rfl rfl rfl rfl rfl sz29 rfl (Nat.le_of_ble_eq_true rfl) rfl) ?_; (try simp only [evS, lcS, nzR, nzA, nzL, Nat.reduceBEq, Nat.reduceEqDiff, ↓reduceIte, Nat.reduceAdd, Nat.reduceSub])
            refine awP (op_assign rfl rfl) ?_; (try simp only [evS, lcS, nzR, nzA, nzL, Nat.reduceBEq, Nat.reduceEqDiff, ↓reduceIte, Nat.reduceAdd, Nat.reduceSub])
            refine AWL.nil ?_
            (refine hK _ ?_; clear hK K; (try simp only [evS, lcS, nzR, nzA, nzL, Nat.reduceBEq, Nat.reduceEqDiff, ↓reduceIte, Nat.reduceAdd, Nat.reduceSub]))
            refine AW.gh (Gh.slot (r := 2) (es' := [zeroC.av]) rfl rfl zero_le) ?_; (try simp only [evS, lcS, nzR, nzA, nzL, Nat.reduceBEq, Nat.reduceEqDiff, ↓reduceIte, Nat.reduceAdd, Nat.reduceSub])
            refine AW.ret ?_; (try simp only [thenE, inBlk, Nat.reduceEqDiff, ↓reduceIte]); have he : putC c p true = (zeroC, 8) := (by rw [put_eq hv0 hp1, hfh, if_neg (by simpa using hc3), if_neg (by simp [hb4]), if_pos (by unfold fullB; simpa using hc)]); rw [he]; exact RQ.of0 rfl (.cell (Nat.le_of_ble_eq_true rfl) rfl rfl rfl ag29 sz29 (Nat.le_of_ble_eq_true rfl) rfl rfl (.tmp (Nat.le_of_ble_eq_true rfl) rfl rfl .nil))
          · -- false
            (try simp only [Bool.and_eq_true, Bool.or_eq_true, Bool.or_eq_false_iff, Bool.and_eq_false_iff, decide_eq_true_eq, decide_eq_false_iff_not, Int.not_le, Int.not_lt, ge_iff_le, gt_iff_lt, Bool.not_eq_true', Bool.not_eq_false', bne_iff_ne, beq_iff_eq, bne_eq_false_iff_eq, beq_eq_false_iff_ne, ne_eq] at hc); have hc5 := hc; have hcm : c.most ≤ 60 := (by have := hv.1; unfold coB inB at this; simp at this; omega); have hf5 : fullB c p = false := (by unfold fullB; simp; omega)
            refine AW.skip ?_
            (refine hK _ ?_; clear hK K; (try simp only [evS, lcS, nzR, nzA, nzL, Nat.reduceBEq, Nat.reduceEqDiff, ↓reduceIte, Nat.reduceAdd, Nat.reduceSub]))
            (refine AW.seq_k ?_; intro K hK)
            refine AW.region ?_
            (first | refine awR (op_load_ptr rfl rfl rfl rfl ag29 sz29 (Nat.le_of_ble_eq_true rfl) rfl) ?_ | refine awR (op_load_rop rfl rfl ag29 sz29 (Nat.le_of_ble_eq_true rfl) (by decide) rfl) ?_); (try simp only [evS, lcS, nzR, nzA, nzL, Nat.reduceBEq, Nat.reduceEqDiff, ↓reduceIte, Nat.reduceAdd, Nat.reduceSub])
            (first | refine awR (op_load_ptr rfl rfl rfl rfl ag36 sz36 (Nat.le_of_ble_eq_true rfl) rfl) ?_ | refine awR (op_load_rop rfl rfl ag36 sz36 (Nat.le_of_ble_eq_true rfl) (by decide) rfl) ?_); (try simp only [evS, lcS, nzR, nzA, nzL, Nat.reduceBEq, Nat.reduceEqDiff, ↓reduceIte, Nat.reduceAdd, Nat.reduceSub])
            refine awJ (op_call (b := false) rfl en51 (C51 (c := c) (p := p) (by omega)) (RL.cons (by first | exact View.same rfl | exact View.nil | exact View.rof | exact View.src .ro | exact View.src .rof | exact View.src (.sl rfl rfl) | exact View.ptr rfl rfl rfl) (RL.cons (by first | exact View.same rfl | exact View.nil | exact View.rof | exact View.src .ro | exact View.src .rof | exact View.src (.sl rfl rfl) | exact View.ptr rfl rfl rfl) (RL.nil))) rfl (fun h => by cases h) rfl rfl) ?_; (try simp only [evS, lcS, nzR, nzA, nzL, Nat.reduceBEq, Nat.reduceEqDiff, ↓reduceIte, Nat.reduceAdd, Nat.reduceSub])
            refine awJ (op_store rfl rfl rfl rfl rfl rfl sz29 rfl (Nat.le_of_ble_eq_true rfl) rfl) ?_; (try simp only [evS, lcS, nzR, nzA, nzL, Nat.reduceBEq, Nat.reduceEqDiff, ↓reduceIte, Nat.reduceAdd, Nat.reduceSub])
            refine awP (op_assign rfl rfl) ?_; (try simp only [evS, lcS, nzR, nzA, nzL, Nat.reduceBEq, Nat.reduceEqDiff, ↓reduceIte, Nat.reduceAdd, Nat.reduceSub])
            refine AWL.nil ?_
            (refine hK _ ?_; clear hK K; (try simp only [evS, lcS, nzR, nzA, nzL, Nat.reduceBEq, Nat.reduceEqDiff, ↓reduceIte, Nat.reduceAdd, Nat.reduceSub]))
            skip
            refine AW.ret ?_; (try simp only [thenE, inBlk, Nat.reduceEqDiff, ↓reduceIte]); have he : putC c p true = (insC c p, 0) := (by rw [put_eq hv0 hp1, hfh, if_neg (by simpa using hc3), if_neg (by simp [hb4]), if_neg (by simp [hf5]), if_neg (by omega)]); rw [he]; exact RQ.of0 rfl (.cell (Nat.le_of_ble_eq_true rfl) rfl rfl rfl ag29 sz29 (Nat.le_of_ble_eq_true rfl) rfl rfl (.tmp (Nat.le_of_ble_eq_true rfl) rfl rfl .nil))
end Go.Proofs.Ytngfknoddphhaaa
