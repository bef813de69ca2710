import Derived.Test.YtjgbbffcjbmjmaaFq
namespace Go.Proofs.Ytjgbbffcjbmjmaa
open Go.RowKit
set_option linter.unusedSimpArgs false
set_option linter.unusedVariables false

abbrev lenP (x y : List Desc) (m : Mat) : Prop := m.pairs.length = x.length ∧ m.rows.length = x.length ∧ m.cols.length = y.length
abbrev rgP (x y : List Desc) (m : Mat) : Prop := ∀ i, i < x.length → -1 ≤ gI m.pairs i ∧ gI m.pairs i < y.length
abbrev feP (x y : List Desc) (m : Mat) (n : Nat) : Prop := ∀ i, i < n → ∀ k, k < y.length → scD x y i k ≤ gI m.rows i + gI m.cols k
def chkF (x y : List Desc) (m : Mat) : Int :=
  if errsF x y = 0 then
    if lenP x y m then
      if rgP x y m then
        if (prOk m.rows && prOk m.cols) = true then
          if pairF x y m = 0 then
            if feP x y m x.length then
              if sumN x.length (gI m.rows) + sumN y.length (gI m.cols) = m.total then 0 else 11
            else 9
          else pairF x y m
        else 1
      else 1
    else 4
  else errsF x y
section
variable {x y : List Desc} {m : Mat}
theorem chk1 (h : ¬ errsF x y = 0) : chkF x y m = errsF x y := by unfold chkF; rw [if_neg h]
theorem chk2 (h1 : errsF x y = 0) (h : ¬ lenP x y m) : chkF x y m = 4 := by unfold chkF; rw [if_pos h1, if_neg h]
theorem chk3 (h1 : errsF x y = 0) (h2 : lenP x y m) (h : ¬ rgP x y m) : chkF x y m = 1 := by unfold chkF; rw [if_pos h1, if_pos h2, if_neg h]
theorem chk4 (h1 : errsF x y = 0) (h2 : lenP x y m) (h3 : rgP x y m) (h : ¬ (prOk m.rows && prOk m.cols) = true) : chkF x y m = 1 := by unfold chkF; rw [if_pos h1, if_pos h2, if_pos h3, if_neg h]
theorem chk5 (h1 : errsF x y = 0) (h2 : lenP x y m) (h3 : rgP x y m) (h4 : (prOk m.rows && prOk m.cols) = true) (h : ¬ pairF x y m = 0) : chkF x y m = pairF x y m := by unfold chkF; rw [if_pos h1, if_pos h2, if_pos h3, if_pos h4, if_neg h]
theorem chk6 (h1 : errsF x y = 0) (h2 : lenP x y m) (h3 : rgP x y m) (h4 : (prOk m.rows && prOk m.cols) = true) (h5 : pairF x y m = 0) (h : ¬ feP x y m x.length) : chkF x y m = 9 := by unfold chkF; rw [if_pos h1, if_pos h2, if_pos h3, if_pos h4, if_pos h5, if_neg h]
theorem chk7 (h1 : errsF x y = 0) (h2 : lenP x y m) (h3 : rgP x y m) (h4 : (prOk m.rows && prOk m.cols) = true) (h5 : pairF x y m = 0) (h6 : feP x y m x.length) (h : ¬ sumN x.length (gI m.rows) + sumN y.length (gI m.cols) = m.total) : chkF x y m = 11 := by unfold chkF; rw [if_pos h1, if_pos h2, if_pos h3, if_pos h4, if_pos h5, if_pos h6, if_neg h]
theorem chk8 (h1 : errsF x y = 0) (h2 : lenP x y m) (h3 : rgP x y m) (h4 : (prOk m.rows && prOk m.cols) = true) (h5 : pairF x y m = 0) (h6 : feP x y m x.length) (h : sumN x.length (gI m.rows) + sumN y.length (gI m.cols) = m.total) : chkF x y m = 0 := by unfold chkF; rw [if_pos h1, if_pos h2, if_pos h3, if_pos h4, if_pos h5, if_pos h6, if_pos h]
theorem lt_succ {P : Nat → Prop} {j : Nat} (h : ∀ i, i < j → P i) (hj : P j) : ∀ i, i < j + 1 → P i := fun i hi => by
  rcases Nat.lt_succ_iff_lt_or_eq.1 hi with h1 | rfl
  · exact h i h1
  · exact hj
end
theorem C28 {x y : List Desc} {m : Mat} (hx : Szs x) (hy : Szs y) : Fn Try.prog 28 [] [.ro (x.map Desc.av), .ro (y.map Desc.av), .agg m.av] [.v (.int .i64 (chkF x y m))] [] := by
  refine Spec.body Try.func28 rfl Try.ntmps28 (by simp) rfl ?_; intro S0 own0 v0 w0
  (refine AW.seq_k ?_; intro K hK)
  refine AW.region ?_
  refine awJ (OpJ.frzP (row := m.av) (op_box rfl rfl rfl sz42 rfl) m.flat) ?_; (try simp only [nA, Nat.reduceBEq, Nat.reduceEqDiff, ↓reduceIte, Nat.reduceAdd, Nat.reduceSub])
  refine awP (op_assign rfl rfl) ?_
  refine AWL.nil ?_
  (refine hK _ ?_; clear hK K; (try simp only [nA, Nat.reduceBEq, Nat.reduceEqDiff, ↓reduceIte, Nat.reduceAdd, Nat.reduceSub]))
  (refine AW.seq_k ?_; intro K hK)
  (refine AW.seq_k ?_; intro K hK)
  refine AW.region ?_
  refine awP (op_move rfl rfl) ?_
  refine awP (op_move rfl rfl) ?_
  refine awJ (OpQ.j (op_callQ (b := true) rfl en38 (C38 hx hy) (RL.cons (by first | exact View.same rfl | exact View.nil | exact View.rof | exact View.src .ro | exact View.src .rof | exact View.src (.sl rfl rfl) | exact View.ptr rfl rfl rfl) (RL.cons (by first | exact View.same rfl | exact View.nil | exact View.rof | exact View.src .ro | exact View.src .rof | exact View.src (.sl rfl rfl) | exact View.ptr rfl rfl rfl) (RL.nil))) rfl)) ?_; (try simp only [nA, Nat.reduceBEq, Nat.reduceEqDiff, ↓reduceIte, Nat.reduceAdd, Nat.reduceSub])
  refine awP (op_assign rfl rfl) ?_
  refine AWL.nil ?_
  (refine hK _ ?_; clear hK K; (try simp only [nA, Nat.reduceBEq, Nat.reduceEqDiff, ↓reduceIte, Nat.reduceAdd, Nat.reduceSub]))
  (refine AW.seq_k ?_; intro K hK)
  refine AW.region ?_
  refine awP (op_move rfl rfl) ?_
  (first | refine awP (op_neq rfl rfl rfl) ?_ | refine awP (op_sneq rfl rfl rfl) ?_)
  refine AWL.nil ?_
  (refine hK _ ?_; clear hK K; (try simp only [nA, Nat.reduceBEq, Nat.reduceEqDiff, ↓reduceIte, Nat.reduceAdd, Nat.reduceSub]))
  refine AW.cond rfl rfl rfl (fun hc => ?_) (fun hc => ?_)
  ·
   (try simp only [hcS] at hc); have hc1 := hc; skip
   (refine AW.seq_k ?_; intro K hK)
   refine AW.region ?_
   refine awP (op_move rfl rfl) ?_
   refine awP (op_assign rfl rfl) ?_
   refine AWL.nil ?_
   (refine hK _ ?_; clear hK K; (try simp only [nA, Nat.reduceBEq, Nat.reduceEqDiff, ↓reduceIte, Nat.reduceAdd, Nat.reduceSub]))
   skip
   refine AW.ret ?_; (try simp only [thenE, inBlk, Nat.reduceEqDiff, ↓reduceIte]); rw [chk1 (by omega)]; exact RQ.of0 rfl (.tmp (Nat.le_of_ble_eq_true rfl) rfl rfl .nil)
  ·
   (try simp only [hcS] at hc); have hc1 := hc; have he0 : errsF x y = 0 := (by omega); have hl8 := errs_len he0
   refine AW.skip ?_
   (refine hK _ ?_; clear hK K; (try simp only [nA, Nat.reduceBEq, Nat.reduceEqDiff, ↓reduceIte, Nat.reduceAdd, Nat.reduceSub]))
   (refine AW.seq_k ?_; intro K hK)
   (refine AW.seq_k ?_; intro K hK)
   refine AW.region (AWL.quiet ?_)
   (first | refine aqP (op_fa_ptr rfl rfl rfl fl42_0 (by exact sz23) (by decide) rfl) ?_ | refine aqP (op_fa_rop rfl rfl fl42_0 (by exact sz23) (by decide) (Nat.le_of_ble_eq_true rfl) rfl) ?_)
   (first | refine aqR (op_load_ptr1 rfl rfl rfl rfl ag23 rfl rfl) ?_ | refine aqR (op_load_rop1 rfl rfl ag23) ?_)
   (first | refine aqP (op_len_ro rfl rfl Try.underlying23 (by first | exact .inr (.inl ⟨_, rfl, rfl⟩) | exact .inl rfl | exact .inr (.inr (.inl ⟨_, rfl, rfl⟩)) | exact .inr (.inr (.inr ⟨rfl, rfl⟩)))) ?_ | refine aqP (op_len_sl rfl rfl rfl Try.underlying23) ?_ | refine aqP (op_len_str rfl rfl Try.underlying23) ?_)
   refine aqP (op_move rfl rfl) ?_
   (first | refine aqP (op_len_ro rfl rfl Try.underlying22 (by first | exact .inr (.inl ⟨_, rfl, rfl⟩) | exact .inl rfl | exact .inr (.inr (.inl ⟨_, rfl, rfl⟩)) | exact .inr (.inr (.inr ⟨rfl, rfl⟩)))) ?_ | refine aqP (op_len_sl rfl rfl rfl Try.underlying22) ?_ | refine aqP (op_len_str rfl rfl Try.underlying22) ?_)
   (first | refine aqP (op_neq rfl rfl rfl) ?_ | refine aqP (op_sneq rfl rfl rfl) ?_)
   refine aqP (op_move rfl rfl) ?_
   refine' aqOr' [_, _, _, _, _, _] [29,30,31,32,33,34] rfl rfl rfl rfl rfl rfl rfl rfl rfl rfl rfl rfl (fun hb => ?_) ?_; rotate_left
   ·
    (try simp only [hcS] at hb)
    (first | refine aqP (op_fa_ptr rfl rfl rfl fl42_1 (by exact sz23) (by decide) rfl) ?_ | refine aqP (op_fa_rop rfl rfl fl42_1 (by exact sz23) (by decide) (Nat.le_of_ble_eq_true rfl) rfl) ?_)
    (first | refine aqR (op_load_ptr1 rfl rfl rfl rfl ag23 rfl rfl) ?_ | refine aqR (op_load_rop1 rfl rfl ag23) ?_)
    (first | refine aqP (op_len_ro rfl rfl Try.underlying23 (by first | exact .inr (.inl ⟨_, rfl, rfl⟩) | exact .inl rfl | exact .inr (.inr (.inl ⟨_, rfl, rfl⟩)) | exact .inr (.inr (.inr ⟨rfl, rfl⟩)))) ?_ | refine aqP (op_len_sl rfl rfl rfl Try.underlying23) ?_ | refine aqP (op_len_str rfl rfl Try.underlying23) ?_)
    refine aqP (op_move rfl rfl) ?_
    (first | refine aqP (op_len_ro rfl rfl Try.underlying22 (by first | exact .inr (.inl ⟨_, rfl, rfl⟩) | exact .inl rfl | exact .inr (.inr (.inl ⟨_, rfl, rfl⟩)) | exact .inr (.inr (.inr ⟨rfl, rfl⟩)))) ?_ | refine aqP (op_len_sl rfl rfl rfl Try.underlying22) ?_ | refine aqP (op_len_str rfl rfl Try.underlying22) ?_)
    (first | refine aqP (op_neq rfl rfl rfl) ?_ | refine aqP (op_sneq rfl rfl rfl) ?_)
    (refine aqSeg rfl rfl rfl ?_; repeat (first | exact fun _ _ => rfl | refine upd_out rfl ?_ | refine era_out rfl ?_))
   (try simp only [nA, Nat.reduceBEq, Nat.reduceEqDiff, ↓reduceIte, Nat.reduceAdd, Nat.reduceSub])
   refine aqP (op_move rfl rfl) ?_
   refine' aqOr' [_, _, _, _, _, _] [37,38,39,40,41,42] rfl rfl rfl rfl rfl rfl rfl rfl rfl rfl rfl rfl (fun hb => ?_) ?_; rotate_left
   ·
    (try simp only [hcS] at hb)
    (first | refine aqP (op_fa_ptr rfl rfl rfl fl42_2 (by exact sz23) (by decide) rfl) ?_ | refine aqP (op_fa_rop rfl rfl fl42_2 (by exact sz23) (by decide) (Nat.le_of_ble_eq_true rfl) rfl) ?_)
    (first | refine aqR (op_load_ptr1 rfl rfl rfl rfl ag23 rfl rfl) ?_ | refine aqR (op_load_rop1 rfl rfl ag23) ?_)
    (first | refine aqP (op_len_ro rfl rfl Try.underlying23 (by first | exact .inr (.inl ⟨_, rfl, rfl⟩) | exact .inl rfl | exact .inr (.inr (.inl ⟨_, rfl, rfl⟩)) | exact .inr (.inr (.inr ⟨rfl, rfl⟩)))) ?_ | refine aqP (op_len_sl rfl rfl rfl Try.underlying23) ?_ | refine aqP (op_len_str rfl rfl Try.underlying23) ?_)
    refine aqP (op_move rfl rfl) ?_
    (first | refine aqP (op_len_ro rfl rfl Try.underlying22 (by first | exact .inr (.inl ⟨_, rfl, rfl⟩) | exact .inl rfl | exact .inr (.inr (.inl ⟨_, rfl, rfl⟩)) | exact .inr (.inr (.inr ⟨rfl, rfl⟩)))) ?_ | refine aqP (op_len_sl rfl rfl rfl Try.underlying22) ?_ | refine aqP (op_len_str rfl rfl Try.underlying22) ?_)
    (first | refine aqP (op_neq rfl rfl rfl) ?_ | refine aqP (op_sneq rfl rfl rfl) ?_)
    (refine aqSeg rfl rfl rfl ?_; repeat (first | exact fun _ _ => rfl | refine upd_out rfl ?_ | refine era_out rfl ?_))
   (try simp only [nA, Nat.reduceBEq, Nat.reduceEqDiff, ↓reduceIte, Nat.reduceAdd, Nat.reduceSub])
   refine AQ.nil ?_
   (refine hK _ ?_; clear hK K; (try simp only [nA, Nat.reduceBEq, Nat.reduceEqDiff, ↓reduceIte, Nat.reduceAdd, Nat.reduceSub]))
   refine AW.cond rfl rfl rfl (fun hc => ?_) (fun hc => ?_)
   ·
    (try simp only [hcS] at hc); have hc2 := hc; skip
    (refine AW.seq_k ?_; intro K hK)
    refine AW.region ?_
    refine awP (op_assign rfl rfl) ?_
    refine AWL.nil ?_
    (refine hK _ ?_; clear hK K; (try simp only [nA, Nat.reduceBEq, Nat.reduceEqDiff, ↓reduceIte, Nat.reduceAdd, Nat.reduceSub]))
    skip
    refine AW.ret ?_; (try simp only [thenE, inBlk, Nat.reduceEqDiff, ↓reduceIte]); rw [chk2 he0 (by omega)]; exact RQ.of0 rfl (.tmp (Nat.le_of_ble_eq_true rfl) rfl rfl .nil)
   ·
    (try simp only [hcS] at hc); have hc2 := hc; have hlen : lenP x y m := ⟨by omega, by omega, by omega⟩; obtain ⟨hl1, hl2, hl3⟩ := hlen; have hlen : lenP x y m := ⟨hl1, hl2, hl3⟩
    refine AW.skip ?_
    (refine hK _ ?_; clear hK K; (try simp only [nA, Nat.reduceBEq, Nat.reduceEqDiff, ↓reduceIte, Nat.reduceAdd, Nat.reduceSub]))
    (refine AW.seq_k ?_; intro K hK)
    (refine AW.seq_k ?_; intro K hK)
    refine AW.region ?_
    (first | refine awP (op_fa_ptr rfl rfl rfl fl42_0 (by exact sz23) (by decide) rfl) ?_ | refine awP (op_fa_rop rfl rfl fl42_0 (by exact sz23) (by decide) (Nat.le_of_ble_eq_true rfl) rfl) ?_)
    (first | refine awR (op_load_ptr1 rfl rfl rfl rfl ag23 rfl rfl) ?_ | refine awR (op_load_rop1 rfl rfl ag23) ?_)
    (first | refine awP (op_len_ro rfl rfl Try.underlying23 (by first | exact .inr (.inl ⟨_, rfl, rfl⟩) | exact .inl rfl | exact .inr (.inr (.inl ⟨_, rfl, rfl⟩)) | exact .inr (.inr (.inr ⟨rfl, rfl⟩)))) ?_ | refine awP (op_len_sl rfl rfl rfl Try.underlying23) ?_ | refine awP (op_len_str rfl rfl Try.underlying23) ?_)
    refine awP (op_move rfl rfl) ?_
    refine AWL.nil ?_
    (refine hK _ ?_; clear hK K; (try simp only [nA, Nat.reduceBEq, Nat.reduceEqDiff, ↓reduceIte, Nat.reduceAdd, Nat.reduceSub]))
    refine AW.block ?_
    refine AW.loopI (fun (i : Nat) => [(0, .ro (x.map Desc.av)), (1, .ro (y.map Desc.av)), (5, .rop m.av), (45, .ro (m.pairs.map iv)), (46, .v (.int .i64 (m.pairs.length : Nat))), (47, .v (.int .i64 (i : Nat)))]) (fun _ => ⟨[], 1⟩) (fun i => i ≤ x.length ∧ ∀ j, j < i → -1 ≤ gI m.pairs j ∧ gI m.pairs j < y.length) (fun i => x.length - i) 0 (by simp) ⟨rfl, rfl, rfl, rfl, rfl, rfl, trivial⟩ rfl ?_; intro i ρ hi; simp only [updL]; (try simp only [nA, Nat.reduceBEq, Nat.reduceEqDiff, ↓reduceIte, Nat.reduceAdd, Nat.reduceSub])
    (refine AW.seq_k ?_; intro K hK)
    refine AW.region ?_
    refine awP (op_lss rfl rfl rfl) ?_
    refine AWL.nil ?_
    (refine hK _ ?_; clear hK K; (try simp only [nA, Nat.reduceBEq, Nat.reduceEqDiff, ↓reduceIte, Nat.reduceAdd, Nat.reduceSub]))
    (refine AW.seq_k ?_; intro K hK)
    refine AW.cond rfl rfl rfl (fun hc => ?_) (fun hc => ?_)
    ·
     (try simp only [hcS] at hc); have hc3 := hc; skip
     refine AW.skip ?_
     (refine hK _ ?_; clear hK K; (try simp only [nA, Nat.reduceBEq, Nat.reduceEqDiff, ↓reduceIte, Nat.reduceAdd, Nat.reduceSub]))
     (refine AW.seq_k ?_; intro K hK)
     refine AW.block ?_
     (refine AW.seq_k ?_; intro K hK)
     refine AW.region ?_
     (first | refine awP (op_ia_ro i rfl (.inl rfl) rfl Try.underlying23 rfl (gI_mapD (by omega)) (by exact sz3) (Nat.le_of_ble_eq_true rfl)) ?_ | refine awP (op_ia_sl _ _ rfl rfl rfl rfl Try.underlying23 rfl (by omega) (by exact sz3) rfl) ?_)
     (first | refine awR (op_load_ptr1 rfl rfl rfl rfl ag3 rfl rfl) ?_ | refine awR (op_load_rop1 rfl rfl ag3) ?_)
     refine awP (op_assign rfl rfl) ?_
     refine AWL.nil ?_
     (refine hK _ ?_; clear hK K; (try simp only [nA, Nat.reduceBEq, Nat.reduceEqDiff, ↓reduceIte, Nat.reduceAdd, Nat.reduceSub]))
     (refine AW.seq_k ?_; intro K hK)
     refine AW.region (AWL.quiet ?_)
     refine aqP (op_move rfl rfl) ?_
     refine aqP (op_lss rfl rfl rfl) ?_
     refine aqP (op_move rfl rfl) ?_
     refine' aqOr' [_, _, _, _] [54,55,56,57] rfl rfl rfl rfl rfl rfl rfl rfl rfl rfl rfl rfl (fun hb => ?_) ?_; rotate_left
     ·
      (try simp only [hcS] at hb)
      refine aqP (op_move rfl rfl) ?_
      refine aqP (op_move rfl rfl) ?_
      (first | refine aqP (op_len_ro rfl rfl Try.underlying22 (by first | exact .inr (.inl ⟨_, rfl, rfl⟩) | exact .inl rfl | exact .inr (.inr (.inl ⟨_, rfl, rfl⟩)) | exact .inr (.inr (.inr ⟨rfl, rfl⟩)))) ?_ | refine aqP (op_len_sl rfl rfl rfl Try.underlying22) ?_ | refine aqP (op_len_str rfl rfl Try.underlying22) ?_)
      refine aqP (op_geq rfl rfl rfl) ?_
      (refine aqSeg rfl rfl rfl ?_; repeat (first | exact fun _ _ => rfl | refine upd_out rfl ?_ | refine era_out rfl ?_))
     (try simp only [nA, Nat.reduceBEq, Nat.reduceEqDiff, ↓reduceIte, Nat.reduceAdd, Nat.reduceSub])
     refine AQ.nil ?_
     (refine hK _ ?_; clear hK K; (try simp only [nA, Nat.reduceBEq, Nat.reduceEqDiff, ↓reduceIte, Nat.reduceAdd, Nat.reduceSub]))
     refine AW.cond rfl rfl rfl (fun hc => ?_) (fun hc => ?_)
     ·
      (try simp only [hcS] at hc); have hc4 := hc; skip
      (refine AW.seq_k ?_; intro K hK)
      refine AW.region ?_
      refine awP (op_assign rfl rfl) ?_
      refine AWL.nil ?_
      (refine hK _ ?_; clear hK K; (try simp only [nA, Nat.reduceBEq, Nat.reduceEqDiff, ↓reduceIte, Nat.reduceAdd, Nat.reduceSub]))
      skip
      refine AW.ret ?_; (try simp only [thenE, inBlk, Nat.reduceEqDiff, ↓reduceIte]); rw [chk3 he0 hlen (fun h => by have := h i (by omega); omega)]; exact RQ.of0 rfl (.tmp (Nat.le_of_ble_eq_true rfl) rfl rfl .nil)
     ·
      (try simp only [hcS] at hc); have hc4 := hc; skip
      refine AW.skip ?_
      (try simp only [thenE, inBlk, Nat.reduceEqDiff, ↓reduceIte])
      (refine hK _ ?_; clear hK K; (try simp only [nA, Nat.reduceBEq, Nat.reduceEqDiff, ↓reduceIte, Nat.reduceAdd, Nat.reduceSub]))
      refine AW.region ?_
      (first | refine awP (op_addi rfl rfl rfl (by omega)) ?_ | refine awP (op_add rfl rfl rfl rfl) ?_)
      refine awP (op_move rfl rfl) ?_
      skip
      refine AWL.nil ?_
      refine ⟨i + 1, ⟨by omega, lt_succ hi.2 (by omega)⟩, by omega, ⟨rfl, rfl, rfl, rfl, rfl, rfl, trivial⟩, (by first | rfl | trivial), (by first | rfl | trivial)⟩
    ·
     (try simp only [hcS] at hc); have hc3 := hc; have hrg : rgP x y m := fun j hj => hi.2 j (by omega)
     refine AW.exit ?_; (try simp only [thenE, inBlk, Nat.reduceEqDiff, ↓reduceIte])
     clear hK K
     (refine hK _ ?_; clear hK K; (try simp only [nA, Nat.reduceBEq, Nat.reduceEqDiff, ↓reduceIte, Nat.reduceAdd, Nat.reduceSub]))
     (refine AW.seq_k ?_; intro K hK)
     (refine AW.seq_k ?_; intro K hK)
     refine AW.region (AWL.quiet ?_)
     (first | refine aqP (op_fa_ptr rfl rfl rfl fl42_1 (by exact sz23) (by decide) rfl) ?_ | refine aqP (op_fa_rop rfl rfl fl42_1 (by exact sz23) (by decide) (Nat.le_of_ble_eq_true rfl) rfl) ?_)
     (first | refine aqR (op_load_ptr1 rfl rfl rfl rfl ag23 rfl rfl) ?_ | refine aqR (op_load_rop1 rfl rfl ag23) ?_)
     refine aqQ (op_callQ (b := true) rfl en43 (C43 (l := m.rows) (by omega)) (RL.cons (by first | exact View.same rfl | exact View.nil | exact View.rof | exact View.src .ro | exact View.src .rof | exact View.src (.sl rfl rfl) | exact View.ptr rfl rfl rfl) (RL.nil)) rfl) ?_; (try simp only [nA, Nat.reduceBEq, Nat.reduceEqDiff, ↓reduceIte, Nat.reduceAdd, Nat.reduceSub])
     refine aqP (op_not rfl rfl rfl) ?_
     refine aqP (op_move rfl rfl) ?_
     refine' aqOr' [_, _, _, _] [65,66,67,68] rfl rfl rfl rfl rfl rfl rfl rfl rfl rfl rfl rfl (fun hb => ?_) ?_; rotate_left
     ·
      (try simp only [hcS] at hb)
      (first | refine aqP (op_fa_ptr rfl rfl rfl fl42_2 (by exact sz23) (by decide) rfl) ?_ | refine aqP (op_fa_rop rfl rfl fl42_2 (by exact sz23) (by decide) (Nat.le_of_ble_eq_true rfl) rfl) ?_)
      (first | refine aqR (op_load_ptr1 rfl rfl rfl rfl ag23 rfl rfl) ?_ | refine aqR (op_load_rop1 rfl rfl ag23) ?_)
      refine aqQ (op_callQ (b := true) rfl en43 (C43 (l := m.cols) (by omega)) (RL.cons (by first | exact View.same rfl | exact View.nil | exact View.rof | exact View.src .ro | exact View.src .rof | exact View.src (.sl rfl rfl) | exact View.ptr rfl rfl rfl) (RL.nil)) rfl) ?_; (try simp only [nA, Nat.reduceBEq, Nat.reduceEqDiff, ↓reduceIte, Nat.reduceAdd, Nat.reduceSub])
      refine aqP (op_not rfl rfl rfl) ?_
      (refine aqSeg rfl rfl rfl ?_; repeat (first | exact fun _ _ => rfl | refine upd_out rfl ?_ | refine era_out rfl ?_))
     (try simp only [nA, Nat.reduceBEq, Nat.reduceEqDiff, ↓reduceIte, Nat.reduceAdd, Nat.reduceSub])
     refine AQ.nil ?_
     (refine hK _ ?_; clear hK K; (try simp only [nA, Nat.reduceBEq, Nat.reduceEqDiff, ↓reduceIte, Nat.reduceAdd, Nat.reduceSub]))
     refine AW.cond rfl rfl rfl (fun hc => ?_) (fun hc => ?_)
     ·
      (try simp only [hcS] at hc); have hc5 := hc; skip
      (refine AW.seq_k ?_; intro K hK)
      refine AW.region ?_
      refine awP (op_assign rfl rfl) ?_
      refine AWL.nil ?_
      (refine hK _ ?_; clear hK K; (try simp only [nA, Nat.reduceBEq, Nat.reduceEqDiff, ↓reduceIte, Nat.reduceAdd, Nat.reduceSub]))
      skip
      refine AW.ret ?_; (try simp only [thenE, inBlk, Nat.reduceEqDiff, ↓reduceIte]); rw [chk4 he0 hlen hrg (by rw [Bool.and_eq_true]; rintro ⟨h1, h2⟩; rw [h1, h2] at hc5; simp at hc5)]; exact RQ.of0 rfl (.tmp (Nat.le_of_ble_eq_true rfl) rfl rfl .nil)
     ·
      (try simp only [hcS] at hc); have hc5 := hc; have hpr : (prOk m.rows && prOk m.cols) = true := (by rw [Bool.and_eq_true]; simpa using hc5); have hpr2 := hpr; rw [Bool.and_eq_true] at hpr2; have hpR := prOk_iff.1 hpr2.1; have hpC := prOk_iff.1 hpr2.2; rw [hl2] at hpR; rw [hl3] at hpC
      refine AW.skip ?_
      (refine hK _ ?_; clear hK K; (try simp only [nA, Nat.reduceBEq, Nat.reduceEqDiff, ↓reduceIte, Nat.reduceAdd, Nat.reduceSub]))
      (refine AW.seq_k ?_; intro K hK)
      (refine AW.seq_k ?_; intro K hK)
      refine AW.region ?_
      refine awP (op_move rfl rfl) ?_
      refine awP (op_move rfl rfl) ?_
      (first | refine awR (op_load_ptr rfl rfl rfl rfl ag42 sz42 (Nat.le_of_ble_eq_true rfl) rfl) ?_ | refine awR (op_load_rop rfl rfl ag42 sz42 (Nat.le_of_ble_eq_true rfl) (by decide) rfl) ?_)
      refine awJ (OpQ.j (op_callQ (b := true) rfl en44 (C44 (x := x) (y := y) (m := m) hx hy hl8 hl1 hrg) (RL.cons (by first | exact View.same rfl | exact View.nil | exact View.rof | exact View.src .ro | exact View.src .rof | exact View.src (.sl rfl rfl) | exact View.ptr rfl rfl rfl) (RL.cons (by first | exact View.same rfl | exact View.nil | exact View.rof | exact View.src .ro | exact View.src .rof | exact View.src (.sl rfl rfl) | exact View.ptr rfl rfl rfl) (RL.cons (by first | exact View.same rfl | exact View.nil | exact View.rof | exact View.src .ro | exact View.src .rof | exact View.src (.sl rfl rfl) | exact View.ptr rfl rfl rfl) (RL.nil)))) rfl)) ?_; (try simp only [nA, Nat.reduceBEq, Nat.reduceEqDiff, ↓reduceIte, Nat.reduceAdd, Nat.reduceSub])
      refine awP (op_assign rfl rfl) ?_
      refine AWL.nil ?_
      (refine hK _ ?_; clear hK K; (try simp only [nA, Nat.reduceBEq, Nat.reduceEqDiff, ↓reduceIte, Nat.reduceAdd, Nat.reduceSub]))
      (refine AW.seq_k ?_; intro K hK)
      refine AW.region ?_
      refine awP (op_move rfl rfl) ?_
      (first | refine awP (op_neq rfl rfl rfl) ?_ | refine awP (op_sneq rfl rfl rfl) ?_)
      refine AWL.nil ?_
      (refine hK _ ?_; clear hK K; (try simp only [nA, Nat.reduceBEq, Nat.reduceEqDiff, ↓reduceIte, Nat.reduceAdd, Nat.reduceSub]))
      refine AW.cond rfl rfl rfl (fun hc => ?_) (fun hc => ?_)
      ·
       (try simp only [hcS] at hc); have hc6 := hc; skip
       (refine AW.seq_k ?_; intro K hK)
       refine AW.region ?_
       refine awP (op_move rfl rfl) ?_
       refine awP (op_assign rfl rfl) ?_
       refine AWL.nil ?_
       (refine hK _ ?_; clear hK K; (try simp only [nA, Nat.reduceBEq, Nat.reduceEqDiff, ↓reduceIte, Nat.reduceAdd, Nat.reduceSub]))
       skip
       refine AW.ret ?_; (try simp only [thenE, inBlk, Nat.reduceEqDiff, ↓reduceIte]); rw [chk5 he0 hlen hrg hpr (by omega)]; exact RQ.of0 rfl (.tmp (Nat.le_of_ble_eq_true rfl) rfl rfl .nil)
      ·
       (try simp only [hcS] at hc); have hc6 := hc; have hpa : pairF x y m = 0 := (by omega)
       refine AW.skip ?_
       (refine hK _ ?_; clear hK K; (try simp only [nA, Nat.reduceBEq, Nat.reduceEqDiff, ↓reduceIte, Nat.reduceAdd, Nat.reduceSub]))
       (refine AW.seq_k ?_; intro K hK)
       refine AW.region ?_
       refine awP (op_assign rfl rfl) ?_
       refine AWL.nil ?_
       (refine hK _ ?_; clear hK K; (try simp only [nA, Nat.reduceBEq, Nat.reduceEqDiff, ↓reduceIte, Nat.reduceAdd, Nat.reduceSub]))
       (refine AW.seq_k ?_; intro K hK)
       (refine AW.seq_k ?_; intro K hK)
       refine AW.region ?_
       refine awP (op_move rfl rfl) ?_
       (first | refine awP (op_len_ro rfl rfl Try.underlying22 (by first | exact .inr (.inl ⟨_, rfl, rfl⟩) | exact .inl rfl | exact .inr (.inr (.inl ⟨_, rfl, rfl⟩)) | exact .inr (.inr (.inr ⟨rfl, rfl⟩)))) ?_ | refine awP (op_len_sl rfl rfl rfl Try.underlying22) ?_ | refine awP (op_len_str rfl rfl Try.underlying22) ?_)
       refine awP (op_move rfl rfl) ?_
       refine AWL.nil ?_
       (refine hK _ ?_; clear hK K; (try simp only [nA, Nat.reduceBEq, Nat.reduceEqDiff, ↓reduceIte, Nat.reduceAdd, Nat.reduceSub]))
       refine AW.block ?_
       refine AW.loopI (fun (i : Nat) => [(0, .ro (x.map Desc.av)), (1, .ro (y.map Desc.av)), (5, .rop m.av), (11, .v (.int .i64 (sumN i (gI m.rows)))), (78, .v (.int .i64 (x.length : Nat))), (79, .v (.int .i64 (i : Nat)))]) (fun _ => ⟨[], 1⟩) (fun i => i ≤ x.length ∧ feP x y m i) (fun i => x.length - i) 0 ⟨Nat.zero_le _, fun i hi => absurd hi (Nat.not_lt_zero i)⟩ ⟨rfl, rfl, rfl, rfl, rfl, rfl, trivial⟩ rfl ?_; intro i ρ2 hi; simp only [updL]; (try simp only [nA, Nat.reduceBEq, Nat.reduceEqDiff, ↓reduceIte, Nat.reduceAdd, Nat.reduceSub])
       (refine AW.seq_k ?_; intro K hK)
       refine AW.region ?_
       refine awP (op_lss rfl rfl rfl) ?_
       refine AWL.nil ?_
       (refine hK _ ?_; clear hK K; (try simp only [nA, Nat.reduceBEq, Nat.reduceEqDiff, ↓reduceIte, Nat.reduceAdd, Nat.reduceSub]))
       (refine AW.seq_k ?_; intro K hK)
       refine AW.cond rfl rfl rfl (fun hc => ?_) (fun hc => ?_)
       ·
        (try simp only [hcS] at hc); have hc7 := hc; have hi2 : i < x.length := (by omega); have hsb := sumN_bd (n := i) (g := gI m.rows) (B := 1073741824) (fun q hq => hpR q (by omega)); have hri := hpR i hi2
        refine AW.skip ?_
        (refine hK _ ?_; clear hK K; (try simp only [nA, Nat.reduceBEq, Nat.reduceEqDiff, ↓reduceIte, Nat.reduceAdd, Nat.reduceSub]))
        (refine AW.seq_k ?_; intro K hK)
        refine AW.block ?_
        (refine AW.seq_k ?_; intro K hK)
        refine AW.region ?_
        refine awP (op_move rfl rfl) ?_
        refine awP (op_assign rfl rfl) ?_
        refine AWL.nil ?_
        (refine hK _ ?_; clear hK K; (try simp only [nA, Nat.reduceBEq, Nat.reduceEqDiff, ↓reduceIte, Nat.reduceAdd, Nat.reduceSub]))
        (refine AW.seq_k ?_; intro K hK)
        refine AW.region ?_
        refine awP (op_move rfl rfl) ?_
        (first | refine awP (op_fa_ptr rfl rfl rfl fl42_1 (by exact sz23) (by decide) rfl) ?_ | refine awP (op_fa_rop rfl rfl fl42_1 (by exact sz23) (by decide) (Nat.le_of_ble_eq_true rfl) rfl) ?_)
        (first | refine awR (op_load_ptr1 rfl rfl rfl rfl ag23 rfl rfl) ?_ | refine awR (op_load_rop1 rfl rfl ag23) ?_)
        refine awP (op_move rfl rfl) ?_
        (first | refine awP (op_ia_ro i rfl (.inl rfl) rfl Try.underlying23 rfl (gI_mapD (by omega)) (by exact sz3) (Nat.le_of_ble_eq_true rfl)) ?_ | refine awP (op_ia_sl _ _ rfl rfl rfl rfl Try.underlying23 rfl (by omega) (by exact sz3) rfl) ?_)
        (first | refine awR (op_load_ptr1 rfl rfl rfl rfl ag3 rfl rfl) ?_ | refine awR (op_load_rop1 rfl rfl ag3) ?_)
        (first | refine awP (op_addi rfl rfl rfl (by omega)) ?_ | refine awP (op_add rfl rfl rfl rfl) ?_)
        refine awP (op_assign rfl rfl) ?_
        refine AWL.nil ?_
        (refine hK _ ?_; clear hK K; (try simp only [nA, Nat.reduceBEq, Nat.reduceEqDiff, ↓reduceIte, Nat.reduceAdd, Nat.reduceSub]))
        (refine AW.seq_k ?_; intro K hK)
        refine AW.region ?_
        refine awP (op_move rfl rfl) ?_
        (first | refine awP (op_len_ro rfl rfl Try.underlying22 (by first | exact .inr (.inl ⟨_, rfl, rfl⟩) | exact .inl rfl | exact .inr (.inr (.inl ⟨_, rfl, rfl⟩)) | exact .inr (.inr (.inr ⟨rfl, rfl⟩)))) ?_ | refine awP (op_len_sl rfl rfl rfl Try.underlying22) ?_ | refine awP (op_len_str rfl rfl Try.underlying22) ?_)
        refine awP (op_move rfl rfl) ?_
        refine AWL.nil ?_
        (refine hK _ ?_; clear hK K; (try simp only [nA, Nat.reduceBEq, Nat.reduceEqDiff, ↓reduceIte, Nat.reduceAdd, Nat.reduceSub]))
        refine AW.block ?_
        refine AW.loopI (fun (k : Nat) => [(0, .ro (x.map Desc.av)), (1, .ro (y.map Desc.av)), (5, .rop m.av), (11, .v (.int .i64 (sumN (i + 1) (gI m.rows)))), (78, .v (.int .i64 (x.length : Nat))), (79, .v (.int .i64 (i : Nat))), (12, .v (.int .i64 (i : Nat))), (90, .v (.int .i64 (y.length : Nat))), (91, .v (.int .i64 (k : Nat)))]) (fun _ => ⟨[], 1⟩) (fun k => k ≤ y.length ∧ ∀ q, q < k → scD x y i q ≤ gI m.rows i + gI m.cols q) (fun k => y.length - k) 0 ⟨Nat.zero_le _, fun i hi => absurd hi (Nat.not_lt_zero i)⟩ ⟨rfl, rfl, rfl, (by rw [sumN_succ]; rfl), rfl, rfl, rfl, rfl, rfl, trivial⟩ rfl ?_; intro k ρ3 hk; simp only [updL]; (try simp only [nA, Nat.reduceBEq, Nat.reduceEqDiff, ↓reduceIte, Nat.reduceAdd, Nat.reduceSub])
        (refine AW.seq_k ?_; intro K hK)
        refine AW.region ?_
        refine awP (op_lss rfl rfl rfl) ?_
        refine AWL.nil ?_
        (refine hK _ ?_; clear hK K; (try simp only [nA, Nat.reduceBEq, Nat.reduceEqDiff, ↓reduceIte, Nat.reduceAdd, Nat.reduceSub]))
        (refine AW.seq_k ?_; intro K hK)
        refine AW.cond rfl rfl rfl (fun hc => ?_) (fun hc => ?_)
        ·
         (try simp only [hcS] at hc); have hc8 := hc; have hk2 : k < y.length := (by omega); have hck := hpC k hk2
         refine AW.skip ?_
         (refine hK _ ?_; clear hK K; (try simp only [nA, Nat.reduceBEq, Nat.reduceEqDiff, ↓reduceIte, Nat.reduceAdd, Nat.reduceSub]))
         (refine AW.seq_k ?_; intro K hK)
         refine AW.block ?_
         (refine AW.seq_k ?_; intro K hK)
         refine AW.region ?_
         refine awP (op_move rfl rfl) ?_
         refine awP (op_assign rfl rfl) ?_
         refine AWL.nil ?_
         (refine hK _ ?_; clear hK K; (try simp only [nA, Nat.reduceBEq, Nat.reduceEqDiff, ↓reduceIte, Nat.reduceAdd, Nat.reduceSub]))
         (refine AW.seq_k ?_; intro K hK)
         refine AW.quiet mix (by kernel_rfl) ?_
         (first | refine aqP (op_fa_ptr rfl rfl rfl fl42_1 (by exact sz23) (by decide) rfl) ?_ | refine aqP (op_fa_rop rfl rfl fl42_1 (by exact sz23) (by decide) (Nat.le_of_ble_eq_true rfl) rfl) ?_)
         (first | refine aqR (op_load_ptr1 rfl rfl rfl rfl ag23 rfl rfl) ?_ | refine aqR (op_load_rop1 rfl rfl ag23) ?_)
         refine aqP (op_move rfl rfl) ?_
         (first | refine aqP (op_ia_ro i rfl (.inl rfl) rfl Try.underlying23 rfl (gI_mapD (by omega)) (by exact sz3) (Nat.le_of_ble_eq_true rfl)) ?_ | refine aqP (op_ia_sl _ _ rfl rfl rfl rfl Try.underlying23 rfl (by omega) (by exact sz3) rfl) ?_)
         (first | refine aqR (op_load_ptr1 rfl rfl rfl rfl ag3 rfl rfl) ?_ | refine aqR (op_load_rop1 rfl rfl ag3) ?_)
         (first | refine aqP (op_fa_ptr rfl rfl rfl fl42_2 (by exact sz23) (by decide) rfl) ?_ | refine aqP (op_fa_rop rfl rfl fl42_2 (by exact sz23) (by decide) (Nat.le_of_ble_eq_true rfl) rfl) ?_)
         (first | refine aqR (op_load_ptr1 rfl rfl rfl rfl ag23 rfl rfl) ?_ | refine aqR (op_load_rop1 rfl rfl ag23) ?_)
         refine aqP (op_move rfl rfl) ?_
         (first | refine aqP (op_ia_ro k rfl (.inl rfl) rfl Try.underlying23 rfl (gI_mapD (by omega)) (by exact sz3) (Nat.le_of_ble_eq_true rfl)) ?_ | refine aqP (op_ia_sl _ _ rfl rfl rfl rfl Try.underlying23 rfl (by omega) (by exact sz3) rfl) ?_)
         (first | refine aqR (op_load_ptr1 rfl rfl rfl rfl ag3 rfl rfl) ?_ | refine aqR (op_load_rop1 rfl rfl ag3) ?_)
         (first | refine aqP (op_addi rfl rfl rfl (by omega)) ?_ | refine aqP (op_add rfl rfl rfl rfl) ?_)
         refine aqP (op_move rfl rfl) ?_
         refine aqP (op_move rfl rfl) ?_
         (first | refine aqP (op_ia_ro i rfl (.inl rfl) rfl Try.underlying22 rfl (get_mapD (by omega)) (by exact sz30) (Nat.le_of_ble_eq_true rfl)) ?_ | refine aqP (op_ia_sl _ _ rfl rfl rfl rfl Try.underlying22 rfl (by omega) (by exact sz30) rfl) ?_)
         (first | refine aqR (op_load_ptr rfl rfl rfl rfl ag30 sz30 (Nat.le_of_ble_eq_true rfl) rfl) ?_ | refine aqR (op_load_rop rfl rfl ag30 sz30 (Nat.le_of_ble_eq_true rfl) (by decide) rfl) ?_)
         refine aqP (op_move rfl rfl) ?_
         refine aqP (op_move rfl rfl) ?_
         (first | refine aqP (op_ia_ro k rfl (.inl rfl) rfl Try.underlying22 rfl (get_mapD (by omega)) (by exact sz30) (Nat.le_of_ble_eq_true rfl)) ?_ | refine aqP (op_ia_sl _ _ rfl rfl rfl rfl Try.underlying22 rfl (by omega) (by exact sz30) rfl) ?_)
         (first | refine aqR (op_load_ptr rfl rfl rfl rfl ag30 sz30 (Nat.le_of_ble_eq_true rfl) rfl) ?_ | refine aqR (op_load_rop rfl rfl ag30 sz30 (Nat.le_of_ble_eq_true rfl) (by decide) rfl) ?_)
         refine aqQ (op_callQ (b := true) rfl en18 (C18 (a := x.getD i default) (b := y.getD k default) (hx _ (getD_mem (by omega))) (hy _ (getD_mem (by omega)))) (RL.cons (by first | exact View.same rfl | exact View.nil | exact View.rof | exact View.src .ro | exact View.src .rof | exact View.src (.sl rfl rfl) | exact View.ptr rfl rfl rfl) (RL.cons (by first | exact View.same rfl | exact View.nil | exact View.rof | exact View.src .ro | exact View.src .rof | exact View.src (.sl rfl rfl) | exact View.ptr rfl rfl rfl) (RL.nil))) rfl) ?_; (try simp only [nA, Nat.reduceBEq, Nat.reduceEqDiff, ↓reduceIte, Nat.reduceAdd, Nat.reduceSub])
         refine aqP (op_lss rfl rfl rfl) ?_
         refine AQ.nil ?_
         (refine hK _ ?_; clear hK K; (try simp only [nA, Nat.reduceBEq, Nat.reduceEqDiff, ↓reduceIte, Nat.reduceAdd, Nat.reduceSub]))
         refine AW.cond rfl rfl rfl (fun hc => ?_) (fun hc => ?_)
         ·
          (try simp only [hcS] at hc); have hc9 := hc; have hbad : ¬ scD x y i k ≤ gI m.rows i + gI m.cols k := (by show ¬ scoreF _ _ ≤ _; omega)
          (refine AW.seq_k ?_; intro K hK)
          refine AW.region ?_
          refine awP (op_assign rfl rfl) ?_
          refine AWL.nil ?_
          (refine hK _ ?_; clear hK K; (try simp only [nA, Nat.reduceBEq, Nat.reduceEqDiff, ↓reduceIte, Nat.reduceAdd, Nat.reduceSub]))
          skip
          refine AW.ret ?_; (try simp only [thenE, inBlk, Nat.reduceEqDiff, ↓reduceIte]); rw [chk6 he0 hlen hrg hpr hpa (fun h => hbad (h i hi2 k hk2))]; exact RQ.of0 rfl (.tmp (Nat.le_of_ble_eq_true rfl) rfl rfl .nil)
         ·
          (try simp only [hcS] at hc); have hc9 := hc; have hgood : scD x y i k ≤ gI m.rows i + gI m.cols k := (by show scoreF _ _ ≤ _; omega)
          refine AW.skip ?_
          (try simp only [thenE, inBlk, Nat.reduceEqDiff, ↓reduceIte])
          (refine hK _ ?_; clear hK K; (try simp only [nA, Nat.reduceBEq, Nat.reduceEqDiff, ↓reduceIte, Nat.reduceAdd, Nat.reduceSub]))
          refine AW.region ?_
          (first | refine awP (op_addi rfl rfl rfl (by omega)) ?_ | refine awP (op_add rfl rfl rfl rfl) ?_)
          refine awP (op_move rfl rfl) ?_
          skip
          refine AWL.nil ?_
          refine ⟨k + 1, ⟨by omega, lt_succ hk.2 hgood⟩, by omega, ⟨rfl, rfl, rfl, rfl, rfl, rfl, rfl, rfl, rfl, trivial⟩, (by first | rfl | trivial), (by first | rfl | trivial)⟩
        ·
         (try simp only [hcS] at hc); have hc8 := hc; skip
         refine AW.exit ?_; (try simp only [thenE, inBlk, Nat.reduceEqDiff, ↓reduceIte])
         clear hK K
         (try simp only [thenE, inBlk, Nat.reduceEqDiff, ↓reduceIte])
         (refine hK _ ?_; clear hK K; (try simp only [nA, Nat.reduceBEq, Nat.reduceEqDiff, ↓reduceIte, Nat.reduceAdd, Nat.reduceSub]))
         refine AW.region ?_
         (first | refine awP (op_addi rfl rfl rfl (by omega)) ?_ | refine awP (op_add rfl rfl rfl rfl) ?_)
         refine awP (op_move rfl rfl) ?_
         skip
         refine AWL.nil ?_
         refine ⟨i + 1, ⟨by omega, lt_succ hi.2 fun k' hk' => hk.2 k' (by omega)⟩, by omega, ⟨rfl, rfl, rfl, rfl, rfl, rfl, trivial⟩, (by first | rfl | trivial), (by first | rfl | trivial)⟩
       ·
        (try simp only [hcS] at hc); have hc7 := hc; obtain rfl : i = x.length := (by omega); have hfe : feP x y m x.length := hi.2; have hsR := sumN_bd (n := x.length) (g := gI m.rows) (B := 1073741824) hpR
        refine AW.exit ?_; (try simp only [thenE, inBlk, Nat.reduceEqDiff, ↓reduceIte])
        clear hK K
        (refine hK _ ?_; clear hK K; (try simp only [nA, Nat.reduceBEq, Nat.reduceEqDiff, ↓reduceIte, Nat.reduceAdd, Nat.reduceSub]))
        (refine AW.seq_k ?_; intro K hK)
        (refine AW.seq_k ?_; intro K hK)
        refine AW.region ?_
        (first | refine awP (op_fa_ptr rfl rfl rfl fl42_2 (by exact sz23) (by decide) rfl) ?_ | refine awP (op_fa_rop rfl rfl fl42_2 (by exact sz23) (by decide) (Nat.le_of_ble_eq_true rfl) rfl) ?_)
        (first | refine awR (op_load_ptr1 rfl rfl rfl rfl ag23 rfl rfl) ?_ | refine awR (op_load_rop1 rfl rfl ag23) ?_)
        (first | refine awP (op_len_ro rfl rfl Try.underlying23 (by first | exact .inr (.inl ⟨_, rfl, rfl⟩) | exact .inl rfl | exact .inr (.inr (.inl ⟨_, rfl, rfl⟩)) | exact .inr (.inr (.inr ⟨rfl, rfl⟩)))) ?_ | refine awP (op_len_sl rfl rfl rfl Try.underlying23) ?_ | refine awP (op_len_str rfl rfl Try.underlying23) ?_)
        refine awP (op_move rfl rfl) ?_
        refine AWL.nil ?_
        (refine hK _ ?_; clear hK K; (try simp only [nA, Nat.reduceBEq, Nat.reduceEqDiff, ↓reduceIte, Nat.reduceAdd, Nat.reduceSub]))
        refine AW.block ?_
        refine AW.loopI (fun (k : Nat) => [(0, .ro (x.map Desc.av)), (1, .ro (y.map Desc.av)), (5, .rop m.av), (11, .v (.int .i64 (sumN x.length (gI m.rows) + sumN k (gI m.cols)))), (118, .ro (m.cols.map iv)), (119, .v (.int .i64 (m.cols.length : Nat))), (120, .v (.int .i64 (k : Nat)))]) (fun _ => ⟨[], 1⟩) (fun k => k ≤ y.length) (fun k => y.length - k) 0 (Nat.zero_le _) ⟨rfl, rfl, rfl, (by rw [sumN_zero, Int.add_zero]; rfl), rfl, rfl, rfl, trivial⟩ rfl ?_; intro k ρ4 hk; simp only [updL]; (try simp only [nA, Nat.reduceBEq, Nat.reduceEqDiff, ↓reduceIte, Nat.reduceAdd, Nat.reduceSub])
        (refine AW.seq_k ?_; intro K hK)
        refine AW.region ?_
        refine awP (op_lss rfl rfl rfl) ?_
        refine AWL.nil ?_
        (refine hK _ ?_; clear hK K; (try simp only [nA, Nat.reduceBEq, Nat.reduceEqDiff, ↓reduceIte, Nat.reduceAdd, Nat.reduceSub]))
        (refine AW.seq_k ?_; intro K hK)
        refine AW.cond rfl rfl rfl (fun hc => ?_) (fun hc => ?_)
        ·
         (try simp only [hcS] at hc); have hc10 := hc; have hk2 : k < y.length := (by omega); have hsb := sumN_bd (n := k) (g := gI m.cols) (B := 1073741824) (fun q hq => hpC q (by omega)); have hck := hpC k hk2
         refine AW.skip ?_
         (refine hK _ ?_; clear hK K; (try simp only [nA, Nat.reduceBEq, Nat.reduceEqDiff, ↓reduceIte, Nat.reduceAdd, Nat.reduceSub]))
         (refine AW.seq_k ?_; intro K hK)
         refine AW.block ?_
         (refine AW.seq_k ?_; intro K hK)
         refine AW.region ?_
         (first | refine awP (op_ia_ro k rfl (.inl rfl) rfl Try.underlying23 rfl (gI_mapD (by omega)) (by exact sz3) (Nat.le_of_ble_eq_true rfl)) ?_ | refine awP (op_ia_sl _ _ rfl rfl rfl rfl Try.underlying23 rfl (by omega) (by exact sz3) rfl) ?_)
         (first | refine awR (op_load_ptr1 rfl rfl rfl rfl ag3 rfl rfl) ?_ | refine awR (op_load_rop1 rfl rfl ag3) ?_)
         refine awP (op_assign rfl rfl) ?_
         refine AWL.nil ?_
         (refine hK _ ?_; clear hK K; (try simp only [nA, Nat.reduceBEq, Nat.reduceEqDiff, ↓reduceIte, Nat.reduceAdd, Nat.reduceSub]))
         refine AW.region ?_
         refine awP (op_move rfl rfl) ?_
         refine awP (op_move rfl rfl) ?_
         (first | refine awP (op_addi rfl rfl rfl (by omega)) ?_ | refine awP (op_add rfl rfl rfl rfl) ?_)
         refine awP (op_assign rfl rfl) ?_
         refine AWL.nil ?_
         (try simp only [thenE, inBlk, Nat.reduceEqDiff, ↓reduceIte])
         (refine hK _ ?_; clear hK K; (try simp only [nA, Nat.reduceBEq, Nat.reduceEqDiff, ↓reduceIte, Nat.reduceAdd, Nat.reduceSub]))
         refine AW.region ?_
         (first | refine awP (op_addi rfl rfl rfl (by omega)) ?_ | refine awP (op_add rfl rfl rfl rfl) ?_)
         refine awP (op_move rfl rfl) ?_
         skip
         refine AWL.nil ?_
         refine ⟨k + 1, by omega, by omega, ⟨rfl, rfl, rfl, (by rw [sumN_succ, ← Int.add_assoc]; rfl), rfl, rfl, rfl, trivial⟩, (by first | rfl | trivial), (by first | rfl | trivial)⟩
        ·
         (try simp only [hcS] at hc); have hc10 := hc; obtain rfl : k = y.length := (by omega)
         refine AW.exit ?_; (try simp only [thenE, inBlk, Nat.reduceEqDiff, ↓reduceIte])
         clear hK K
         (refine hK _ ?_; clear hK K; (try simp only [nA, Nat.reduceBEq, Nat.reduceEqDiff, ↓reduceIte, Nat.reduceAdd, Nat.reduceSub]))
         (refine AW.seq_k ?_; intro K hK)
         (refine AW.seq_k ?_; intro K hK)
         refine AW.region ?_
         refine awP (op_move rfl rfl) ?_
         (first | refine awP (op_fa_ptr rfl rfl rfl fl42_3 (by exact sz3) (by decide) rfl) ?_ | refine awP (op_fa_rop rfl rfl fl42_3 (by exact sz3) (by decide) (Nat.le_of_ble_eq_true rfl) rfl) ?_)
         (first | refine awR (op_load_ptr1 rfl rfl rfl rfl ag3 rfl rfl) ?_ | refine awR (op_load_rop1 rfl rfl ag3) ?_)
         (first | refine awP (op_neq rfl rfl rfl) ?_ | refine awP (op_sneq rfl rfl rfl) ?_)
         refine AWL.nil ?_
         (refine hK _ ?_; clear hK K; (try simp only [nA, Nat.reduceBEq, Nat.reduceEqDiff, ↓reduceIte, Nat.reduceAdd, Nat.reduceSub]))
         refine AW.cond rfl rfl rfl (fun hc => ?_) (fun hc => ?_)
         ·
          (try simp only [hcS] at hc); have hc11 := hc; skip
          (refine AW.seq_k ?_; intro K hK)
          refine AW.region ?_
          refine awP (op_assign rfl rfl) ?_
          refine AWL.nil ?_
          (refine hK _ ?_; clear hK K; (try simp only [nA, Nat.reduceBEq, Nat.reduceEqDiff, ↓reduceIte, Nat.reduceAdd, Nat.reduceSub]))
          skip
          refine AW.ret ?_; (try simp only [thenE, inBlk, Nat.reduceEqDiff, ↓reduceIte]); rw [chk7 he0 hlen hrg hpr hpa hfe (by omega)]; exact RQ.of0 rfl (.tmp (Nat.le_of_ble_eq_true rfl) rfl rfl .nil)
         ·
          (try simp only [hcS] at hc); have hc11 := hc; skip
          refine AW.skip ?_
          (refine hK _ ?_; clear hK K; (try simp only [nA, Nat.reduceBEq, Nat.reduceEqDiff, ↓reduceIte, Nat.reduceAdd, Nat.reduceSub]))
          (refine AW.seq_k ?_; intro K hK)
          refine AW.region ?_
          refine awP (op_assign rfl rfl) ?_
          refine AWL.nil ?_
          (refine hK _ ?_; clear hK K; (try simp only [nA, Nat.reduceBEq, Nat.reduceEqDiff, ↓reduceIte, Nat.reduceAdd, Nat.reduceSub]))
          skip
          refine AW.ret ?_; (try simp only [thenE, inBlk, Nat.reduceEqDiff, ↓reduceIte]); rw [chk8 he0 hlen hrg hpr hpa hfe (by omega)]; exact RQ.of0 rfl (.tmp (Nat.le_of_ble_eq_true rfl) rfl rfl .nil)
end Go.Proofs.Ytjgbbffcjbmjmaa
