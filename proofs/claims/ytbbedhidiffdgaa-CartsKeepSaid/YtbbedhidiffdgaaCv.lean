import Derived.Test.YtbbedhidiffdgaaCr
namespace Go.Proofs.Ytbbedhidiffdgaa
open Go.RowKit
set_option linter.unusedSimpArgs false
set_option linter.unusedVariables false

/-! ### Operate -/
theorem take_fail {xs : List Cart} {p : Plate} (h : (takeV xs p).2 ≠ 0) : (takeV xs p).1 = [] := by
  unfold takeV at h ⊢
  by_cases h0 : chkL xs ≠ 0
  · rw [if_pos h0]
  rw [if_neg h0] at h ⊢
  by_cases h1 : (findV xs p).2 = false
  · rw [if_pos h1]
  rw [if_neg h1] at h ⊢
  by_cases h2 : (xs.getD (onN xs p) default).away = true
  · rw [if_pos h2]
  rw [if_neg h2] at h ⊢
  exact absurd rfl h
theorem send_fail {xs : List Cart} {n : Int} (h : (sendV xs n).2 ≠ 0) : (sendV xs n).1 = [] := by
  unfold sendV at h ⊢
  by_cases h0 : chkL xs ≠ 0
  · rw [if_pos h0]
  rw [if_neg h0] at h ⊢
  by_cases h1 : numI xs n < 0
  · rw [if_pos h1]
  rw [if_neg h1] at h ⊢
  by_cases h2 : (xs.getD (numN xs n) default).away = true ∨ (xs.getD (numN xs n) default).plates = []
  · rw [if_pos h2]
  rw [if_neg h2] at h ⊢
  exact absurd rfl h
theorem join_fail {xs : List Cart} {a b : Int} (h : (joinV xs a b).2 ≠ 0) : (joinV xs a b).1 = [] := by
  unfold joinV at h ⊢
  by_cases h0 : chkL xs ≠ 0
  · rw [if_pos h0]
  rw [if_neg h0] at h ⊢
  by_cases h1 : ¬ (0 ≤ numI xs a ∧ 0 ≤ numI xs b)
  · rw [if_pos h1]
  rw [if_neg h1] at h ⊢
  by_cases h2 : numN xs a = numN xs b
  · rw [if_pos h2]
  rw [if_neg h2] at h ⊢
  by_cases h3 : (xs.getD (numN xs a) default).away = true ∨ (xs.getD (numN xs b) default).away = true
  · rw [if_pos h3]
  rw [if_neg h3] at h ⊢
  by_cases h4 : kindB (xs.getD (numN xs a) default) (xs.getD (numN xs b) default) = true
  · rw [if_pos h4]
  rw [if_neg h4] at h ⊢
  by_cases h5 : (xs.getD (numN xs a) default).plates.length + (xs.getD (numN xs b) default).plates.length > 8
  · rw [if_pos h5]
  rw [if_neg h5] at h ⊢
  exact absurd rfl h
theorem put_fail {xs : List Cart} {ch cat : Int} {f : Flight} {p : Plate} (h : (putV xs ch f cat p).2.2 ≠ 0) : (putV xs ch f cat p).1 = [] := by
  unfold putV at h ⊢
  by_cases h0 : chkL xs ≠ 0
  · rw [if_pos h0]
  rw [if_neg h0] at h ⊢
  by_cases h1 : placeB ch f cat = false ∨ plB p = false
  · rw [if_pos h1]
  rw [if_neg h1] at h ⊢
  by_cases h2 : (findV xs p).2 = true
  · rw [if_pos h2]
  rw [if_neg h2] at h ⊢
  by_cases h3 : roomN xs ch f cat < xs.length
  · rw [if_pos h3] at h; exact absurd rfl h
  rw [if_neg h3] at h ⊢
  by_cases h4 : xs.length = 24 ∨ lastN xs = 1048576
  · rw [if_pos h4]
  rw [if_neg h4] at h ⊢
  exact absurd rfl h
/-- What a step does. -/
inductive Stp (xs : List Cart) : List Cart → Prop
  | nil : Stp xs []
  | take {p} (h : (takeV xs p).2 = 0) : Stp xs (takeV xs p).1
  | send {n} (h : (sendV xs n).2 = 0) : Stp xs (sendV xs n).1
  | join {a b} (h : (joinV xs a b).2 = 0) : Stp xs (joinV xs a b).1
  | put {ch f cat p} (h : (putV xs ch f cat p).2.2 = 0) : Stp xs (putV xs ch f cat p).1
theorem step_is (l : List Int) (k : Nat) (xs : List Cart) : Stp xs (stepV l k xs).1 := by
  unfold stepV
  repeat' split
  · by_cases h : (takeV xs (stP l k)).2 = 0
    · exact .take h
    · show Stp xs (takeV xs (stP l k)).1; rw [take_fail h]; exact .nil
  · by_cases h : (sendV xs (stN l k)).2 = 0
    · exact .send h
    · show Stp xs (sendV xs (stN l k)).1; rw [send_fail h]; exact .nil
  · by_cases h : (joinV xs (stN l k) (stM l k)).2 = 0
    · exact .join h
    · show Stp xs (joinV xs (stN l k) (stM l k)).1; rw [join_fail h]; exact .nil
  · by_cases h : (putV xs (gmod (rawV l (nx4 l k)) 2) (flightN (gmod (rawV l (nx5 l k)) 2)) (gmod (rawV l (nx6 l k)) 2) (stP l k)).2.2 = 0
    · exact .put h
    · show Stp xs (putV xs (gmod (rawV l (nx4 l k)) 2) (flightN (gmod (rawV l (nx5 l k)) 2)) (gmod (rawV l (nx6 l k)) 2) (stP l k)).1; rw [put_fail h]; exact .nil
theorem Stp.inv {xs ys : List Cart} (h : Stp xs ys) : Inv ys := by
  cases h with
  | nil => exact inv_nil
  | take h => exact take_inv h
  | send h => exact send_inv h
  | join h => exact join_inv h
  | put h => exact put_inv h
theorem C20r {l : List Int} {k : Nat} : Fn Try.prog 20 [] [.rop (srcRow l k)] [.v (.bool (decide ((k : Int) < (l.length : Int))))] [] := by
  refine Spec.body Try.func20 rfl Try.ntmps20 (by simp) rfl ?_; intro S0 own0 v0 w0
  (refine AW.seq_k ?_; intro K hK)
  refine AW.region ?_
  refine awP (op_assign rfl rfl) ?_
  refine AWL.nil ?_
  (refine hK _ ?_; clear hK K; (try simp only [nA, Nat.reduceBEq, Nat.reduceEqDiff, ↓reduceIte, Nat.reduceAdd, Nat.reduceSub]))
  (refine AW.seq_k ?_; intro K hK)
  refine AW.quiet mix (by kernel_rfl) ?_
  refine aqP (op_move rfl rfl) ?_
  (first | refine aqP (op_nil_slot rfl rfl rfl) ?_ | refine aqP (op_nil_ptr rfl rfl) ?_)
  (first | refine aqP (op_fa_ptr rfl rfl rfl fl63_1 (by exact sz3) (by decide) rfl) ?_ | refine aqP (op_fa_rop rfl rfl fl63_1 (by exact sz3) (by decide) (Nat.le_of_ble_eq_true rfl) rfl) ?_)
  (first | refine aqR (op_load_ptr1 rfl rfl rfl rfl ag3 rfl rfl) ?_ | refine aqR (op_load_rop1 rfl rfl ag3) ?_)
  refine aqP (op_move rfl rfl) ?_
  (first | refine aqP (op_nil_slot rfl rfl rfl) ?_ | refine aqP (op_nil_ptr rfl rfl) ?_)
  (first | refine aqP (op_fa_ptr rfl rfl rfl fl63_0 (by exact sz23) (by decide) rfl) ?_ | refine aqP (op_fa_rop rfl rfl fl63_0 (by exact sz23) (by decide) (Nat.le_of_ble_eq_true rfl) rfl) ?_)
  (first | refine aqR (op_load_ptr1 rfl rfl rfl rfl ag23 rfl rfl) ?_ | refine aqR (op_load_rop1 rfl rfl ag23) ?_)
  (first | refine aqP (op_len_ro rfl rfl Try.underlying23 (by first | exact .inr (.inl ⟨_, rfl, rfl⟩) | exact .inl rfl | exact .inr (.inr (.inl ⟨_, rfl, rfl⟩)) | exact .inr (.inr (.inr ⟨rfl, rfl⟩)))) ?_ | refine aqP (op_len_sl rfl rfl rfl Try.underlying23) ?_ | refine aqP (op_len_str rfl rfl Try.underlying23) ?_)
  refine aqP (op_lss rfl rfl rfl) ?_
  refine aqP (op_assign rfl rfl) ?_
  refine AQ.nil ?_
  (refine hK _ ?_; clear hK K; (try simp only [nA, Nat.reduceBEq, Nat.reduceEqDiff, ↓reduceIte, Nat.reduceAdd, Nat.reduceSub]))
  skip
  refine AW.ret ?_; (try simp only [thenE, inBlk, Nat.reduceEqDiff, ↓reduceIte]); exact RQ.of0 rfl (.tmp (Nat.le_of_ble_eq_true rfl) rfl rfl .nil)
set_option maxHeartbeats 8000000 in
theorem C6 {l : List Int} : Fn Try.prog 6 [] [.ro (l.map iv)] [.v (.bool true)] [] := by
  refine Spec.body Try.func6 rfl Try.ntmps6 (by simp) rfl ?_; intro S0 own0 v0 w0
  (refine AW.seq_k ?_; intro K hK)
  refine AW.region ?_
  refine awP (op_assign rfl rfl) ?_
  refine AWL.nil ?_
  (refine hK _ ?_; clear hK K; (try simp only [nA, Nat.reduceBEq, Nat.reduceEqDiff, ↓reduceIte, Nat.reduceAdd, Nat.reduceSub]))
  (refine AW.seq_k ?_; intro K hK)
  refine AW.region ?_
  refine awP (op_move rfl rfl) ?_
  refine awJ (op_callB rfl en11 (C11) (RL.cons (by first | exact View.same rfl | exact View.nil | exact View.rof | exact View.src .ro | exact View.src .rof | exact View.src (.sl rfl rfl) | exact View.ptr rfl rfl rfl) (RL.nil))) ?_; (try simp only [nA, Nat.reduceBEq, Nat.reduceEqDiff, ↓reduceIte, Nat.reduceAdd, Nat.reduceSub])
  refine awP (op_assign rfl rfl) ?_
  refine AWL.nil ?_
  (refine hK _ ?_; clear hK K; (try simp only [nA, Nat.reduceBEq, Nat.reduceEqDiff, ↓reduceIte, Nat.reduceAdd, Nat.reduceSub]))
  (refine AW.seq_k ?_; intro K hK)
  refine AW.region ?_
  refine awP (op_move rfl rfl) ?_
  refine awJ (op_call1 rfl en12 (C12 (l := (l.take 2000)) (k := 0) (n := 10) (by simp; omega) (by decide)) (by exact rfl) (RL.cons .ptr (RL.cons (.base (by first | exact View.same rfl | exact View.nil | exact View.rof | exact View.src .ro | exact View.src .rof | exact View.src (.sl rfl rfl) | exact View.ptr rfl rfl rfl)) (RL.nil))) (by exact ⟨_, _, _, rfl, rfl, rfl⟩) (by exact rfl) (by exact rfl) (by exact rfl)) ?_; (try simp only [nA, Nat.reduceBEq, Nat.reduceEqDiff, ↓reduceIte, Nat.reduceAdd, Nat.reduceSub])
  refine awP (op_assign rfl rfl) ?_
  refine AWL.nil ?_
  (refine hK _ ?_; clear hK K; (try simp only [nA, Nat.reduceBEq, Nat.reduceEqDiff, ↓reduceIte, Nat.reduceAdd, Nat.reduceSub]))
  (refine AW.seq_k ?_; intro K hK)
  (refine AW.seq_k ?_; intro K hK)
  refine AW.region ?_
  refine awP (op_assign rfl rfl) ?_
  refine AWL.nil ?_
  (refine hK _ ?_; clear hK K; (try simp only [nA, Nat.reduceBEq, Nat.reduceEqDiff, ↓reduceIte, Nat.reduceAdd, Nat.reduceSub]))
  refine AW.block ?_
  refine AW.loopI (fun (q : Nat × Nat × List Cart × Nat) => [(3, .ptr 0 1 0 0), (4, .ro (q.2.2.1.map Cart.av)), (5, .v (.int .i64 (q.1 : Nat)))]) (fun q => ⟨[(1, .own 63 [srcRow (l.take 2000) q.2.1])], q.2.2.2⟩) (fun q => q.1 ≤ 40 ∧ Inv q.2.2.1) (fun q => 40 - q.1) (0, (filV (l.take 2000) 0 10).2, (filV (l.take 2000) 0 10).1, 2) ⟨by simp, fil_inv (l.take 2000) 0 10⟩ ⟨rfl, rfl, rfl, trivial⟩ rfl ?_; rintro ⟨i, k, xs, e⟩ ρ ⟨hi, hI⟩; simp only at hi hI; simp only [updL]; (try simp only [nA, Nat.reduceBEq, Nat.reduceEqDiff, ↓reduceIte, Nat.reduceAdd, Nat.reduceSub]); have hbd := inv_bd hI
  (refine AW.seq_k ?_; intro K hK)
  (refine AW.seq_k ?_; intro K hK)
  refine AW.region (AWL.quiet ?_)
  refine aqP (op_move rfl rfl) ?_
  refine aqP (op_lss rfl rfl rfl) ?_
  refine aqP (op_move rfl rfl) ?_
  refine' aqAnd' [_, _] [16,17] rfl rfl rfl rfl rfl rfl rfl rfl rfl rfl rfl rfl (fun hb => ?_) ?_; rotate_left
  ·
   (try simp only [hcS] at hb)
   refine aqP (op_move rfl rfl) ?_
   refine aqQ (op_callQ (b := true) rfl en20 (C20r (l := (l.take 2000)) (k := k)) (RL.cons (by first | exact View.same rfl | exact View.nil | exact View.rof | exact View.src .ro | exact View.src .rof | exact View.src (.sl rfl rfl) | exact View.ptr rfl rfl rfl) (RL.nil)) rfl) ?_; (try simp only [nA, Nat.reduceBEq, Nat.reduceEqDiff, ↓reduceIte, Nat.reduceAdd, Nat.reduceSub])
   (refine aqSeg rfl rfl rfl ?_; repeat (first | exact fun _ _ => rfl | refine upd_out rfl ?_ | refine era_out rfl ?_))
  (try simp only [nA, Nat.reduceBEq, Nat.reduceEqDiff, ↓reduceIte, Nat.reduceAdd, Nat.reduceSub])
  refine AQ.nil ?_
  (refine hK _ ?_; clear hK K; (try simp only [nA, Nat.reduceBEq, Nat.reduceEqDiff, ↓reduceIte, Nat.reduceAdd, Nat.reduceSub]))
  refine AW.cond rfl rfl rfl (fun hc => ?_) (fun hc => ?_)
  ·
   (try simp only [hcS] at hc); have hc1 := hc; have hlt : i < 40 := (by have := hc.1; omega)
   refine AW.skip ?_
   (refine hK _ ?_; clear hK K; (try simp only [nA, Nat.reduceBEq, Nat.reduceEqDiff, ↓reduceIte, Nat.reduceAdd, Nat.reduceSub]))
   (refine AW.seq_k ?_; intro K hK)
   refine AW.block ?_
   (refine AW.seq_k ?_; intro K hK)
   refine AW.region ?_
   refine awP (op_move rfl rfl) ?_
   refine awP (op_move rfl rfl) ?_
   refine awJ (op_call1 rfl en27 (C27 (l := (l.take 2000)) (k := k) (xs := xs) (by simp; omega) hbd.1 hbd.2) (by exact rfl) (RL.cons .ptr (RL.cons (.base (by first | exact View.same rfl | exact View.nil | exact View.rof | exact View.src .ro | exact View.src .rof | exact View.src (.sl rfl rfl) | exact View.ptr rfl rfl rfl)) (RL.nil))) (by exact ⟨_, _, _, rfl, rfl, rfl⟩) (by exact rfl) (by exact rfl) (by exact rfl)) ?_; (try simp only [nA, Nat.reduceBEq, Nat.reduceEqDiff, ↓reduceIte, Nat.reduceAdd, Nat.reduceSub])
   refine awP (op_move rfl rfl) ?_
   refine awP (op_extract rfl rfl rfl) ?_
   refine awP (op_extract rfl rfl rfl) ?_
   refine awP (op_extract rfl rfl rfl) ?_
   refine awP (op_assign rfl rfl) ?_
   refine awP (op_assign rfl rfl) ?_
   refine awP (op_assign rfl rfl) ?_
   refine AWL.nil ?_
   (refine hK _ ?_; clear hK K; (try simp only [nA, Nat.reduceBEq, Nat.reduceEqDiff, ↓reduceIte, Nat.reduceAdd, Nat.reduceSub]))
   (refine AW.seq_k ?_; intro K hK)
   (refine AW.seq_k ?_; intro K hK)
   refine AW.region (AWL.quiet ?_)
   refine aqP (op_move rfl rfl) ?_
   refine aqP (op_not rfl rfl rfl) ?_
   refine aqP (op_move rfl rfl) ?_
   refine' aqOr' [_, _, _, _] [31,32,33,34] rfl rfl rfl rfl rfl rfl rfl rfl rfl rfl rfl rfl (fun hb => ?_) ?_; rotate_left
   ·
    (try simp only [hcS] at hb)
    refine aqP (op_move rfl rfl) ?_
    refine aqP (op_move rfl rfl) ?_
    refine aqQ (op_callQ (b := true) rfl en26 (C26 (xs := (stepV (l.take 2000) k xs).1)) (RL.cons (by first | exact View.same rfl | exact View.nil | exact View.rof | exact View.src .ro | exact View.src .rof | exact View.src (.sl rfl rfl) | exact View.ptr rfl rfl rfl) (RL.cons (by first | exact View.same rfl | exact View.nil | exact View.rof | exact View.src .ro | exact View.src .rof | exact View.src (.sl rfl rfl) | exact View.ptr rfl rfl rfl) (RL.nil))) rfl) ?_; (try simp only [nA, Nat.reduceBEq, Nat.reduceEqDiff, ↓reduceIte, Nat.reduceAdd, Nat.reduceSub])
    refine aqP (op_not rfl rfl rfl) ?_
    (refine aqSeg rfl rfl rfl ?_; repeat (first | exact fun _ _ => rfl | refine upd_out rfl ?_ | refine era_out rfl ?_))
   (try simp only [nA, Nat.reduceBEq, Nat.reduceEqDiff, ↓reduceIte, Nat.reduceAdd, Nat.reduceSub])
   refine AQ.nil ?_
   (refine hK _ ?_; clear hK K; (try simp only [nA, Nat.reduceBEq, Nat.reduceEqDiff, ↓reduceIte, Nat.reduceAdd, Nat.reduceSub]))
   refine AW.cond rfl rfl rfl (fun hc => ?_) (fun hc => ?_)
   ·
    (try simp only [hcS] at hc); have hc2 := hc; skip
    (refine AW.seq_k ?_; intro K hK)
    refine AW.region ?_
    refine awP (op_assign rfl rfl) ?_
    refine AWL.nil ?_
    (refine hK _ ?_; clear hK K; (try simp only [nA, Nat.reduceBEq, Nat.reduceEqDiff, ↓reduceIte, Nat.reduceAdd, Nat.reduceSub]))
    skip
    refine AW.ret ?_; (try simp only [thenE, inBlk, Nat.reduceEqDiff, ↓reduceIte]); exfalso; simp at hc
   ·
    (try simp only [hcS] at hc); have hc2 := hc; skip
    refine AW.skip ?_
    (refine hK _ ?_; clear hK K; (try simp only [nA, Nat.reduceBEq, Nat.reduceEqDiff, ↓reduceIte, Nat.reduceAdd, Nat.reduceSub]))
    (refine AW.seq_k ?_; intro K hK)
    refine AW.region ?_
    refine awP (op_move rfl rfl) ?_
    (first | refine awP (op_len_ro rfl rfl Try.underlying22 (by first | exact .inr (.inl ⟨_, rfl, rfl⟩) | exact .inl rfl | exact .inr (.inr (.inl ⟨_, rfl, rfl⟩)) | exact .inr (.inr (.inr ⟨rfl, rfl⟩)))) ?_ | refine awP (op_len_sl rfl rfl rfl Try.underlying22) ?_ | refine awP (op_len_str rfl rfl Try.underlying22) ?_)
    refine awP (op_gtr rfl rfl rfl) ?_
    refine AWL.nil ?_
    (refine hK _ ?_; clear hK K; (try simp only [nA, Nat.reduceBEq, Nat.reduceEqDiff, ↓reduceIte, Nat.reduceAdd, Nat.reduceSub]))
    refine AW.cond rfl rfl rfl (fun hc => ?_) (fun hc => ?_)
    ·
     (try simp only [hcS] at hc); have hc3 := hc; skip
     refine AW.region ?_
     refine awP (op_move rfl rfl) ?_
     refine awP (op_assign rfl rfl) ?_
     refine AWL.nil ?_
     (try simp only [thenE, inBlk, Nat.reduceEqDiff, ↓reduceIte])
     (refine hK _ ?_; clear hK K; (try simp only [nA, Nat.reduceBEq, Nat.reduceEqDiff, ↓reduceIte, Nat.reduceAdd, Nat.reduceSub]))
     refine AW.region ?_
     refine awP (op_move rfl rfl) ?_
     (first | refine awP (op_addi rfl rfl rfl (by omega)) ?_ | refine awP (op_add rfl rfl rfl rfl) ?_)
     refine awP (op_assign rfl rfl) ?_
     skip
     refine AWL.nil ?_
     refine ⟨(i + 1, (stepV (l.take 2000) k xs).2, (stepV (l.take 2000) k xs).1, e), ⟨by dsimp only; omega, (step_is (l.take 2000) k xs).inv⟩, by dsimp only; omega, ⟨rfl, rfl, rfl, trivial⟩, rfl, (by first | rfl | trivial)⟩
    ·
     (try simp only [hcS] at hc); have hc3 := hc; skip
     refine AW.skip ?_
     (try simp only [thenE, inBlk, Nat.reduceEqDiff, ↓reduceIte])
     (refine hK _ ?_; clear hK K; (try simp only [nA, Nat.reduceBEq, Nat.reduceEqDiff, ↓reduceIte, Nat.reduceAdd, Nat.reduceSub]))
     refine AW.region ?_
     refine awP (op_move rfl rfl) ?_
     (first | refine awP (op_addi rfl rfl rfl (by omega)) ?_ | refine awP (op_add rfl rfl rfl rfl) ?_)
     refine awP (op_assign rfl rfl) ?_
     refine AWL.nil ?_
     refine ⟨(i + 1, (stepV (l.take 2000) k xs).2, xs, e), ⟨by dsimp only; omega, hI⟩, by dsimp only; omega, ⟨rfl, rfl, rfl, trivial⟩, rfl, (by first | rfl | trivial)⟩
  ·
   (try simp only [hcS] at hc); have hc1 := hc; skip
   refine AW.exit ?_; (try simp only [thenE, inBlk, Nat.reduceEqDiff, ↓reduceIte])
   clear hK K
   (refine hK _ ?_; clear hK K; (try simp only [nA, Nat.reduceBEq, Nat.reduceEqDiff, ↓reduceIte, Nat.reduceAdd, Nat.reduceSub]))
   (refine AW.seq_k ?_; intro K hK)
   refine AW.region ?_
   refine awJ (OpQ.j (op_callQ (b := true) rfl en19 (C19) (RL.nil) rfl)) ?_; (try simp only [nA, Nat.reduceBEq, Nat.reduceEqDiff, ↓reduceIte, Nat.reduceAdd, Nat.reduceSub])
   refine awP (op_assign rfl rfl) ?_
   refine AWL.nil ?_
   (refine hK _ ?_; clear hK K; (try simp only [nA, Nat.reduceBEq, Nat.reduceEqDiff, ↓reduceIte, Nat.reduceAdd, Nat.reduceSub]))
   skip
   refine AW.ret ?_; (try simp only [thenE, inBlk, Nat.reduceEqDiff, ↓reduceIte]); exact RQ.of0 rfl (.tmp (Nat.le_of_ble_eq_true rfl) rfl rfl .nil)
end Go.Proofs.Ytbbedhidiffdgaa
