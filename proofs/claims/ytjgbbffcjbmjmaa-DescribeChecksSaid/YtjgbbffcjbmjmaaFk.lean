import Derived.Test.YtjgbbffcjbmjmaaFj
namespace Go.Proofs.Ytjgbbffcjbmjmaa
open Go.RowKit
set_option linter.unusedSimpArgs false
set_option linter.unusedVariables false

theorem patS_succ {a b : ByteArray} {j : Nat} : patS a b (j + 1) = patS a b j + dig (chr a j) (chr b j) := sumN_succ
theorem feaS_succ {f g : Int} {j : Nat} : feaS f g (j + 1) = feaS f g j + bitV (bt f.toNat j) (bt g.toNat j) := sumN_succ
theorem emp_ne {s : ByteArray} (h : ¬ s.toList = (⟨#[]⟩ : ByteArray).toList) : emp s = false := beq_eq_false_iff_ne.2 h
theorem emp_is {s : ByteArray} (h : s.toList = (⟨#[]⟩ : ByteArray).toList) : emp s = true := beq_iff_eq.2 h
theorem emp_or {s t : ByteArray} (h : s.toList = (⟨#[]⟩ : ByteArray).toList ∨ t.toList = (⟨#[]⟩ : ByteArray).toList) : emp s = true ∨ emp t = true := h.imp emp_is emp_is
theorem por_yes {s t : ByteArray} (h : ¬ s.toList = (⟨#[]⟩ : ByteArray).toList ∧ s.toList = t.toList) : porV s t = 50 := by
  unfold porV
  rw [if_pos ⟨emp_ne h.1, beq_iff_eq.2 h.2⟩]
theorem por_no {s t : ByteArray} (h : ¬ (¬ s.toList = (⟨#[]⟩ : ByteArray).toList ∧ s.toList = t.toList)) : porV s t = 0 := by
  unfold porV
  rw [if_neg]
  rintro ⟨h1, h2⟩
  refine h ⟨fun he => ?_, beq_iff_eq.1 h2⟩
  rw [emp_is he] at h1
  cases h1
theorem scoreF_ok {a b : Desc} (hv : validB a = true ∧ validB b = true) {x : Int} (hx : sco a b = x) : scoreF a b = if 0 > x then 0 else x := by
  unfold scoreF
  rw [hv.1, hv.2, hx]
  simp only [Bool.and_self, if_true]
  split <;> omega
def bas (a b : Desc) : Int := agr a.col b.col 100 (-50) + agr a.typ b.typ 100 (-100)
theorem C18 {a b : Desc} (ha : a.pat.size ≤ 1000000) (hb0 : b.pat.size ≤ 1000000) : Fn Try.prog 18 [] [.agg a.av, .agg b.av] [.v (.int .i64 (scoreF a b))] [] := by
  refine Spec.body Try.func18 rfl Try.ntmps18 (by simp) rfl ?_; intro S0 own0 v0 w0
  (refine AW.seq_k ?_; intro K hK)
  refine AW.region ?_
  refine awJ (OpJ.frzP (row := a.av) (op_box rfl rfl rfl sz30 rfl) (Desc.flat [a] _ (by simp))) ?_; (try simp only [nA, Nat.reduceBEq, Nat.reduceEqDiff, ↓reduceIte, Nat.reduceAdd, Nat.reduceSub])
  refine awJ (OpJ.frzP (row := b.av) (op_box rfl rfl rfl sz30 rfl) (Desc.flat [b] _ (by simp))) ?_; (try simp only [nA, Nat.reduceBEq, Nat.reduceEqDiff, ↓reduceIte, Nat.reduceAdd, Nat.reduceSub])
  refine awP (op_assign rfl rfl) ?_
  refine AWL.nil ?_
  (refine hK _ ?_; clear hK K; (try simp only [nA, Nat.reduceBEq, Nat.reduceEqDiff, ↓reduceIte, Nat.reduceAdd, Nat.reduceSub]))
  (refine AW.seq_k ?_; intro K hK)
  (refine AW.seq_k ?_; intro K hK)
  refine AW.region (AWL.quiet ?_)
  (first | refine aqR (op_load_ptr rfl rfl rfl rfl ag30 sz30 (Nat.le_of_ble_eq_true rfl) rfl) ?_ | refine aqR (op_load_rop rfl rfl ag30 sz30 (Nat.le_of_ble_eq_true rfl) (by decide) rfl) ?_)
  refine aqQ (op_callQ (b := true) rfl en16 (C16 (d := a) ha) (RL.cons (by first | exact View.same rfl | exact View.nil | exact View.rof | exact View.src .ro | exact View.src .rof | exact View.src (.sl rfl rfl) | exact View.ptr rfl rfl rfl) (RL.nil)) rfl) ?_; (try simp only [nA, Nat.reduceBEq, Nat.reduceEqDiff, ↓reduceIte, Nat.reduceAdd, Nat.reduceSub])
  refine aqP (op_not rfl rfl rfl) ?_
  refine aqP (op_move rfl rfl) ?_
  refine' aqOr' [_, _, _] [13,14,15] rfl rfl rfl rfl rfl rfl rfl rfl rfl rfl rfl rfl (fun hb => ?_) ?_; rotate_left
  ·
   (try simp only [hcS] at hb)
   (first | refine aqR (op_load_ptr rfl rfl rfl rfl ag30 sz30 (Nat.le_of_ble_eq_true rfl) rfl) ?_ | refine aqR (op_load_rop rfl rfl ag30 sz30 (Nat.le_of_ble_eq_true rfl) (by decide) rfl) ?_)
   refine aqQ (op_callQ (b := true) rfl en16 (C16 (d := b) hb0) (RL.cons (by first | exact View.same rfl | exact View.nil | exact View.rof | exact View.src .ro | exact View.src .rof | exact View.src (.sl rfl rfl) | exact View.ptr rfl rfl rfl) (RL.nil)) rfl) ?_; (try simp only [nA, Nat.reduceBEq, Nat.reduceEqDiff, ↓reduceIte, Nat.reduceAdd, Nat.reduceSub])
   refine aqP (op_not rfl rfl rfl) ?_
   (refine aqSeg rfl rfl rfl ?_; repeat (first | exact fun _ _ => rfl | refine upd_out rfl ?_ | refine era_out rfl ?_))
  (try simp only [nA, Nat.reduceBEq, Nat.reduceEqDiff, ↓reduceIte, Nat.reduceAdd, Nat.reduceSub])
  refine AQ.nil ?_
  (refine hK _ ?_; clear hK K; (try simp only [nA, Nat.reduceBEq, Nat.reduceEqDiff, ↓reduceIte, Nat.reduceAdd, Nat.reduceSub]))
  refine AW.cond rfl rfl rfl (fun hc => ?_) (fun hc => ?_)
  ·
   (try simp only [hcS] at hc); have hc1 := hc; skip
   (refine AW.seq_k ?_; intro K hK)
   refine AW.region ?_
   refine awP (op_assign rfl rfl) ?_
   refine AWL.nil ?_
   (refine hK _ ?_; clear hK K; (try simp only [nA, Nat.reduceBEq, Nat.reduceEqDiff, ↓reduceIte, Nat.reduceAdd, Nat.reduceSub]))
   skip
   refine AW.ret ?_; (try simp only [thenE, inBlk, Nat.reduceEqDiff, ↓reduceIte]); rw [show scoreF a b = 0 by unfold scoreF; rw [if_neg]; revert hc1; cases validB a <;> cases validB b <;> simp]; exact RQ.of0 rfl (.tmp (Nat.le_of_ble_eq_true rfl) rfl rfl .nil)
  ·
   (try simp only [hcS] at hc); have hc1 := hc; have hva : VP a := validB_iff.1 (by revert hc1; cases validB a <;> cases validB b <;> simp); have hvb : VP b := validB_iff.1 (by revert hc1; cases validB a <;> cases validB b <;> simp); have q1 := @agr_bd1 a.col b.col; have q2 := @agr_bd2 a.typ b.typ; have q3 := patS_bd (a := a.pat) (b := b.pat) 10; have q0 : -150 ≤ bas a b ∧ bas a b ≤ 200 := (by unfold bas; omega); have q4 := an_bd hva.fea hvb.fea; have q5 := xo_bd hva.fea hvb.fea
   refine AW.skip ?_
   (refine hK _ ?_; clear hK K; (try simp only [nA, Nat.reduceBEq, Nat.reduceEqDiff, ↓reduceIte, Nat.reduceAdd, Nat.reduceSub]))
   (refine AW.seq_k ?_; intro K hK)
   refine AW.quiet mix (by kernel_rfl) ?_
   (first | refine aqP (op_fa_ptr rfl rfl rfl fl30_1 (by exact sz3) (by decide) rfl) ?_ | refine aqP (op_fa_rop rfl rfl fl30_1 (by exact sz3) (by decide) (Nat.le_of_ble_eq_true rfl) rfl) ?_)
   (first | refine aqR (op_load_ptr1 rfl rfl rfl rfl ag3 rfl rfl) ?_ | refine aqR (op_load_rop1 rfl rfl ag3) ?_)
   (first | refine aqP (op_fa_ptr rfl rfl rfl fl30_1 (by exact sz3) (by decide) rfl) ?_ | refine aqP (op_fa_rop rfl rfl fl30_1 (by exact sz3) (by decide) (Nat.le_of_ble_eq_true rfl) rfl) ?_)
   (first | refine aqR (op_load_ptr1 rfl rfl rfl rfl ag3 rfl rfl) ?_ | refine aqR (op_load_rop1 rfl rfl ag3) ?_)
   refine aqQ (op_callQ (b := true) rfl en36 (C36) (RL.cons (by first | exact View.same rfl | exact View.nil | exact View.rof | exact View.src .ro | exact View.src .rof | exact View.src (.sl rfl rfl) | exact View.ptr rfl rfl rfl) (RL.cons (by first | exact View.same rfl | exact View.nil | exact View.rof | exact View.src .ro | exact View.src .rof | exact View.src (.sl rfl rfl) | exact View.ptr rfl rfl rfl) (RL.cons (by first | exact View.same rfl | exact View.nil | exact View.rof | exact View.src .ro | exact View.src .rof | exact View.src (.sl rfl rfl) | exact View.ptr rfl rfl rfl) (RL.cons (by first | exact View.same rfl | exact View.nil | exact View.rof | exact View.src .ro | exact View.src .rof | exact View.src (.sl rfl rfl) | exact View.ptr rfl rfl rfl) (RL.nil))))) rfl) ?_; (try simp only [nA, Nat.reduceBEq, Nat.reduceEqDiff, ↓reduceIte, Nat.reduceAdd, Nat.reduceSub])
   (first | refine aqP (op_fa_ptr rfl rfl rfl fl30_2 (by exact sz3) (by decide) rfl) ?_ | refine aqP (op_fa_rop rfl rfl fl30_2 (by exact sz3) (by decide) (Nat.le_of_ble_eq_true rfl) rfl) ?_)
   (first | refine aqR (op_load_ptr1 rfl rfl rfl rfl ag3 rfl rfl) ?_ | refine aqR (op_load_rop1 rfl rfl ag3) ?_)
   (first | refine aqP (op_fa_ptr rfl rfl rfl fl30_2 (by exact sz3) (by decide) rfl) ?_ | refine aqP (op_fa_rop rfl rfl fl30_2 (by exact sz3) (by decide) (Nat.le_of_ble_eq_true rfl) rfl) ?_)
   (first | refine aqR (op_load_ptr1 rfl rfl rfl rfl ag3 rfl rfl) ?_ | refine aqR (op_load_rop1 rfl rfl ag3) ?_)
   refine aqQ (op_callQ (b := true) rfl en36 (C36) (RL.cons (by first | exact View.same rfl | exact View.nil | exact View.rof | exact View.src .ro | exact View.src .rof | exact View.src (.sl rfl rfl) | exact View.ptr rfl rfl rfl) (RL.cons (by first | exact View.same rfl | exact View.nil | exact View.rof | exact View.src .ro | exact View.src .rof | exact View.src (.sl rfl rfl) | exact View.ptr rfl rfl rfl) (RL.cons (by first | exact View.same rfl | exact View.nil | exact View.rof | exact View.src .ro | exact View.src .rof | exact View.src (.sl rfl rfl) | exact View.ptr rfl rfl rfl) (RL.cons (by first | exact View.same rfl | exact View.nil | exact View.rof | exact View.src .ro | exact View.src .rof | exact View.src (.sl rfl rfl) | exact View.ptr rfl rfl rfl) (RL.nil))))) rfl) ?_; (try simp only [nA, Nat.reduceBEq, Nat.reduceEqDiff, ↓reduceIte, Nat.reduceAdd, Nat.reduceSub])
   (first | refine aqP (op_addi rfl rfl rfl (by omega)) ?_ | refine aqP (op_add rfl rfl rfl rfl) ?_)
   refine aqP (op_assign (x := .v (.int .i64 (bas a b))) rfl rfl) ?_
   refine AQ.nil ?_
   (refine hK _ ?_; clear hK K; (try simp only [nA, Nat.reduceBEq, Nat.reduceEqDiff, ↓reduceIte, Nat.reduceAdd, Nat.reduceSub]))
   refine AW.join (ι := Unit) (fun _ => [(2, .rop a.av), (3, .rop b.av), (5, .v (.int .i64 (bas a b + patV a.pat b.pat)))]) (fun _ => ⟨[], 1⟩) (fun _ => True) ?_ ?_
   ·
    (refine AW.seq_k ?_; intro K hK)
    refine AW.region (AWL.quiet ?_)
    (first | refine aqP (op_fa_ptr rfl rfl rfl fl30_0 (by exact sz9) (by decide) rfl) ?_ | refine aqP (op_fa_rop rfl rfl fl30_0 (by exact sz9) (by decide) (Nat.le_of_ble_eq_true rfl) rfl) ?_)
    (first | refine aqR (op_load_ptr1 rfl rfl rfl rfl ag9 rfl rfl) ?_ | refine aqR (op_load_rop1 rfl rfl ag9) ?_)
    (first | refine aqP (op_neq rfl rfl rfl) ?_ | refine aqP (op_sneq rfl rfl rfl) ?_)
    refine aqP (op_move rfl rfl) ?_
    refine' aqAnd' [_, _, _] [32,33,34] rfl rfl rfl rfl rfl rfl rfl rfl rfl rfl rfl rfl (fun hb => ?_) ?_; rotate_left
    ·
     (try simp only [hcS] at hb)
     (first | refine aqP (op_fa_ptr rfl rfl rfl fl30_0 (by exact sz9) (by decide) rfl) ?_ | refine aqP (op_fa_rop rfl rfl fl30_0 (by exact sz9) (by decide) (Nat.le_of_ble_eq_true rfl) rfl) ?_)
     (first | refine aqR (op_load_ptr1 rfl rfl rfl rfl ag9 rfl rfl) ?_ | refine aqR (op_load_rop1 rfl rfl ag9) ?_)
     (first | refine aqP (op_neq rfl rfl rfl) ?_ | refine aqP (op_sneq rfl rfl rfl) ?_)
     (refine aqSeg rfl rfl rfl ?_; repeat (first | exact fun _ _ => rfl | refine upd_out rfl ?_ | refine era_out rfl ?_))
    (try simp only [nA, Nat.reduceBEq, Nat.reduceEqDiff, ↓reduceIte, Nat.reduceAdd, Nat.reduceSub])
    refine AQ.nil ?_
    (refine hK _ ?_; clear hK K; (try simp only [nA, Nat.reduceBEq, Nat.reduceEqDiff, ↓reduceIte, Nat.reduceAdd, Nat.reduceSub]))
    refine AW.cond rfl rfl rfl (fun hc => ?_) (fun hc => ?_)
    ·
     (try simp only [hcS] at hc); have hc2 := hc; have hpa : emp a.pat = false := emp_ne hc2.1; have hpb : emp b.pat = false := emp_ne hc2.2; have hsa := pat_size hva hpa; have hsb := pat_size hvb hpb
     (refine AW.seq_k ?_; intro K hK)
     refine AW.region ?_
     refine awP (op_move rfl rfl) ?_
     refine AWL.nil ?_
     (refine hK _ ?_; clear hK K; (try simp only [nA, Nat.reduceBEq, Nat.reduceEqDiff, ↓reduceIte, Nat.reduceAdd, Nat.reduceSub]))
     refine AW.block ?_
     refine AW.loopI (fun i => [(2, .rop a.av), (3, .rop b.av), (5, .v (.int .i64 (bas a b + patS a.pat b.pat i))), (36, .v (.int .i64 (i : Nat)))]) (fun _ => ⟨[], 1⟩) (fun i => i ≤ 10) (fun i => 10 - i) 0 (by omega) ⟨rfl, rfl, (by show AV.v (.int .i64 (bas a b)) = _; rw [show patS a.pat b.pat 0 = 0 from rfl, Int.add_zero]), rfl, trivial⟩ rfl ?_; intro i ρ hi; simp only [updL]; (try simp only [nA, Nat.reduceBEq, Nat.reduceEqDiff, ↓reduceIte, Nat.reduceAdd, Nat.reduceSub]); have hpd := patS_bd (a := a.pat) (b := b.pat) i
     (refine AW.seq_k ?_; intro K hK)
     refine AW.region ?_
     refine awP (op_lss rfl rfl rfl) ?_
     refine AWL.nil ?_
     (refine hK _ ?_; clear hK K; (try simp only [nA, Nat.reduceBEq, Nat.reduceEqDiff, ↓reduceIte, Nat.reduceAdd, Nat.reduceSub]))
     (refine AW.seq_k ?_; intro K hK)
     refine AW.cond rfl rfl rfl (fun hc => ?_) (fun hc => ?_)
     ·
      (try simp only [hcS] at hc); have hc3 := hc; skip
      refine AW.skip ?_
      (refine hK _ ?_; clear hK K; (try simp only [nA, Nat.reduceBEq, Nat.reduceEqDiff, ↓reduceIte, Nat.reduceAdd, Nat.reduceSub]))
      (refine AW.seq_k ?_; intro K hK)
      refine AW.block ?_
      (refine AW.seq_k ?_; intro K hK)
      refine AW.region ?_
      refine awP (op_move rfl rfl) ?_
      refine awP (op_assign rfl rfl) ?_
      refine AWL.nil ?_
      (refine hK _ ?_; clear hK K; (try simp only [nA, Nat.reduceBEq, Nat.reduceEqDiff, ↓reduceIte, Nat.reduceAdd, Nat.reduceSub]))
      (refine AW.seq_k ?_; intro K hK)
      refine AW.quiet mix (by kernel_rfl) ?_
      (first | refine aqP (op_fa_ptr rfl rfl rfl fl30_0 (by exact sz9) (by decide) rfl) ?_ | refine aqP (op_fa_rop rfl rfl fl30_0 (by exact sz9) (by decide) (Nat.le_of_ble_eq_true rfl) rfl) ?_)
      (first | refine aqR (op_load_ptr1 rfl rfl rfl rfl ag9 rfl rfl) ?_ | refine aqR (op_load_rop1 rfl rfl ag9) ?_)
      refine aqP (op_move rfl rfl) ?_
      refine aqP (op_ix_str _ rfl rfl rfl Try.underlying9 rfl (get_chr (by omega))) ?_
      (first | refine aqP (op_fa_ptr rfl rfl rfl fl30_0 (by exact sz9) (by decide) rfl) ?_ | refine aqP (op_fa_rop rfl rfl fl30_0 (by exact sz9) (by decide) (Nat.le_of_ble_eq_true rfl) rfl) ?_)
      (first | refine aqR (op_load_ptr1 rfl rfl rfl rfl ag9 rfl rfl) ?_ | refine aqR (op_load_rop1 rfl rfl ag9) ?_)
      refine aqP (op_move rfl rfl) ?_
      refine aqP (op_ix_str _ rfl rfl rfl Try.underlying9 rfl (get_chr (by omega))) ?_
      refine aqP (op_assign rfl rfl) ?_
      refine aqP (op_assign rfl rfl) ?_
      refine AQ.nil ?_
      (refine hK _ ?_; clear hK K; (try simp only [nA, Nat.reduceBEq, Nat.reduceEqDiff, ↓reduceIte, Nat.reduceAdd, Nat.reduceSub]))
      refine AW.block ?_
      (refine AW.seq_k ?_; intro K hK)
      refine AW.region (AWL.quiet ?_)
      refine aqP (op_move rfl rfl) ?_
      (first | refine aqP (op_eql rfl rfl rfl) ?_ | refine aqP (op_seql rfl rfl rfl) ?_)
      refine aqP (op_move rfl rfl) ?_
      refine' aqOr' [_, _] [53,54] rfl rfl rfl rfl rfl rfl rfl rfl rfl rfl rfl rfl (fun hb => ?_) ?_; rotate_left
      ·
       (try simp only [hcS] at hb)
       refine aqP (op_move rfl rfl) ?_
       (first | refine aqP (op_eql rfl rfl rfl) ?_ | refine aqP (op_seql rfl rfl rfl) ?_)
       (refine aqSeg rfl rfl rfl ?_; repeat (first | exact fun _ _ => rfl | refine upd_out rfl ?_ | refine era_out rfl ?_))
      (try simp only [nA, Nat.reduceBEq, Nat.reduceEqDiff, ↓reduceIte, Nat.reduceAdd, Nat.reduceSub])
      refine aqP (op_assign rfl rfl) ?_
      refine AQ.nil ?_
      (refine hK _ ?_; clear hK K; (try simp only [nA, Nat.reduceBEq, Nat.reduceEqDiff, ↓reduceIte, Nat.reduceAdd, Nat.reduceSub]))
      refine AW.cond rfl rfl rfl (fun hc => ?_) (fun hc => ?_)
      ·
       (try simp only [hcS] at hc); have hc4 := hc; skip
       refine AW.skip ?_
       (try simp only [thenE, inBlk, Nat.reduceEqDiff, ↓reduceIte])
       (try simp only [thenE, inBlk, Nat.reduceEqDiff, ↓reduceIte])
       (refine hK _ ?_; clear hK K; (try simp only [nA, Nat.reduceBEq, Nat.reduceEqDiff, ↓reduceIte, Nat.reduceAdd, Nat.reduceSub]))
       refine AW.region ?_
       (first | refine awP (op_addi rfl rfl rfl (by omega)) ?_ | refine awP (op_add rfl rfl rfl rfl) ?_)
       refine awP (op_move rfl rfl) ?_
       skip
       refine AWL.nil ?_
       refine ⟨i + 1, (by omega), (by omega), ⟨rfl, rfl, (by show AV.v (.int .i64 (bas a b + patS a.pat b.pat i)) = _; rw [patS_succ, show dig (chr a.pat i) (chr b.pat i) = 0 by unfold dig; rw [if_pos (by omega)], Int.add_zero]), rfl, trivial⟩, (by first | rfl | trivial), (by first | rfl | trivial)⟩
      ·
       (try simp only [hcS] at hc); have hc4 := hc; skip
       (refine AW.seq_k ?_; intro K hK)
       refine AW.region ?_
       refine awP (op_move rfl rfl) ?_
       refine awP (op_move rfl rfl) ?_
       (first | refine awP (op_eql rfl rfl rfl) ?_ | refine awP (op_seql rfl rfl rfl) ?_)
       refine awP (op_assign rfl rfl) ?_
       refine AWL.nil ?_
       (refine hK _ ?_; clear hK K; (try simp only [nA, Nat.reduceBEq, Nat.reduceEqDiff, ↓reduceIte, Nat.reduceAdd, Nat.reduceSub]))
       refine AW.cond rfl rfl rfl (fun hc => ?_) (fun hc => ?_)
       ·
        (try simp only [hcS] at hc); have hc5 := hc; skip
        refine AW.region ?_
        refine awP (op_move rfl rfl) ?_
        (first | refine awP (op_addi rfl rfl rfl (by omega)) ?_ | refine awP (op_add rfl rfl rfl rfl) ?_)
        refine awP (op_assign rfl rfl) ?_
        refine AWL.nil ?_
        (try simp only [thenE, inBlk, Nat.reduceEqDiff, ↓reduceIte])
        (try simp only [thenE, inBlk, Nat.reduceEqDiff, ↓reduceIte])
        (refine hK _ ?_; clear hK K; (try simp only [nA, Nat.reduceBEq, Nat.reduceEqDiff, ↓reduceIte, Nat.reduceAdd, Nat.reduceSub]))
        refine AW.region ?_
        (first | refine awP (op_addi rfl rfl rfl (by omega)) ?_ | refine awP (op_add rfl rfl rfl rfl) ?_)
        refine awP (op_move rfl rfl) ?_
        skip
        refine AWL.nil ?_
        refine ⟨i + 1, (by omega), (by omega), ⟨rfl, rfl, (by show AV.v (.int .i64 (bas a b + patS a.pat b.pat i + 40)) = _; rw [patS_succ, show dig (chr a.pat i) (chr b.pat i) = 40 by unfold dig; rw [if_neg (by omega), if_pos (by omega)], Int.add_assoc]), rfl, trivial⟩, (by first | rfl | trivial), (by first | rfl | trivial)⟩
       ·
        (try simp only [hcS] at hc); have hc5 := hc; skip
        refine AW.region ?_
        refine awP (op_move rfl rfl) ?_
        (first | refine awP (op_subi rfl rfl rfl (by omega)) ?_ | refine awP (op_sub rfl rfl rfl rfl) ?_)
        refine awP (op_assign rfl rfl) ?_
        refine AWL.nil ?_
        (try simp only [thenE, inBlk, Nat.reduceEqDiff, ↓reduceIte])
        (try simp only [thenE, inBlk, Nat.reduceEqDiff, ↓reduceIte])
        (refine hK _ ?_; clear hK K; (try simp only [nA, Nat.reduceBEq, Nat.reduceEqDiff, ↓reduceIte, Nat.reduceAdd, Nat.reduceSub]))
        refine AW.region ?_
        (first | refine awP (op_addi rfl rfl rfl (by omega)) ?_ | refine awP (op_add rfl rfl rfl rfl) ?_)
        refine awP (op_move rfl rfl) ?_
        skip
        refine AWL.nil ?_
        refine ⟨i + 1, (by omega), (by omega), ⟨rfl, rfl, (by show AV.v (.int .i64 (bas a b + patS a.pat b.pat i - 60)) = _; rw [patS_succ, show dig (chr a.pat i) (chr b.pat i) = -60 by unfold dig; rw [if_neg (by omega), if_neg (by omega)], ← Int.add_assoc]; rfl), rfl, trivial⟩, (by first | rfl | trivial), (by first | rfl | trivial)⟩
     ·
      (try simp only [hcS] at hc); have hc3 := hc; skip
      refine AW.exit ?_; (try simp only [thenE, inBlk, Nat.reduceEqDiff, ↓reduceIte])
      clear hK K
      obtain rfl : i = 10 := (by omega); refine ⟨(), trivial, ⟨rfl, rfl, (by show AV.v (.int .i64 (bas a b + patS a.pat b.pat 10)) = _; rw [show patV a.pat b.pat = patS a.pat b.pat 10 by unfold patV; rw [hpa, hpb, if_neg (by simp)]]), trivial⟩, (by first | rfl | trivial), (by first | rfl | trivial)⟩
    ·
     (try simp only [hcS] at hc); have hc2 := hc; skip
     refine AW.skip ?_
     refine ⟨(), trivial, ⟨rfl, rfl, (by show AV.v (.int .i64 (bas a b)) = _; rw [show patV a.pat b.pat = 0 by unfold patV; rw [if_pos (emp_or hc2)], Int.add_zero]), trivial⟩, (by first | rfl | trivial), (by first | rfl | trivial)⟩
   have q6 : -600 ≤ patV a.pat b.pat ∧ patV a.pat b.pat ≤ 400 := (by unfold patV; split <;> omega); intro _ ρ _; simp only [updL]; (try simp only [nA, Nat.reduceBEq, Nat.reduceEqDiff, ↓reduceIte, Nat.reduceAdd, Nat.reduceSub])
   (refine AW.seq_k ?_; intro K hK)
   refine AW.quiet mix (by kernel_rfl) ?_
   refine aqP (op_move rfl rfl) ?_
   (first | refine aqP (op_fa_ptr rfl rfl rfl fl30_3 (by exact sz3) (by decide) rfl) ?_ | refine aqP (op_fa_rop rfl rfl fl30_3 (by exact sz3) (by decide) (Nat.le_of_ble_eq_true rfl) rfl) ?_)
   (first | refine aqR (op_load_ptr1 rfl rfl rfl rfl ag3 rfl rfl) ?_ | refine aqR (op_load_rop1 rfl rfl ag3) ?_)
   (first | refine aqP (op_fa_ptr rfl rfl rfl fl30_3 (by exact sz3) (by decide) rfl) ?_ | refine aqP (op_fa_rop rfl rfl fl30_3 (by exact sz3) (by decide) (Nat.le_of_ble_eq_true rfl) rfl) ?_)
   (first | refine aqR (op_load_ptr1 rfl rfl rfl rfl ag3 rfl rfl) ?_ | refine aqR (op_load_rop1 rfl rfl ag3) ?_)
   refine aqP (op_and rfl rfl rfl rfl) ?_
   refine aqP (op_conv (m := anF a.fea b.fea) rfl rfl Try.underlying3 Try.underlying66 rfl) ?_
   refine aqQ (op_callQ (b := true) rfl en37 (C37) (RL.cons (by first | exact View.same rfl | exact View.nil | exact View.rof | exact View.src .ro | exact View.src .rof | exact View.src (.sl rfl rfl) | exact View.ptr rfl rfl rfl) (RL.nil)) rfl) ?_; (try simp only [nA, Nat.reduceBEq, Nat.reduceEqDiff, ↓reduceIte, Nat.reduceAdd, Nat.reduceSub])
   (first | refine aqP (op_muli rfl rfl rfl (by omega)) ?_ | refine aqP (op_mul rfl rfl rfl rfl) ?_)
   (first | refine aqP (op_fa_ptr rfl rfl rfl fl30_3 (by exact sz3) (by decide) rfl) ?_ | refine aqP (op_fa_rop rfl rfl fl30_3 (by exact sz3) (by decide) (Nat.le_of_ble_eq_true rfl) rfl) ?_)
   (first | refine aqR (op_load_ptr1 rfl rfl rfl rfl ag3 rfl rfl) ?_ | refine aqR (op_load_rop1 rfl rfl ag3) ?_)
   (first | refine aqP (op_fa_ptr rfl rfl rfl fl30_3 (by exact sz3) (by decide) rfl) ?_ | refine aqP (op_fa_rop rfl rfl fl30_3 (by exact sz3) (by decide) (Nat.le_of_ble_eq_true rfl) rfl) ?_)
   (first | refine aqR (op_load_ptr1 rfl rfl rfl rfl ag3 rfl rfl) ?_ | refine aqR (op_load_rop1 rfl rfl ag3) ?_)
   refine aqP (op_xor rfl rfl rfl rfl) ?_
   refine aqP (op_conv (m := xoF a.fea b.fea) rfl rfl Try.underlying3 Try.underlying66 rfl) ?_
   refine aqQ (op_callQ (b := true) rfl en37 (C37) (RL.cons (by first | exact View.same rfl | exact View.nil | exact View.rof | exact View.src .ro | exact View.src .rof | exact View.src (.sl rfl rfl) | exact View.ptr rfl rfl rfl) (RL.nil)) rfl) ?_; (try simp only [nA, Nat.reduceBEq, Nat.reduceEqDiff, ↓reduceIte, Nat.reduceAdd, Nat.reduceSub])
   (first | refine aqP (op_muli rfl rfl rfl (by omega)) ?_ | refine aqP (op_mul rfl rfl rfl rfl) ?_)
   (first | refine aqP (op_subi rfl rfl rfl (by omega)) ?_ | refine aqP (op_sub rfl rfl rfl rfl) ?_)
   (first | refine aqP (op_addi rfl rfl rfl (by omega)) ?_ | refine aqP (op_add rfl rfl rfl rfl) ?_)
   refine aqP (op_assign rfl rfl) ?_
   refine AQ.nil ?_
   (refine hK _ ?_; clear hK K; (try simp only [nA, Nat.reduceBEq, Nat.reduceEqDiff, ↓reduceIte, Nat.reduceAdd, Nat.reduceSub]))
   (refine AW.seq_k ?_; intro K hK)
   (refine AW.seq_k ?_; intro K hK)
   refine AW.region (AWL.quiet ?_)
   (first | refine aqP (op_fa_ptr rfl rfl rfl fl30_4 (by exact sz9) (by decide) rfl) ?_ | refine aqP (op_fa_rop rfl rfl fl30_4 (by exact sz9) (by decide) (Nat.le_of_ble_eq_true rfl) rfl) ?_)
   (first | refine aqR (op_load_ptr1 rfl rfl rfl rfl ag9 rfl rfl) ?_ | refine aqR (op_load_rop1 rfl rfl ag9) ?_)
   (first | refine aqP (op_neq rfl rfl rfl) ?_ | refine aqP (op_sneq rfl rfl rfl) ?_)
   refine aqP (op_move rfl rfl) ?_
   refine' aqAnd' [_, _, _, _, _] [86,87,88,89,90] rfl rfl rfl rfl rfl rfl rfl rfl rfl rfl rfl rfl (fun hb => ?_) ?_; rotate_left
   ·
    (try simp only [hcS] at hb)
    (first | refine aqP (op_fa_ptr rfl rfl rfl fl30_4 (by exact sz9) (by decide) rfl) ?_ | refine aqP (op_fa_rop rfl rfl fl30_4 (by exact sz9) (by decide) (Nat.le_of_ble_eq_true rfl) rfl) ?_)
    (first | refine aqR (op_load_ptr1 rfl rfl rfl rfl ag9 rfl rfl) ?_ | refine aqR (op_load_rop1 rfl rfl ag9) ?_)
    (first | refine aqP (op_fa_ptr rfl rfl rfl fl30_4 (by exact sz9) (by decide) rfl) ?_ | refine aqP (op_fa_rop rfl rfl fl30_4 (by exact sz9) (by decide) (Nat.le_of_ble_eq_true rfl) rfl) ?_)
    (first | refine aqR (op_load_ptr1 rfl rfl rfl rfl ag9 rfl rfl) ?_ | refine aqR (op_load_rop1 rfl rfl ag9) ?_)
    (first | refine aqP (op_eql rfl rfl rfl) ?_ | refine aqP (op_seql rfl rfl rfl) ?_)
    (refine aqSeg rfl rfl rfl ?_; repeat (first | exact fun _ _ => rfl | refine upd_out rfl ?_ | refine era_out rfl ?_))
   (try simp only [nA, Nat.reduceBEq, Nat.reduceEqDiff, ↓reduceIte, Nat.reduceAdd, Nat.reduceSub])
   refine AQ.nil ?_
   (refine hK _ ?_; clear hK K; (try simp only [nA, Nat.reduceBEq, Nat.reduceEqDiff, ↓reduceIte, Nat.reduceAdd, Nat.reduceSub]))
   refine AW.cond rfl rfl rfl (fun hc => ?_) (fun hc => ?_)
   ·
    (try simp only [hcS] at hc); have hc6 := hc; skip
    refine AW.region ?_
    refine awP (op_move rfl rfl) ?_
    (first | refine awP (op_addi rfl rfl rfl (by omega)) ?_ | refine awP (op_add rfl rfl rfl rfl) ?_)
    refine awP (op_assign rfl rfl) ?_
    refine AWL.nil ?_
    (refine hK _ ?_; clear hK K; (try simp only [nA, Nat.reduceBEq, Nat.reduceEqDiff, ↓reduceIte, Nat.reduceAdd, Nat.reduceSub]))
    (refine AW.seq_k ?_; intro K hK)
    refine AW.region ?_
    refine awP (op_move rfl rfl) ?_
    refine awP (op_max rfl rfl rfl rfl) ?_
    refine awP (op_assign rfl rfl) ?_
    refine AWL.nil ?_
    (refine hK _ ?_; clear hK K; (try simp only [nA, Nat.reduceBEq, Nat.reduceEqDiff, ↓reduceIte, Nat.reduceAdd, Nat.reduceSub]))
    skip
    refine AW.ret ?_; (try simp only [thenE, inBlk, Nat.reduceEqDiff, ↓reduceIte]); rw [scoreF_ok hc1 (x := bas a b + patV a.pat b.pat + (30 * pbF (anF a.fea b.fea) - 20 * pbF (xoF a.fea b.fea)) + 50) (by have hf := fea_eq hva.fea hvb.fea; have hp := por_yes hc6; unfold sco bas; omega)]; exact RQ.of0 rfl (.tmp (Nat.le_of_ble_eq_true rfl) rfl rfl .nil)
   ·
    (try simp only [hcS] at hc); have hc6 := hc; skip
    refine AW.skip ?_
    (refine hK _ ?_; clear hK K; (try simp only [nA, Nat.reduceBEq, Nat.reduceEqDiff, ↓reduceIte, Nat.reduceAdd, Nat.reduceSub]))
    (refine AW.seq_k ?_; intro K hK)
    refine AW.region ?_
    refine awP (op_move rfl rfl) ?_
    refine awP (op_max rfl rfl rfl rfl) ?_
    refine awP (op_assign rfl rfl) ?_
    refine AWL.nil ?_
    (refine hK _ ?_; clear hK K; (try simp only [nA, Nat.reduceBEq, Nat.reduceEqDiff, ↓reduceIte, Nat.reduceAdd, Nat.reduceSub]))
    skip
    refine AW.ret ?_; (try simp only [thenE, inBlk, Nat.reduceEqDiff, ↓reduceIte]); rw [scoreF_ok hc1 (x := bas a b + patV a.pat b.pat + (30 * pbF (anF a.fea b.fea) - 20 * pbF (xoF a.fea b.fea))) (by have hf := fea_eq hva.fea hvb.fea; have hp := por_no (s := a.port) (t := b.port) (fun h' => hc6.elim (fun h1 => h'.1 h1) (fun h1 => h1 h'.2)); unfold sco bas; omega)]; exact RQ.of0 rfl (.tmp (Nat.le_of_ble_eq_true rfl) rfl rfl .nil)
end Go.Proofs.Ytjgbbffcjbmjmaa
