import Derived.Test.YtngfknoddphhaaaLj
import Derived.Test.YtngfknoddphhaaaAbD
namespace Go.Proofs.Ytngfknoddphhaaa
open Go.RowKit
set_option linter.unusedSimpArgs false
set_option linter.unusedVariables false

theorem pl26 : plIs Try.prog 26 [(0, 1), (1, 1), (2, 1), (3, 1)] := ⟨_, Try.underlying26, by kernel_rfl⟩
theorem pl29 : plIs Try.prog 29 [(0, 1), (1, 4), (5, 1), (6, 1), (7, 1), (8, 1), (9, 1), (10, 1)] := ⟨_, Try.underlying29, by kernel_rfl⟩
theorem pl33 : plIs Try.prog 33 [(0, 1), (1, 1), (2, 1)] := ⟨_, Try.underlying33, by kernel_rfl⟩
theorem pl36 : plIs Try.prog 36 [(0, 3), (3, 1), (4, 1)] := ⟨_, Try.underlying36, by kernel_rfl⟩
theorem pl64 : plIs Try.prog 64 [(0, 1), (1, 1)] := ⟨_, Try.underlying64, by kernel_rfl⟩
theorem pl80 : plIs Try.prog 80 [(0, 4), (4, 1)] := ⟨_, Try.underlying80, by kernel_rfl⟩
abbrev zeroC : Container := ⟨0, ⟨⟨#[]⟩, 0, ⟨#[]⟩, 0⟩, 0, 0, 0, 0, 0, []⟩
theorem zero_le : RL Le1 ([[AV.v (.int .i64 0), .v (.string ⟨#[]⟩), .v (.int .i64 0), .v (.string ⟨#[]⟩), .v (.int .i64 0), .v (.int .i64 0), .v (.int .i64 0), .v (.int .i64 0), .v (.int .i64 0), .v (.int .i64 0), .v (.slice none 0 0)]] : List (List AV)).flatten [zeroC.av].flatten := by
  refine ⟨rfl, fun i u x hu hx => ?_⟩
  rcases i with _ | _ | _ | _ | _ | _ | _ | _ | _ | _ | _ | i <;> simp at hu hx <;> subst hu <;> subst hx <;> first | exact .same | exact .nil
def fullB (c : Container) (p : Piece) : Bool := decide ((c.pieces.length : Int) ≥ c.most) || decide (sumW c.pieces + p.weight > c.limit)
def insC (c : Container) (p : Piece) : Container := { c with pieces := c.pieces.take (posP c.pieces p.plate) ++ p :: c.pieces.drop (posP c.pieces p.plate) }
def putC (c : Container) (p : Piece) (lim : Bool) : Container × Int :=
  if valC c ≠ 0 then (zeroC, valC c) else if piB p = false then (zeroC, 1) else if foundP c.pieces p.plate = true then (zeroC, 5)
  else if (lim && !bitB c.categories p.category) = true then (zeroC, 4) else if (lim && fullB c p) = true then (zeroC, 8)
  else if (c.pieces.length : Int) ≥ 60 then (zeroC, 2) else (insC c p, 0)
theorem C44 {c : Container} {p : Piece} {lim : Bool} : Fn Try.prog 44 [] [.agg c.av, .agg p.av, .v (.bool lim)] [.agg (putC c p lim).1.av, .v (.int .i64 (putC c p lim).2)] [] := by
  refine Spec.body Try.func44 rfl Try.ntmps44 (by simp) rfl ?_; intro S0 own0 v0 w0
  (refine AW.seq_k ?_; intro K hK)
  refine AW.region ?_
  refine awJ (op_box rfl rfl rfl sz29 rfl) ?_; (try simp only [evS, lcS, nzR, nzA, nzL, Nat.reduceBEq, Nat.reduceEqDiff, ↓reduceIte, Nat.reduceAdd, Nat.reduceSub])
  refine awJ (op_box rfl rfl rfl sz36 rfl) ?_; (try simp only [evS, lcS, nzR, nzA, nzL, Nat.reduceBEq, Nat.reduceEqDiff, ↓reduceIte, Nat.reduceAdd, Nat.reduceSub])
  refine awJ (op_alloc rfl ze29 rfl) ?_; (try simp only [evS, lcS, nzR, nzA, nzL, Nat.reduceBEq, Nat.reduceEqDiff, ↓reduceIte, Nat.reduceAdd, Nat.reduceSub])
  refine awP (op_assign rfl rfl) ?_
  refine AWL.nil ?_
  (refine hK _ ?_; clear hK K; (try simp only [evS, lcS, nzR, nzA, nzL, Nat.reduceBEq, Nat.reduceEqDiff, ↓reduceIte, Nat.reduceAdd, Nat.reduceSub]))
  (refine AW.seq_k ?_; intro K hK)
  (refine AW.seq_k ?_; intro K hK)
  refine AW.region ?_
  (first | refine awR (op_load_ptr rfl rfl rfl rfl ag29 sz29 (Nat.le_of_ble_eq_true rfl) rfl) ?_ | refine awR (op_load_rop rfl rfl ag29 sz29 (Nat.le_of_ble_eq_true rfl) (by decide) rfl) ?_)
  refine awJ (OpQ.j (op_callQ (b := true) rfl en31 (C31) (RL.cons (by first | exact View.same rfl | exact View.nil | exact View.rof | exact View.src .ro | exact View.src .rof | exact View.src (.sl rfl rfl) | exact View.ptr rfl rfl rfl) (RL.nil)) rfl)) ?_; (try simp only [evS, lcS, nzR, nzA, nzL, Nat.reduceBEq, Nat.reduceEqDiff, ↓reduceIte, Nat.reduceAdd, Nat.reduceSub])
  refine awP (op_assign rfl rfl) ?_
  refine AWL.nil ?_
  (refine hK _ ?_; clear hK K; (try simp only [evS, lcS, nzR, nzA, nzL, Nat.reduceBEq, Nat.reduceEqDiff, ↓reduceIte, Nat.reduceAdd, Nat.reduceSub]))
  (refine AW.seq_k ?_; intro K hK)
  refine AW.region ?_
  refine awP (op_move rfl rfl) ?_
  (first | refine awP (op_neq rfl rfl rfl) ?_ | refine awP (op_sneq rfl rfl rfl) ?_)
  refine AWL.nil ?_
  (refine hK _ ?_; clear hK K; (try simp only [evS, lcS, nzR, nzA, nzL, Nat.reduceBEq, Nat.reduceEqDiff, ↓reduceIte, Nat.reduceAdd, Nat.reduceSub]))
  refine AW.cond rfl rfl rfl (fun hc => ?_) (fun hc => ?_)   -- cond 1
  · -- true
    (try simp only [Bool.and_eq_true, Bool.or_eq_true, Bool.or_eq_false_iff, Bool.and_eq_false_iff, decide_eq_true_eq, decide_eq_false_iff_not, Int.not_le, Int.not_lt, ge_iff_le, gt_iff_lt, Bool.not_eq_true', Bool.not_eq_false', bne_iff_ne, beq_iff_eq, bne_eq_false_iff_eq, beq_eq_false_iff_ne, ne_eq] at hc); have hc1 := hc; skip
    (refine AW.seq_k ?_; intro K hK)
    refine AW.region ?_
    refine awP (op_build2 (xs := [.v (.int .i64 0), .v (.string ⟨#[]⟩), .v (.int .i64 0), .v (.string ⟨#[]⟩), .v (.int .i64 0), .v (.int .i64 0), .v (.int .i64 0), .v (.int .i64 0), .v (.int .i64 0), .v (.int .i64 0), .v (.slice none 0 0)]) rfl pl29 ze29 [] rfl rfl rfl) ?_
    refine awP (op_move rfl rfl) ?_
    refine awJ (op_store rfl rfl rfl rfl rfl rfl sz29 rfl (Nat.le_of_ble_eq_true rfl) rfl) ?_; (try simp only [evS, lcS, nzR, nzA, nzL, Nat.reduceBEq, Nat.reduceEqDiff, ↓reduceIte, Nat.reduceAdd, Nat.reduceSub])
    refine awP (op_assign rfl rfl) ?_
    refine AWL.nil ?_
    (refine hK _ ?_; clear hK K; (try simp only [evS, lcS, nzR, nzA, nzL, Nat.reduceBEq, Nat.reduceEqDiff, ↓reduceIte, Nat.reduceAdd, Nat.reduceSub]))
    refine AW.gh (Gh.slot (r := 2) (es' := [zeroC.av]) rfl rfl zero_le) ?_; (try simp only [evS, lcS, nzR, nzA, nzL, Nat.reduceBEq, Nat.reduceEqDiff, ↓reduceIte, Nat.reduceAdd, Nat.reduceSub])
    refine AW.ret ?_; (try simp only [thenE, inBlk, Nat.reduceEqDiff, ↓reduceIte]); have he : putC c p lim = (zeroC, valC c) := (by unfold putC; rw [if_pos (by simpa using hc)]); rw [he]; exact RQ.of0 rfl (.cell (Nat.le_of_ble_eq_true rfl) rfl rfl rfl ag29 sz29 (Nat.le_of_ble_eq_true rfl) rfl rfl (.tmp (Nat.le_of_ble_eq_true rfl) rfl rfl .nil))
  · -- false
    (try simp only [Bool.and_eq_true, Bool.or_eq_true, Bool.or_eq_false_iff, Bool.and_eq_false_iff, decide_eq_true_eq, decide_eq_false_iff_not, Int.not_le, Int.not_lt, ge_iff_le, gt_iff_lt, Bool.not_eq_true', Bool.not_eq_false', bne_iff_ne, beq_iff_eq, bne_eq_false_iff_eq, beq_eq_false_iff_ne, ne_eq] at hc); have hc1 := hc; have hv := val_inv (c := c) (by simpa using hc1); have hvw := val_w (c := c) (by simpa using hc1); have hsb := sum_bd _ hvw
    refine AW.skip ?_
    (refine hK _ ?_; clear hK K; (try simp only [evS, lcS, nzR, nzA, nzL, Nat.reduceBEq, Nat.reduceEqDiff, ↓reduceIte, Nat.reduceAdd, Nat.reduceSub]))
    (refine AW.seq_k ?_; intro K hK)
    (refine AW.seq_k ?_; intro K hK)
    refine AW.region ?_
    (first | refine awR (op_load_ptr rfl rfl rfl rfl ag36 sz36 (Nat.le_of_ble_eq_true rfl) rfl) ?_ | refine awR (op_load_rop rfl rfl ag36 sz36 (Nat.le_of_ble_eq_true rfl) (by decide) rfl) ?_)
    refine awJ (OpQ.j (op_callQ (b := true) rfl en55 (C55) (RL.cons (by first | exact View.same rfl | exact View.nil | exact View.rof | exact View.src .ro | exact View.src .rof | exact View.src (.sl rfl rfl) | exact View.ptr rfl rfl rfl) (RL.nil)) rfl)) ?_; (try simp only [evS, lcS, nzR, nzA, nzL, Nat.reduceBEq, Nat.reduceEqDiff, ↓reduceIte, Nat.reduceAdd, Nat.reduceSub])
    refine awP (op_not rfl rfl rfl) ?_
    refine AWL.nil ?_
    (refine hK _ ?_; clear hK K; (try simp only [evS, lcS, nzR, nzA, nzL, Nat.reduceBEq, Nat.reduceEqDiff, ↓reduceIte, Nat.reduceAdd, Nat.reduceSub]))
    refine AW.cond rfl rfl rfl (fun hc => ?_) (fun hc => ?_)   -- cond 2
    · -- true
      (try simp only [Bool.and_eq_true, Bool.or_eq_true, Bool.or_eq_false_iff, Bool.and_eq_false_iff, decide_eq_true_eq, decide_eq_false_iff_not, Int.not_le, Int.not_lt, ge_iff_le, gt_iff_lt, Bool.not_eq_true', Bool.not_eq_false', bne_iff_ne, beq_iff_eq, bne_eq_false_iff_eq, beq_eq_false_iff_ne, ne_eq] at hc); have hc2 := hc; skip
      (refine AW.seq_k ?_; intro K hK)
      refine AW.region ?_
      refine awP (op_build2 (xs := [.v (.int .i64 0), .v (.string ⟨#[]⟩), .v (.int .i64 0), .v (.string ⟨#[]⟩), .v (.int .i64 0), .v (.int .i64 0), .v (.int .i64 0), .v (.int .i64 0), .v (.int .i64 0), .v (.int .i64 0), .v (.slice none 0 0)]) rfl pl29 ze29 [] rfl rfl rfl) ?_
      refine awJ (op_store rfl rfl rfl rfl rfl rfl sz29 rfl (Nat.le_of_ble_eq_true rfl) rfl) ?_; (try simp only [evS, lcS, nzR, nzA, nzL, Nat.reduceBEq, Nat.reduceEqDiff, ↓reduceIte, Nat.reduceAdd, Nat.reduceSub])
      refine awP (op_assign rfl rfl) ?_
      refine AWL.nil ?_
      (refine hK _ ?_; clear hK K; (try simp only [evS, lcS, nzR, nzA, nzL, Nat.reduceBEq, Nat.reduceEqDiff, ↓reduceIte, Nat.reduceAdd, Nat.reduceSub]))
      refine AW.gh (Gh.slot (r := 2) (es' := [zeroC.av]) rfl rfl zero_le) ?_; (try simp only [evS, lcS, nzR, nzA, nzL, Nat.reduceBEq, Nat.reduceEqDiff, ↓reduceIte, Nat.reduceAdd, Nat.reduceSub])
      refine AW.ret ?_; (try simp only [thenE, inBlk, Nat.reduceEqDiff, ↓reduceIte]); have he : putC c p lim = (zeroC, 1) := (by unfold putC; rw [if_neg (by simpa using hc1), if_pos (by simpa using hc)]); rw [he]; exact RQ.of0 rfl (.cell (Nat.le_of_ble_eq_true rfl) rfl rfl rfl ag29 sz29 (Nat.le_of_ble_eq_true rfl) rfl rfl (.tmp (Nat.le_of_ble_eq_true rfl) rfl rfl .nil))
    · -- false
      (try simp only [Bool.and_eq_true, Bool.or_eq_true, Bool.or_eq_false_iff, Bool.and_eq_false_iff, decide_eq_true_eq, decide_eq_false_iff_not, Int.not_le, Int.not_lt, ge_iff_le, gt_iff_lt, Bool.not_eq_true', Bool.not_eq_false', bne_iff_ne, beq_iff_eq, bne_eq_false_iff_eq, beq_eq_false_iff_ne, ne_eq] at hc); have hc2 := hc; have hpi := piB_inv (p := p) (by simpa using hc2)
      refine AW.skip ?_
      (refine hK _ ?_; clear hK K; (try simp only [evS, lcS, nzR, nzA, nzL, Nat.reduceBEq, Nat.reduceEqDiff, ↓reduceIte, Nat.reduceAdd, Nat.reduceSub]))
      (refine AW.seq_k ?_; intro K hK)
      refine AW.region ?_
      (first | refine awP (op_fa_ptr rfl rfl rfl fl29_7 (by exact sz27) (by decide) rfl) ?_ | refine awP (op_fa_rop rfl rfl fl29_7 (by exact sz27) (by decide) (Nat.le_of_ble_eq_true rfl) rfl) ?_)
      (first | refine awR (op_load_ptr1 rfl rfl rfl rfl ag27 rfl rfl) ?_ | refine awR (op_load_rop1 rfl rfl ag27) ?_)
      refine awP (op_assign rfl rfl) ?_
      refine AWL.nil ?_
      (refine hK _ ?_; clear hK K; (try simp only [evS, lcS, nzR, nzA, nzL, Nat.reduceBEq, Nat.reduceEqDiff, ↓reduceIte, Nat.reduceAdd, Nat.reduceSub]))
      (refine AW.seq_k ?_; intro K hK)
      refine AW.region ?_
      refine awP (op_move rfl rfl) ?_
      (first | refine awP (op_fa_ptr rfl rfl rfl fl36_0 (by exact sz33) (by decide) rfl) ?_ | refine awP (op_fa_rop rfl rfl fl36_0 (by exact sz33) (by decide) (Nat.le_of_ble_eq_true rfl) rfl) ?_)
      (first | refine awR (op_load_ptr rfl rfl rfl rfl ag33 sz33 (Nat.le_of_ble_eq_true rfl) rfl) ?_ | refine awR (op_load_rop rfl rfl ag33 sz33 (Nat.le_of_ble_eq_true rfl) (by decide) rfl) ?_)
      refine awJ (op_call (b := false) rfl en52 (C52 (l := c.pieces) (p := p.plate) (by omega) (hv.2.2.2.mono _)) (RL.cons (by first | exact View.same rfl | exact View.nil | exact View.rof | exact View.src .ro | exact View.src .rof | exact View.src (.sl rfl rfl) | exact View.ptr rfl rfl rfl) (RL.cons (by first | exact View.same rfl | exact View.nil | exact View.rof | exact View.src .ro | exact View.src .rof | exact View.src (.sl rfl rfl) | exact View.ptr rfl rfl rfl) (RL.nil))) rfl (fun h => by cases h) rfl rfl) ?_; (try simp only [evS, lcS, nzR, nzA, nzL, Nat.reduceBEq, Nat.reduceEqDiff, ↓reduceIte, Nat.reduceAdd, Nat.reduceSub])
      refine awP (op_move rfl rfl) ?_
      refine awP (op_extract rfl rfl rfl) ?_
      refine awP (op_extract rfl rfl rfl) ?_
      refine awP (op_assign rfl rfl) ?_
      refine awP (op_assign rfl rfl) ?_
      refine AWL.nil ?_
      (refine hK _ ?_; clear hK K; (try simp only [evS, lcS, nzR, nzA, nzL, Nat.reduceBEq, Nat.reduceEqDiff, ↓reduceIte, Nat.reduceAdd, Nat.reduceSub]))
      (refine AW.seq_k ?_; intro K hK)
      refine AW.block ?_   -- block 0
      (refine AW.seq_k ?_; intro K hK)
      refine AW.region ?_
      refine awP (op_move rfl rfl) ?_
      refine awP (op_assign rfl rfl) ?_
      refine AWL.nil ?_
      (refine hK _ ?_; clear hK K; (try simp only [evS, lcS, nzR, nzA, nzL, Nat.reduceBEq, Nat.reduceEqDiff, ↓reduceIte, Nat.reduceAdd, Nat.reduceSub]))
      refine AW.cond rfl rfl rfl (fun hc => ?_) (fun hc => ?_)   -- cond 3
      · -- true
        (try simp only [Bool.and_eq_true, Bool.or_eq_true, Bool.or_eq_false_iff, Bool.and_eq_false_iff, decide_eq_true_eq, decide_eq_false_iff_not, Int.not_le, Int.not_lt, ge_iff_le, gt_iff_lt, Bool.not_eq_true', Bool.not_eq_false', bne_iff_ne, beq_iff_eq, bne_eq_false_iff_eq, beq_eq_false_iff_ne, ne_eq] at hc); have hc3 := hc; skip
        (refine AW.seq_k ?_; intro K hK)
        refine AW.region ?_
        refine awP (op_build2 (xs := [.v (.int .i64 0), .v (.string ⟨#[]⟩), .v (.int .i64 0), .v (.string ⟨#[]⟩), .v (.int .i64 0), .v (.int .i64 0), .v (.int .i64 0), .v (.int .i64 0), .v (.int .i64 0), .v (.int .i64 0), .v (.slice none 0 0)]) rfl pl29 ze29 [] rfl rfl rfl) ?_
        refine awJ (op_store rfl rfl rfl rfl rfl rfl sz29 rfl (Nat.le_of_ble_eq_true rfl) rfl) ?_; (try simp only [evS, lcS, nzR, nzA, nzL, Nat.reduceBEq, Nat.reduceEqDiff, ↓reduceIte, Nat.reduceAdd, Nat.reduceSub])
        refine awP (op_assign rfl rfl) ?_
        refine AWL.nil ?_
        (refine hK _ ?_; clear hK K; (try simp only [evS, lcS, nzR, nzA, nzL, Nat.reduceBEq, Nat.reduceEqDiff, ↓reduceIte, Nat.reduceAdd, Nat.reduceSub]))
        refine AW.gh (Gh.slot (r := 2) (es' := [zeroC.av]) rfl rfl zero_le) ?_; (try simp only [evS, lcS, nzR, nzA, nzL, Nat.reduceBEq, Nat.reduceEqDiff, ↓reduceIte, Nat.reduceAdd, Nat.reduceSub])
        refine AW.ret ?_; (try simp only [thenE, inBlk, Nat.reduceEqDiff, ↓reduceIte]); have he : putC c p lim = (zeroC, 5) := (by unfold putC; rw [if_neg (by simpa using hc1), if_neg (by simpa using hc2), if_pos (by simpa using hc)]); rw [he]; exact RQ.of0 rfl (.cell (Nat.le_of_ble_eq_true rfl) rfl rfl rfl ag29 sz29 (Nat.le_of_ble_eq_true rfl) rfl rfl (.tmp (Nat.le_of_ble_eq_true rfl) rfl rfl .nil))
      · -- false
        (try simp only [Bool.and_eq_true, Bool.or_eq_true, Bool.or_eq_false_iff, Bool.and_eq_false_iff, decide_eq_true_eq, decide_eq_false_iff_not, Int.not_le, Int.not_lt, ge_iff_le, gt_iff_lt, Bool.not_eq_true', Bool.not_eq_false', bne_iff_ne, beq_iff_eq, bne_eq_false_iff_eq, beq_eq_false_iff_ne, ne_eq] at hc); have hc3 := hc; skip
        (refine AW.seq_k ?_; intro K hK)
        refine AW.region (AWL.quiet ?_)
        refine aqP (op_move rfl rfl) ?_
        refine aqP (op_move rfl rfl) ?_
        refine' aqAnd' [_, _, _, _, _] [37,38,39,40,41] rfl rfl rfl rfl rfl rfl rfl rfl rfl rfl rfl rfl (fun hb => ?_) ?_; rotate_left
        · -- segment
          (try simp only [Bool.and_eq_true, Bool.or_eq_true, Bool.or_eq_false_iff, Bool.and_eq_false_iff, decide_eq_true_eq, decide_eq_false_iff_not, Int.not_le, Int.not_lt, ge_iff_le, gt_iff_lt, Bool.not_eq_true', Bool.not_eq_false', bne_iff_ne, beq_iff_eq, bne_eq_false_iff_eq, beq_eq_false_iff_ne, ne_eq] at hb)
          (first | refine aqR (op_load_ptr rfl rfl rfl rfl ag29 sz29 (Nat.le_of_ble_eq_true rfl) rfl) ?_ | refine aqR (op_load_rop rfl rfl ag29 sz29 (Nat.le_of_ble_eq_true rfl) (by decide) rfl) ?_)
          (first | refine aqP (op_fa_ptr rfl rfl rfl fl36_2 (by exact sz3) (by decide) rfl) ?_ | refine aqP (op_fa_rop rfl rfl fl36_2 (by exact sz3) (by decide) (Nat.le_of_ble_eq_true rfl) rfl) ?_)
          (first | refine aqR (op_load_ptr1 rfl rfl rfl rfl ag3 rfl rfl) ?_ | refine aqR (op_load_rop1 rfl rfl ag3) ?_)
          refine aqQ (op_callQ (b := true) rfl en46 (C46 (c := c) (cat := p.category) (by omega)) (RL.cons (by first | exact View.same rfl | exact View.nil | exact View.rof | exact View.src .ro | exact View.src .rof | exact View.src (.sl rfl rfl) | exact View.ptr rfl rfl rfl) (RL.cons (by first | exact View.same rfl | exact View.nil | exact View.rof | exact View.src .ro | exact View.src .rof | exact View.src (.sl rfl rfl) | exact View.ptr rfl rfl rfl) (RL.nil))) rfl) ?_; (try simp only [evS, lcS, nzR, nzA, nzL, Nat.reduceBEq, Nat.reduceEqDiff, ↓reduceIte, Nat.reduceAdd, Nat.reduceSub])
          refine aqP (op_not rfl rfl rfl) ?_
          (refine aqSeg rfl rfl rfl ?_; repeat (first | exact fun _ _ => rfl | refine upd_out rfl ?_ | refine era_out rfl ?_))
        (try simp only [evS, lcS, nzR, nzA, nzL, Nat.reduceBEq, Nat.reduceEqDiff, ↓reduceIte, Nat.reduceAdd, Nat.reduceSub])
        refine aqP (op_assign rfl rfl) ?_
        refine AQ.nil ?_
        (refine hK _ ?_; clear hK K; (try simp only [evS, lcS, nzR, nzA, nzL, Nat.reduceBEq, Nat.reduceEqDiff, ↓reduceIte, Nat.reduceAdd, Nat.reduceSub]))
        refine AW.cond rfl rfl rfl (fun hc => ?_) (fun hc => ?_)   -- cond 4
        · -- true
          (try simp only [Bool.and_eq_true, Bool.or_eq_true, Bool.or_eq_false_iff, Bool.and_eq_false_iff, decide_eq_true_eq, decide_eq_false_iff_not, Int.not_le, Int.not_lt, ge_iff_le, gt_iff_lt, Bool.not_eq_true', Bool.not_eq_false', bne_iff_ne, beq_iff_eq, bne_eq_false_iff_eq, beq_eq_false_iff_ne, ne_eq] at hc); have hc4 := hc; skip
          (refine AW.seq_k ?_; intro K hK)
          refine AW.region ?_
          refine awP (op_build2 (xs := [.v (.int .i64 0), .v (.string ⟨#[]⟩), .v (.int .i64 0), .v (.string ⟨#[]⟩), .v (.int .i64 0), .v (.int .i64 0), .v (.int .i64 0), .v (.int .i64 0), .v (.int .i64 0), .v (.int .i64 0), .v (.slice none 0 0)]) rfl pl29 ze29 [] rfl rfl rfl) ?_
          refine awJ (op_store rfl rfl rfl rfl rfl rfl sz29 rfl (Nat.le_of_ble_eq_true rfl) rfl) ?_; (try simp only [evS, lcS, nzR, nzA, nzL, Nat.reduceBEq, Nat.reduceEqDiff, ↓reduceIte, Nat.reduceAdd, Nat.reduceSub])
          refine awP (op_assign rfl rfl) ?_
          refine AWL.nil ?_
          (refine hK _ ?_; clear hK K; (try simp only [evS, lcS, nzR, nzA, nzL, Nat.reduceBEq, Nat.reduceEqDiff, ↓reduceIte, Nat.reduceAdd, Nat.reduceSub]))
          refine AW.gh (Gh.slot (r := 2) (es' := [zeroC.av]) rfl rfl zero_le) ?_; (try simp only [evS, lcS, nzR, nzA, nzL, Nat.reduceBEq, Nat.reduceEqDiff, ↓reduceIte, Nat.reduceAdd, Nat.reduceSub])
          refine AW.ret ?_; (try simp only [thenE, inBlk, Nat.reduceEqDiff, ↓reduceIte]); have he : putC c p lim = (zeroC, 4) := (by unfold putC; rw [if_neg (by simpa using hc1), if_neg (by simpa using hc2), if_neg (by simpa using hc3), if_pos (by simpa using hc)]); rw [he]; exact RQ.of0 rfl (.cell (Nat.le_of_ble_eq_true rfl) rfl rfl rfl ag29 sz29 (Nat.le_of_ble_eq_true rfl) rfl rfl (.tmp (Nat.le_of_ble_eq_true rfl) rfl rfl .nil))
        · -- false
          (try simp only [Bool.and_eq_true, Bool.or_eq_true, Bool.or_eq_false_iff, Bool.and_eq_false_iff, decide_eq_true_eq, decide_eq_false_iff_not, Int.not_le, Int.not_lt, ge_iff_le, gt_iff_lt, Bool.not_eq_true', Bool.not_eq_false', bne_iff_ne, beq_iff_eq, bne_eq_false_iff_eq, beq_eq_false_iff_ne, ne_eq] at hc); have hc4 := hc; skip
          (refine AW.seq_k ?_; intro K hK)
          refine AW.quiet mix (by kernel_rfl) ?_   -- DRAWS
          refine aqP (op_move rfl rfl) ?_
          refine aqP (op_move rfl rfl) ?_
          refine' aqAndN' [_, _, _, _, _, _, _, _, _, _, _, _, _, _, _] [47,48,49,50,51,52,53,54,55,56,57,58,59,60,61] rfl rfl rfl rfl rfl rfl rfl rfl rfl rfl rfl rfl (fun hb => ?_) ?_; rotate_left
          · -- segment
            (try simp only [Bool.and_eq_true, Bool.or_eq_true, Bool.or_eq_false_iff, Bool.and_eq_false_iff, decide_eq_true_eq, decide_eq_false_iff_not, Int.not_le, Int.not_lt, ge_iff_le, gt_iff_lt, Bool.not_eq_true', Bool.not_eq_false', bne_iff_ne, beq_iff_eq, bne_eq_false_iff_eq, beq_eq_false_iff_ne, ne_eq] at hb)
            refine aqP (op_move rfl rfl) ?_
            (first | refine aqP (op_len_ro rfl rfl Try.underlying68 (by first | exact .inr (.inl ⟨_, rfl, rfl⟩) | exact .inl rfl | exact .inr (.inr (.inl ⟨_, rfl, rfl⟩)) | exact .inr (.inr (.inr ⟨rfl, rfl⟩)))) ?_ | refine aqP (op_len_sl rfl rfl rfl Try.underlying68) ?_ | refine aqP (op_len_str rfl rfl Try.underlying68) ?_)
            (first | refine aqP (op_fa_ptr rfl rfl rfl fl29_4 (by exact sz3) (by decide) rfl) ?_ | refine aqP (op_fa_rop rfl rfl fl29_4 (by exact sz3) (by decide) (Nat.le_of_ble_eq_true rfl) rfl) ?_)
            (first | refine aqR (op_load_ptr1 rfl rfl rfl rfl ag3 rfl rfl) ?_ | refine aqR (op_load_rop1 rfl rfl ag3) ?_)
            refine aqP (op_geq rfl rfl rfl) ?_
            refine aqP (op_move rfl rfl) ?_
            refine' aqOr' [_, _, _, _, _, _, _, _] [53,54,55,56,57,58,59,60] rfl rfl rfl rfl rfl rfl rfl rfl rfl rfl rfl rfl (fun hb => ?_) ?_; rotate_left
            · -- segment
              (try simp only [Bool.and_eq_true, Bool.or_eq_true, Bool.or_eq_false_iff, Bool.and_eq_false_iff, decide_eq_true_eq, decide_eq_false_iff_not, Int.not_le, Int.not_lt, ge_iff_le, gt_iff_lt, Bool.not_eq_true', Bool.not_eq_false', bne_iff_ne, beq_iff_eq, bne_eq_false_iff_eq, beq_eq_false_iff_ne, ne_eq] at hb)
              refine aqP (op_move rfl rfl) ?_
              refine aqQ (op_callQ (b := true) rfl en45 (C45 (l := c.pieces) (by omega) hvw) (RL.cons (by first | exact View.same rfl | exact View.nil | exact View.rof | exact View.src .ro | exact View.src .rof | exact View.src (.sl rfl rfl) | exact View.ptr rfl rfl rfl) (RL.nil)) rfl) ?_; (try simp only [evS, lcS, nzR, nzA, nzL, Nat.reduceBEq, Nat.reduceEqDiff, ↓reduceIte, Nat.reduceAdd, Nat.reduceSub])
              (first | refine aqP (op_fa_ptr rfl rfl rfl fl36_1 (by exact sz3) (by decide) rfl) ?_ | refine aqP (op_fa_rop rfl rfl fl36_1 (by exact sz3) (by decide) (Nat.le_of_ble_eq_true rfl) rfl) ?_)
              (first | refine aqR (op_load_ptr1 rfl rfl rfl rfl ag3 rfl rfl) ?_ | refine aqR (op_load_rop1 rfl rfl ag3) ?_)
              (first | refine aqP (op_addi rfl rfl rfl (by omega)) ?_ | refine aqP (op_add rfl rfl rfl rfl) ?_)
              (first | refine aqP (op_fa_ptr rfl rfl rfl fl29_3 (by exact sz3) (by decide) rfl) ?_ | refine aqP (op_fa_rop rfl rfl fl29_3 (by exact sz3) (by decide) (Nat.le_of_ble_eq_true rfl) rfl) ?_)
              (first | refine aqR (op_load_ptr1 rfl rfl rfl rfl ag3 rfl rfl) ?_ | refine aqR (op_load_rop1 rfl rfl ag3) ?_)
              refine aqP (op_gtr rfl rfl rfl) ?_
              (refine aqSeg rfl rfl rfl ?_; repeat (first | exact fun _ _ => rfl | refine upd_out rfl ?_ | refine era_out rfl ?_))
            (try simp only [evS, lcS, nzR, nzA, nzL, Nat.reduceBEq, Nat.reduceEqDiff, ↓reduceIte, Nat.reduceAdd, Nat.reduceSub])
            (refine aqSeg rfl rfl rfl ?_; repeat (first | exact fun _ _ => rfl | refine upd_out rfl ?_ | refine era_out rfl ?_))
          (try simp only [evS, lcS, nzR, nzA, nzL, Nat.reduceBEq, Nat.reduceEqDiff, ↓reduceIte, Nat.reduceAdd, Nat.reduceSub])
          refine aqP (op_assign rfl rfl) ?_
          refine AQ.nil ?_
          (refine hK _ ?_; clear hK K; (try simp only [evS, lcS, nzR, nzA, nzL, Nat.reduceBEq, Nat.reduceEqDiff, ↓reduceIte, Nat.reduceAdd, Nat.reduceSub]))
          refine AW.cond rfl rfl rfl (fun hc => ?_) (fun hc => ?_)   -- cond 5
          · -- true
            (try simp only [Bool.and_eq_true, Bool.or_eq_true, Bool.or_eq_false_iff, Bool.and_eq_false_iff, decide_eq_true_eq, decide_eq_false_iff_not, Int.not_le, Int.not_lt, ge_iff_le, gt_iff_lt, Bool.not_eq_true', Bool.not_eq_false', bne_iff_ne, beq_iff_eq, bne_eq_false_iff_eq, beq_eq_false_iff_ne, ne_eq] at hc); have hc5 := hc; skip
            (refine AW.seq_k ?_; intro K hK)
            refine AW.region ?_
            refine awP (op_build2 (xs := [.v (.int .i64 0), .v (.string ⟨#[]⟩), .v (.int .i64 0), .v (.string ⟨#[]⟩), .v (.int .i64 0), .v (.int .i64 0), .v (.int .i64 0), .v (.int .i64 0), .v (.int .i64 0), .v (.int .i64 0), .v (.slice none 0 0)]) rfl pl29 ze29 [] rfl rfl rfl) ?_
            refine awJ (op_store rfl rfl rfl rfl rfl rfl sz29 rfl (Nat.le_of_ble_eq_true rfl) rfl) ?_; (try simp only [evS, lcS, nzR, nzA, nzL, Nat.reduceBEq, Nat.reduceEqDiff, ↓reduceIte, Nat.reduceAdd, Nat.reduceSub])
            refine awP (op_assign rfl rfl) ?_
            refine AWL.nil ?_
            (refine hK _ ?_; clear hK K; (try simp only [evS, lcS, nzR, nzA, nzL, Nat.reduceBEq, Nat.reduceEqDiff, ↓reduceIte, Nat.reduceAdd, Nat.reduceSub]))
            refine AW.gh (Gh.slot (r := 2) (es' := [zeroC.av]) rfl rfl zero_le) ?_; (try simp only [evS, lcS, nzR, nzA, nzL, Nat.reduceBEq, Nat.reduceEqDiff, ↓reduceIte, Nat.reduceAdd, Nat.reduceSub])
            refine AW.ret ?_; (try simp only [thenE, inBlk, Nat.reduceEqDiff, ↓reduceIte]); have he : putC c p lim = (zeroC, 8) := (by unfold putC fullB; rw [if_neg (by simpa using hc1), if_neg (by simpa using hc2), if_neg (by simpa using hc3), if_neg (by rcases hc4 with h | h <;> simp [h]), if_pos (by simpa using hc)]); rw [he]; exact RQ.of0 rfl (.cell (Nat.le_of_ble_eq_true rfl) rfl rfl rfl ag29 sz29 (Nat.le_of_ble_eq_true rfl) rfl rfl (.tmp (Nat.le_of_ble_eq_true rfl) rfl rfl .nil))
          · -- false
            (try simp only [Bool.and_eq_true, Bool.or_eq_true, Bool.or_eq_false_iff, Bool.and_eq_false_iff, decide_eq_true_eq, decide_eq_false_iff_not, Int.not_le, Int.not_lt, ge_iff_le, gt_iff_lt, Bool.not_eq_true', Bool.not_eq_false', bne_iff_ne, beq_iff_eq, bne_eq_false_iff_eq, beq_eq_false_iff_ne, ne_eq] at hc); have hc5 := hc; skip
            (refine AW.seq_k ?_; intro K hK)
            refine AW.region ?_
            refine awP (op_move rfl rfl) ?_
            (first | refine awP (op_len_ro rfl rfl Try.underlying68 (by first | exact .inr (.inl ⟨_, rfl, rfl⟩) | exact .inl rfl | exact .inr (.inr (.inl ⟨_, rfl, rfl⟩)) | exact .inr (.inr (.inr ⟨rfl, rfl⟩)))) ?_ | refine awP (op_len_sl rfl rfl rfl Try.underlying68) ?_ | refine awP (op_len_str rfl rfl Try.underlying68) ?_)
            refine awP (op_geq rfl rfl rfl) ?_
            refine awP (op_assign rfl rfl) ?_
            refine AWL.nil ?_
            (refine hK _ ?_; clear hK K; (try simp only [evS, lcS, nzR, nzA, nzL, Nat.reduceBEq, Nat.reduceEqDiff, ↓reduceIte, Nat.reduceAdd, Nat.reduceSub]))
            refine AW.cond rfl rfl rfl (fun hc => ?_) (fun hc => ?_)   -- cond 6
            · -- true
              (try simp only [Bool.and_eq_true, Bool.or_eq_true, Bool.or_eq_false_iff, Bool.and_eq_false_iff, decide_eq_true_eq, decide_eq_false_iff_not, Int.not_le, Int.not_lt, ge_iff_le, gt_iff_lt, Bool.not_eq_true', Bool.not_eq_false', bne_iff_ne, beq_iff_eq, bne_eq_false_iff_eq, beq_eq_false_iff_ne, ne_eq] at hc); have hc6 := hc; skip
              (refine AW.seq_k ?_; intro K hK)
              refine AW.region ?_
              refine awP (op_build2 (xs := [.v (.int .i64 0), .v (.string ⟨#[]⟩), .v (.int .i64 0), .v (.string ⟨#[]⟩), .v (.int .i64 0), .v (.int .i64 0), .v (.int .i64 0), .v (.int .i64 0), .v (.int .i64 0), .v (.int .i64 0), .v (.slice none 0 0)]) rfl pl29 ze29 [] rfl rfl rfl) ?_
              refine awJ (op_store rfl rfl rfl rfl rfl rfl sz29 rfl (Nat.le_of_ble_eq_true rfl) rfl) ?_; (try simp only [evS, lcS, nzR, nzA, nzL, Nat.reduceBEq, Nat.reduceEqDiff, ↓reduceIte, Nat.reduceAdd, Nat.reduceSub])
              refine awP (op_assign rfl rfl) ?_
              refine AWL.nil ?_
              (refine hK _ ?_; clear hK K; (try simp only [evS, lcS, nzR, nzA, nzL, Nat.reduceBEq, Nat.reduceEqDiff, ↓reduceIte, Nat.reduceAdd, Nat.reduceSub]))
              refine AW.gh (Gh.slot (r := 2) (es' := [zeroC.av]) rfl rfl zero_le) ?_; (try simp only [evS, lcS, nzR, nzA, nzL, Nat.reduceBEq, Nat.reduceEqDiff, ↓reduceIte, Nat.reduceAdd, Nat.reduceSub])
              refine AW.ret ?_; (try simp only [thenE, inBlk, Nat.reduceEqDiff, ↓reduceIte]); have he : putC c p lim = (zeroC, 2) := (by unfold putC fullB; rw [if_neg (by simpa using hc1), if_neg (by simpa using hc2), if_neg (by simpa using hc3), if_neg (by rcases hc4 with h | h <;> simp [h]), if_neg (by rcases hc5 with h | h; (simp [h]); (simp; intro _; omega)), if_pos (by simpa using hc)]); rw [he]; exact RQ.of0 rfl (.cell (Nat.le_of_ble_eq_true rfl) rfl rfl rfl ag29 sz29 (Nat.le_of_ble_eq_true rfl) rfl rfl (.tmp (Nat.le_of_ble_eq_true rfl) rfl rfl .nil))
            · -- false
              (try simp only [Bool.and_eq_true, Bool.or_eq_true, Bool.or_eq_false_iff, Bool.and_eq_false_iff, decide_eq_true_eq, decide_eq_false_iff_not, Int.not_le, Int.not_lt, ge_iff_le, gt_iff_lt, Bool.not_eq_true', Bool.not_eq_false', bne_iff_ne, beq_iff_eq, bne_eq_false_iff_eq, beq_eq_false_iff_ne, ne_eq] at hc); have hc6 := hc; skip
              refine AW.skip ?_
              (try simp only [thenE, inBlk, Nat.reduceEqDiff, ↓reduceIte])
              (refine hK _ ?_; clear hK K; (try simp only [evS, lcS, nzR, nzA, nzL, Nat.reduceBEq, Nat.reduceEqDiff, ↓reduceIte, Nat.reduceAdd, Nat.reduceSub]))
              (refine AW.seq_k ?_; intro K hK)
              refine AW.region ?_
              refine awP (op_move rfl rfl) ?_
              refine awP (op_move rfl rfl) ?_
              (first | refine awR (op_load_ptr rfl rfl rfl rfl ag36 sz36 (Nat.le_of_ble_eq_true rfl) rfl) ?_ | refine awR (op_load_rop rfl rfl ag36 sz36 (Nat.le_of_ble_eq_true rfl) (by decide) rfl) ?_)
              refine awJ (op_call (b := false) rfl en59 (C59 (l := c.pieces) (i := posP c.pieces p.plate) (p := p) (pos_le _ _) (by omega)) (RL.cons (by first | exact View.same rfl | exact View.nil | exact View.rof | exact View.src .ro | exact View.src .rof | exact View.src (.sl rfl rfl) | exact View.ptr rfl rfl rfl) (RL.cons (by first | exact View.same rfl | exact View.nil | exact View.rof | exact View.src .ro | exact View.src .rof | exact View.src (.sl rfl rfl) | exact View.ptr rfl rfl rfl) (RL.cons (by first | exact View.same rfl | exact View.nil | exact View.rof | exact View.src .ro | exact View.src .rof | exact View.src (.sl rfl rfl) | exact View.ptr rfl rfl rfl) (RL.nil)))) rfl (fun h => by cases h) rfl rfl) ?_; (try simp only [evS, lcS, nzR, nzA, nzL, Nat.reduceBEq, Nat.reduceEqDiff, ↓reduceIte, Nat.reduceAdd, Nat.reduceSub])
              (first | refine awP (op_fa_ptr rfl rfl rfl fl29_7 (by exact sz27) (by decide) rfl) ?_ | refine awP (op_fa_rop rfl rfl fl29_7 (by exact sz27) (by decide) (Nat.le_of_ble_eq_true rfl) rfl) ?_)
              refine awJ (op_store rfl rfl rfl rfl rfl rfl sz27 rfl (Nat.le_of_ble_eq_true rfl) rfl) ?_; (try simp only [evS, lcS, nzR, nzA, nzL, Nat.reduceBEq, Nat.reduceEqDiff, ↓reduceIte, Nat.reduceAdd, Nat.reduceSub])
              refine AWL.nil ?_
              (refine hK _ ?_; clear hK K; (try simp only [evS, lcS, nzR, nzA, nzL, Nat.reduceBEq, Nat.reduceEqDiff, ↓reduceIte, Nat.reduceAdd, Nat.reduceSub]))
              (refine AW.seq_k ?_; intro K hK)
              refine AW.region ?_
              (first | refine awR (op_load_ptr rfl rfl rfl rfl ag29 sz29 (Nat.le_of_ble_eq_true rfl) rfl) ?_ | refine awR (op_load_rop rfl rfl ag29 sz29 (Nat.le_of_ble_eq_true rfl) (by decide) rfl) ?_)
              refine awJ (op_store rfl rfl rfl rfl rfl rfl sz29 rfl (Nat.le_of_ble_eq_true rfl) rfl) ?_; (try simp only [evS, lcS, nzR, nzA, nzL, Nat.reduceBEq, Nat.reduceEqDiff, ↓reduceIte, Nat.reduceAdd, Nat.reduceSub])
              refine awP (op_assign rfl rfl) ?_
              refine AWL.nil ?_
              (refine hK _ ?_; clear hK K; (try simp only [evS, lcS, nzR, nzA, nzL, Nat.reduceBEq, Nat.reduceEqDiff, ↓reduceIte, Nat.reduceAdd, Nat.reduceSub]))
              skip
              refine AW.ret ?_; (try simp only [thenE, inBlk, Nat.reduceEqDiff, ↓reduceIte]); have he : putC c p lim = (insC c p, 0) := (by unfold putC fullB; rw [if_neg (by simpa using hc1), if_neg (by simpa using hc2), if_neg (by simpa using hc3), if_neg (by rcases hc4 with h | h <;> simp [h]), if_neg (by rcases hc5 with h | h; (simp [h]); (simp; intro _; omega)), if_neg (by simpa using hc)]); rw [he]; exact RQ.of0 rfl (.cell (Nat.le_of_ble_eq_true rfl) rfl rfl rfl ag29 sz29 (Nat.le_of_ble_eq_true rfl) rfl rfl (.tmp (Nat.le_of_ble_eq_true rfl) rfl rfl .nil))
end Go.Proofs.Ytngfknoddphhaaa
