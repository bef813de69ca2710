import Derived.Test.YtfmnaigedgmhoaaGreatDoorXbd
namespace Go.Proofs.YtfmnaigedgmhoaaGreatDoor
open Go.RowKit
set_option linter.unusedSimpArgs false
set_option linter.unusedVariables false
set_option maxRecDepth 100000
def sameE (a b : Ev) : Bool := (((((((((((decide (a.kind = b.kind) && decide (a.time = b.time)) && (a.text.toList == b.text.toList)) && plEq a.plate b.plate) && decide (a.node = b.node)) && decide (a.image = b.image)) && (a.clear == b.clear)) && listEq rpEq a.reports b.reports) && rvEq a.rev b.rev) && decide (a.device = b.device)) && opEq a.op b.op) && listEq opEq a.ops b.ops) && flEq a.fl b.fl
set_option maxHeartbeats 8000000 in
theorem C68r {a b : Ev} (h1 : a.reports.length ≤ 1000000) (h2 : a.ops.length ≤ 1000000) : Fn Tryz.prog 68 [] [.agg a.av, .agg b.av] [.v (.bool (sameE a b))] [] := by
  refine Spec.body Tryz.func68 rfl Tryz.ntmps68 (by simp) rfl ?_; intro S0 own0 v0 w0 gl
  (refine AW.seq_k ?_; intro K hK)
  refine AW.region ?_
  refine awJ (op_box rfl rfl rfl sz42 rfl) ?_; (simp only [nA, Nat.reduceBEq, Nat.reduceEqDiff, ↓reduceIte])
  refine awJ (op_box rfl rfl rfl sz42 rfl) ?_; (simp only [nA, Nat.reduceBEq, Nat.reduceEqDiff, ↓reduceIte])
  refine awP (op_assign rfl rfl) ?_
  refine AWL.nil ?_
  (refine hK _ ?_; clear hK K; (try simp only [nA, Nat.reduceBEq, Nat.reduceEqDiff, ↓reduceIte, Nat.reduceAdd, Nat.reduceSub]))
  (refine AW.seq_k ?_; intro K hK)
  refine AW.region (AWL.quiet ?_)
  (refine aqP (op_fa_ptr rfl rfl rfl fl42_0 (by exact sz3) (by decide) rfl) ?_)
  (refine aqR (op_load_ptr1 rfl rfl rfl rfl ag3 rfl rfl) ?_)
  (refine aqP (op_fa_ptr rfl rfl rfl fl42_0 (by exact sz3) (by decide) rfl) ?_)
  (refine aqR (op_load_ptr1 rfl rfl rfl rfl ag3 rfl rfl) ?_)
  (refine aqP (op_eql rfl rfl rfl) ?_)
  refine aqP (op_move rfl rfl) ?_
  refine' aqAnd' [_, _, _, _, _] [11,12,13,14,15] rfl rfl rfl rfl rfl rfl rfl rfl rfl rfl rfl rfl (fun hb => ?_) ?_; rotate_left
  ·
   (try simp only [hcS] at hb)
   (refine aqP (op_fa_ptr rfl rfl rfl fl42_1 (by exact sz3) (by decide) rfl) ?_)
   (refine aqR (op_load_ptr1 rfl rfl rfl rfl ag3 rfl rfl) ?_)
   (refine aqP (op_fa_ptr rfl rfl rfl fl42_1 (by exact sz3) (by decide) rfl) ?_)
   (refine aqR (op_load_ptr1 rfl rfl rfl rfl ag3 rfl rfl) ?_)
   (refine aqP (op_eql rfl rfl rfl) ?_)
   (refine aqSeg rfl rfl rfl ?_; repeat (first | exact fun _ _ => rfl | refine upd_out rfl ?_))
  simp only [nA]
  refine aqP (op_move rfl rfl) ?_
  refine' aqAnd' [_, _, _, _, _] [18,19,20,21,22] rfl rfl rfl rfl rfl rfl rfl rfl rfl rfl rfl rfl (fun hb => ?_) ?_; rotate_left
  ·
   (try simp only [hcS] at hb)
   (refine aqP (op_fa_ptr rfl rfl rfl fl42_2 (by exact sz9) (by decide) rfl) ?_)
   (refine aqR (op_load_ptr1 rfl rfl rfl rfl ag9 rfl rfl) ?_)
   (refine aqP (op_fa_ptr rfl rfl rfl fl42_2 (by exact sz9) (by decide) rfl) ?_)
   (refine aqR (op_load_ptr1 rfl rfl rfl rfl ag9 rfl rfl) ?_)
   (refine aqP (op_seql rfl rfl rfl) ?_)
   (refine aqSeg rfl rfl rfl ?_; repeat (first | exact fun _ _ => rfl | refine upd_out rfl ?_))
  simp only [nA]
  refine aqP (op_move rfl rfl) ?_
  refine' aqAnd' [_, _, _, _, _] [25,26,27,28,29] rfl rfl rfl rfl rfl rfl rfl rfl rfl rfl rfl rfl (fun hb => ?_) ?_; rotate_left
  ·
   (try simp only [hcS] at hb)
   (refine aqP (op_fa_ptr rfl rfl rfl fl42_3 (by exact sz30) (by decide) rfl) ?_)
   (refine aqR (op_load_ptr rfl rfl rfl rfl ag30 sz30 (bl rfl) rfl) ?_)
   (refine aqP (op_fa_ptr rfl rfl rfl fl42_3 (by exact sz30) (by decide) rfl) ?_)
   (refine aqR (op_load_ptr rfl rfl rfl rfl ag30 sz30 (bl rfl) rfl) ?_)
   refine aqP (op_eqP23 (p := a.plate) (q := b.plate) rfl rfl rfl) ?_; (simp only [nA])
   (refine aqSeg rfl rfl rfl ?_; repeat (first | exact fun _ _ => rfl | refine upd_out rfl ?_))
  simp only [nA]
  refine aqP (op_move rfl rfl) ?_
  refine' aqAnd' [_, _, _, _, _] [32,33,34,35,36] rfl rfl rfl rfl rfl rfl rfl rfl rfl rfl rfl rfl (fun hb => ?_) ?_; rotate_left
  ·
   (try simp only [hcS] at hb)
   (refine aqP (op_fa_ptr rfl rfl rfl fl42_4 (by exact sz3) (by decide) rfl) ?_)
   (refine aqR (op_load_ptr1 rfl rfl rfl rfl ag3 rfl rfl) ?_)
   (refine aqP (op_fa_ptr rfl rfl rfl fl42_4 (by exact sz3) (by decide) rfl) ?_)
   (refine aqR (op_load_ptr1 rfl rfl rfl rfl ag3 rfl rfl) ?_)
   (refine aqP (op_eql rfl rfl rfl) ?_)
   (refine aqSeg rfl rfl rfl ?_; repeat (first | exact fun _ _ => rfl | refine upd_out rfl ?_))
  simp only [nA]
  refine aqP (op_move rfl rfl) ?_
  refine' aqAnd' [_, _, _, _, _] [39,40,41,42,43] rfl rfl rfl rfl rfl rfl rfl rfl rfl rfl rfl rfl (fun hb => ?_) ?_; rotate_left
  ·
   (try simp only [hcS] at hb)
   (refine aqP (op_fa_ptr rfl rfl rfl fl42_5 (by exact sz3) (by decide) rfl) ?_)
   (refine aqR (op_load_ptr1 rfl rfl rfl rfl ag3 rfl rfl) ?_)
   (refine aqP (op_fa_ptr rfl rfl rfl fl42_5 (by exact sz3) (by decide) rfl) ?_)
   (refine aqR (op_load_ptr1 rfl rfl rfl rfl ag3 rfl rfl) ?_)
   (refine aqP (op_eql rfl rfl rfl) ?_)
   (refine aqSeg rfl rfl rfl ?_; repeat (first | exact fun _ _ => rfl | refine upd_out rfl ?_))
  simp only [nA]
  refine aqP (op_move rfl rfl) ?_
  refine' aqAnd' [_, _, _, _, _] [46,47,48,49,50] rfl rfl rfl rfl rfl rfl rfl rfl rfl rfl rfl rfl (fun hb => ?_) ?_; rotate_left
  ·
   (try simp only [hcS] at hb)
   (refine aqP (op_fa_ptr rfl rfl rfl fl42_6 (by exact sz4) (by decide) rfl) ?_)
   (refine aqR (op_load_ptr1 rfl rfl rfl rfl ag4 rfl rfl) ?_)
   (refine aqP (op_fa_ptr rfl rfl rfl fl42_6 (by exact sz4) (by decide) rfl) ?_)
   (refine aqR (op_load_ptr1 rfl rfl rfl rfl ag4 rfl rfl) ?_)
   (refine aqP (op_beql rfl rfl rfl Tryz.underlying4) ?_)
   (refine aqSeg rfl rfl rfl ?_; repeat (first | exact fun _ _ => rfl | refine upd_out rfl ?_))
  simp only [nA]
  refine aqP (op_move rfl rfl) ?_
  refine' aqAnd' [_, _, _, _, _] [53,54,55,56,57] rfl rfl rfl rfl rfl rfl rfl rfl rfl rfl rfl rfl (fun hb => ?_) ?_; rotate_left
  ·
   (try simp only [hcS] at hb)
   (refine aqP (op_fa_ptr rfl rfl rfl fl42_7 (by exact sz31) (by decide) rfl) ?_)
   (refine aqR (op_load_ptr1 rfl rfl rfl rfl ag31 rfl rfl) ?_)
   (refine aqP (op_fa_ptr rfl rfl rfl fl42_7 (by exact sz31) (by decide) rfl) ?_)
   (refine aqR (op_load_ptr1 rfl rfl rfl rfl ag31 rfl rfl) ?_)
   refine aqQ (op_callQ (b := true) rfl en90 (C90 (a := a.reports) (b := b.reports) h1) (RL.cons (by exact View.same rfl) (RL.cons (by exact View.same rfl) (RL.nil))) rfl) ?_; (simp only [nA])
   (refine aqSeg rfl rfl rfl ?_; repeat (first | exact fun _ _ => rfl | refine upd_out rfl ?_))
  simp only [nA]
  refine aqP (op_move rfl rfl) ?_
  refine' aqAnd' [_, _, _, _, _] [60,61,62,63,64] rfl rfl rfl rfl rfl rfl rfl rfl rfl rfl rfl rfl (fun hb => ?_) ?_; rotate_left
  ·
   (try simp only [hcS] at hb)
   (refine aqP (op_fa_ptr rfl rfl rfl fl42_8 (by exact sz35) (by decide) rfl) ?_)
   (refine aqR (op_load_ptr rfl rfl rfl rfl ag35 sz35 (bl rfl) rfl) ?_)
   (refine aqP (op_fa_ptr rfl rfl rfl fl42_8 (by exact sz35) (by decide) rfl) ?_)
   (refine aqR (op_load_ptr rfl rfl rfl rfl ag35 sz35 (bl rfl) rfl) ?_)
   refine aqP (op_eq35 (p := a.rev) (q := b.rev) rfl rfl rfl) ?_; (simp only [nA])
   (refine aqSeg rfl rfl rfl ?_; repeat (first | exact fun _ _ => rfl | refine upd_out rfl ?_))
  simp only [nA]
  refine aqP (op_move rfl rfl) ?_
  refine' aqAnd' [_, _, _, _, _] [67,68,69,70,71] rfl rfl rfl rfl rfl rfl rfl rfl rfl rfl rfl rfl (fun hb => ?_) ?_; rotate_left
  ·
   (try simp only [hcS] at hb)
   (refine aqP (op_fa_ptr rfl rfl rfl fl42_9 (by exact sz3) (by decide) rfl) ?_)
   (refine aqR (op_load_ptr1 rfl rfl rfl rfl ag3 rfl rfl) ?_)
   (refine aqP (op_fa_ptr rfl rfl rfl fl42_9 (by exact sz3) (by decide) rfl) ?_)
   (refine aqR (op_load_ptr1 rfl rfl rfl rfl ag3 rfl rfl) ?_)
   (refine aqP (op_eql rfl rfl rfl) ?_)
   (refine aqSeg rfl rfl rfl ?_; repeat (first | exact fun _ _ => rfl | refine upd_out rfl ?_))
  simp only [nA]
  refine aqP (op_move rfl rfl) ?_
  refine' aqAnd' [_, _, _, _, _] [74,75,76,77,78] rfl rfl rfl rfl rfl rfl rfl rfl rfl rfl rfl rfl (fun hb => ?_) ?_; rotate_left
  ·
   (try simp only [hcS] at hb)
   (refine aqP (op_fa_ptr rfl rfl rfl fl42_10 (by exact sz39) (by decide) rfl) ?_)
   (refine aqR (op_load_ptr rfl rfl rfl rfl ag39 sz39 (bl rfl) rfl) ?_)
   (refine aqP (op_fa_ptr rfl rfl rfl fl42_10 (by exact sz39) (by decide) rfl) ?_)
   (refine aqR (op_load_ptr rfl rfl rfl rfl ag39 sz39 (bl rfl) rfl) ?_)
   refine aqP (op_eq39 (p := a.op) (q := b.op) rfl rfl rfl) ?_; (simp only [nA])
   (refine aqSeg rfl rfl rfl ?_; repeat (first | exact fun _ _ => rfl | refine upd_out rfl ?_))
  simp only [nA]
  refine aqP (op_move rfl rfl) ?_
  refine' aqAnd' [_, _, _, _, _] [81,82,83,84,85] rfl rfl rfl rfl rfl rfl rfl rfl rfl rfl rfl rfl (fun hb => ?_) ?_; rotate_left
  ·
   (try simp only [hcS] at hb)
   (refine aqP (op_fa_ptr rfl rfl rfl fl42_11 (by exact sz40) (by decide) rfl) ?_)
   (refine aqR (op_load_ptr1 rfl rfl rfl rfl ag40 rfl rfl) ?_)
   (refine aqP (op_fa_ptr rfl rfl rfl fl42_11 (by exact sz40) (by decide) rfl) ?_)
   (refine aqR (op_load_ptr1 rfl rfl rfl rfl ag40 rfl rfl) ?_)
   refine aqQ (op_callQ (b := true) rfl en91 (C91 (a := a.ops) (b := b.ops) h2) (RL.cons (by exact View.same rfl) (RL.cons (by exact View.same rfl) (RL.nil))) rfl) ?_; (simp only [nA])
   (refine aqSeg rfl rfl rfl ?_; repeat (first | exact fun _ _ => rfl | refine upd_out rfl ?_))
  simp only [nA]
  refine aqP (op_move rfl rfl) ?_
  refine' aqAnd' [_, _, _, _, _] [88,89,90,91,92] rfl rfl rfl rfl rfl rfl rfl rfl rfl rfl rfl rfl (fun hb => ?_) ?_; rotate_left
  ·
   (try simp only [hcS] at hb)
   (refine aqP (op_fa_ptr rfl rfl rfl fl42_12 (by exact sz33) (by decide) rfl) ?_)
   (refine aqR (op_load_ptr rfl rfl rfl rfl ag33 sz33 (bl rfl) rfl) ?_)
   (refine aqP (op_fa_ptr rfl rfl rfl fl42_12 (by exact sz33) (by decide) rfl) ?_)
   (refine aqR (op_load_ptr rfl rfl rfl rfl ag33 sz33 (bl rfl) rfl) ?_)
   refine aqP (op_eq33 (p := a.fl) (q := b.fl) rfl rfl rfl) ?_; (simp only [nA])
   (refine aqSeg rfl rfl rfl ?_; repeat (first | exact fun _ _ => rfl | refine upd_out rfl ?_))
  simp only [nA]
  refine aqP (op_assign rfl rfl) ?_
  refine AQ.nil ?_
  (refine hK _ ?_; clear hK K; (simp only [nA]))
  skip
  refine AW.ret ?_; (try simp only [thenE, inBlk, Nat.reduceEqDiff, ↓reduceIte]); exact RQ.of0 rfl (.tmp (bl rfl) rfl rfl .nil)
theorem sameE_eq (a b : Ev) : sameE a b = sameB a b := by
  have e : sameE a b = true ↔ a = b := by
    obtain ⟨a1, a2, a3, a4, a5, a6, a7, a8, a9, a10, a11, a12, a13⟩ := a
    obtain ⟨b1, b2, b3, b4, b5, b6, b7, b8, b9, b10, b11, b12, b13⟩ := b
    unfold sameE
    simp only [Bool.and_eq_true, decide_eq_true_eq, beq_iff_eq, str_eq, plEq_iff, flEq_iff, rvEq_iff, opEq_iff, listEq_iff rpEq_iff, listEq_iff opEq_iff, Ev.mk.injEq, and_assoc]
  unfold sameB
  rw [Bool.eq_iff_iff, e]
  exact (@decide_eq_true_iff _ (Classical.propDecidable _)).symm
set_option maxHeartbeats 8000000 in
theorem C68 {a b : Ev} (h1 : a.reports.length ≤ 1000000) (h2 : a.ops.length ≤ 1000000) : Fn Tryz.prog 68 [] [.agg a.av, .agg b.av] [.v (.bool (sameB a b))] [] := by
  rw [← sameE_eq]; exact C68r h1 h2
def headNe (a b : Ev) : Bool := ((((((((((((!decide (a.kind = b.kind)) || !decide (a.time = b.time)) || !(a.text.toList == b.text.toList)) || !plEq a.plate b.plate) || !decide (a.node = b.node)) || !decide (a.image = b.image)) || (a.clear != b.clear)) || !rvEq a.rev b.rev) || !decide (a.device = b.device)) || !opEq a.op b.op) || !flEq a.fl b.fl) || !decide ((a.reports.length : Int) = (b.reports.length : Int))) || !listEq opEq a.ops b.ops
def sameR (a b : Ev) : Bool := !headNe a b && (List.range a.reports.length).all fun i => rpEq (a.reports.getD i default) (b.reports.getD i default)
theorem sameR_eq (a b : Ev) : sameR a b = sameB a b := by
  rw [← sameE_eq]
  unfold sameR headNe sameE
  have e : listEq rpEq a.reports b.reports = (decide ((a.reports.length : Int) = (b.reports.length : Int)) && (List.range a.reports.length).all fun i => rpEq (a.reports.getD i default) (b.reports.getD i default)) := rfl
  rw [e]
  simp only [bne, Bool.not_or, Bool.not_not]
  ac_rfl
set_option maxHeartbeats 8000000 in
theorem C11r {a b : Ev} (h1 : a.reports.length ≤ 1000000) (h2 : a.ops.length ≤ 1000000) : Fn Tryz.prog 11 [] [.agg a.av, .agg b.av] [.v (.bool (sameR a b))] [] := by
  refine Spec.body Tryz.func11 rfl Tryz.ntmps11 (by simp) rfl ?_; intro S0 own0 v0 w0 gl
  (refine AW.seq_k ?_; intro K hK)
  refine AW.region ?_
  refine awJ (op_box rfl rfl rfl sz42 rfl) ?_; (simp only [nA, Nat.reduceBEq, Nat.reduceEqDiff, ↓reduceIte])
  refine awJ (op_box rfl rfl rfl sz42 rfl) ?_; (simp only [nA, Nat.reduceBEq, Nat.reduceEqDiff, ↓reduceIte])
  refine awP (op_assign rfl rfl) ?_
  refine AWL.nil ?_
  (refine hK _ ?_; clear hK K; (try simp only [nA, Nat.reduceBEq, Nat.reduceEqDiff, ↓reduceIte, Nat.reduceAdd, Nat.reduceSub]))
  (refine AW.seq_k ?_; intro K hK)
  (refine AW.seq_k ?_; intro K hK)
  refine AW.region (AWL.quiet ?_)
  (refine aqP (op_fa_ptr rfl rfl rfl fl42_0 (by exact sz3) (by decide) rfl) ?_)
  (refine aqR (op_load_ptr1 rfl rfl rfl rfl ag3 rfl rfl) ?_)
  (refine aqP (op_fa_ptr rfl rfl rfl fl42_0 (by exact sz3) (by decide) rfl) ?_)
  (refine aqR (op_load_ptr1 rfl rfl rfl rfl ag3 rfl rfl) ?_)
  (refine aqP (op_neq rfl rfl rfl) ?_)
  refine aqP (op_move rfl rfl) ?_
  refine' aqOr' [_, _, _, _, _] [12,13,14,15,16] rfl rfl rfl rfl rfl rfl rfl rfl rfl rfl rfl rfl (fun hb => ?_) ?_; rotate_left
  ·
   (try simp only [hcS] at hb)
   (refine aqP (op_fa_ptr rfl rfl rfl fl42_1 (by exact sz3) (by decide) rfl) ?_)
   (refine aqR (op_load_ptr1 rfl rfl rfl rfl ag3 rfl rfl) ?_)
   (refine aqP (op_fa_ptr rfl rfl rfl fl42_1 (by exact sz3) (by decide) rfl) ?_)
   (refine aqR (op_load_ptr1 rfl rfl rfl rfl ag3 rfl rfl) ?_)
   (refine aqP (op_neq rfl rfl rfl) ?_)
   (refine aqSeg rfl rfl rfl ?_; repeat (first | exact fun _ _ => rfl | refine upd_out rfl ?_))
  simp only [nA]
  refine aqP (op_move rfl rfl) ?_
  refine' aqOr' [_, _, _, _, _] [19,20,21,22,23] rfl rfl rfl rfl rfl rfl rfl rfl rfl rfl rfl rfl (fun hb => ?_) ?_; rotate_left
  ·
   (try simp only [hcS] at hb)
   (refine aqP (op_fa_ptr rfl rfl rfl fl42_2 (by exact sz9) (by decide) rfl) ?_)
   (refine aqR (op_load_ptr1 rfl rfl rfl rfl ag9 rfl rfl) ?_)
   (refine aqP (op_fa_ptr rfl rfl rfl fl42_2 (by exact sz9) (by decide) rfl) ?_)
   (refine aqR (op_load_ptr1 rfl rfl rfl rfl ag9 rfl rfl) ?_)
   (refine aqP (op_sneq rfl rfl rfl) ?_)
   (refine aqSeg rfl rfl rfl ?_; repeat (first | exact fun _ _ => rfl | refine upd_out rfl ?_))
  simp only [nA]
  refine aqP (op_move rfl rfl) ?_
  refine' aqOr' [_, _, _, _, _] [26,27,28,29,30] rfl rfl rfl rfl rfl rfl rfl rfl rfl rfl rfl rfl (fun hb => ?_) ?_; rotate_left
  ·
   (try simp only [hcS] at hb)
   (refine aqP (op_fa_ptr rfl rfl rfl fl42_3 (by exact sz30) (by decide) rfl) ?_)
   (refine aqR (op_load_ptr rfl rfl rfl rfl ag30 sz30 (bl rfl) rfl) ?_)
   (refine aqP (op_fa_ptr rfl rfl rfl fl42_3 (by exact sz30) (by decide) rfl) ?_)
   (refine aqR (op_load_ptr rfl rfl rfl rfl ag30 sz30 (bl rfl) rfl) ?_)
   refine aqP (op_neqP23 (p := a.plate) (q := b.plate) rfl rfl rfl) ?_; (simp only [nA])
   (refine aqSeg rfl rfl rfl ?_; repeat (first | exact fun _ _ => rfl | refine upd_out rfl ?_))
  simp only [nA]
  refine aqP (op_move rfl rfl) ?_
  refine' aqOr' [_, _, _, _, _] [33,34,35,36,37] rfl rfl rfl rfl rfl rfl rfl rfl rfl rfl rfl rfl (fun hb => ?_) ?_; rotate_left
  ·
   (try simp only [hcS] at hb)
   (refine aqP (op_fa_ptr rfl rfl rfl fl42_4 (by exact sz3) (by decide) rfl) ?_)
   (refine aqR (op_load_ptr1 rfl rfl rfl rfl ag3 rfl rfl) ?_)
   (refine aqP (op_fa_ptr rfl rfl rfl fl42_4 (by exact sz3) (by decide) rfl) ?_)
   (refine aqR (op_load_ptr1 rfl rfl rfl rfl ag3 rfl rfl) ?_)
   (refine aqP (op_neq rfl rfl rfl) ?_)
   (refine aqSeg rfl rfl rfl ?_; repeat (first | exact fun _ _ => rfl | refine upd_out rfl ?_))
  simp only [nA]
  refine aqP (op_move rfl rfl) ?_
  refine' aqOr' [_, _, _, _, _] [40,41,42,43,44] rfl rfl rfl rfl rfl rfl rfl rfl rfl rfl rfl rfl (fun hb => ?_) ?_; rotate_left
  ·
   (try simp only [hcS] at hb)
   (refine aqP (op_fa_ptr rfl rfl rfl fl42_5 (by exact sz3) (by decide) rfl) ?_)
   (refine aqR (op_load_ptr1 rfl rfl rfl rfl ag3 rfl rfl) ?_)
   (refine aqP (op_fa_ptr rfl rfl rfl fl42_5 (by exact sz3) (by decide) rfl) ?_)
   (refine aqR (op_load_ptr1 rfl rfl rfl rfl ag3 rfl rfl) ?_)
   (refine aqP (op_neq rfl rfl rfl) ?_)
   (refine aqSeg rfl rfl rfl ?_; repeat (first | exact fun _ _ => rfl | refine upd_out rfl ?_))
  simp only [nA]
  refine aqP (op_move rfl rfl) ?_
  refine' aqOr' [_, _, _, _, _] [47,48,49,50,51] rfl rfl rfl rfl rfl rfl rfl rfl rfl rfl rfl rfl (fun hb => ?_) ?_; rotate_left
  ·
   (try simp only [hcS] at hb)
   (refine aqP (op_fa_ptr rfl rfl rfl fl42_6 (by exact sz4) (by decide) rfl) ?_)
   (refine aqR (op_load_ptr1 rfl rfl rfl rfl ag4 rfl rfl) ?_)
   (refine aqP (op_fa_ptr rfl rfl rfl fl42_6 (by exact sz4) (by decide) rfl) ?_)
   (refine aqR (op_load_ptr1 rfl rfl rfl rfl ag4 rfl rfl) ?_)
   (refine aqP (op_bneq rfl rfl rfl Tryz.underlying4) ?_)
   (refine aqSeg rfl rfl rfl ?_; repeat (first | exact fun _ _ => rfl | refine upd_out rfl ?_))
  simp only [nA]
  refine aqP (op_move rfl rfl) ?_
  refine' aqOr' [_, _, _, _, _] [54,55,56,57,58] rfl rfl rfl rfl rfl rfl rfl rfl rfl rfl rfl rfl (fun hb => ?_) ?_; rotate_left
  ·
   (try simp only [hcS] at hb)
   (refine aqP (op_fa_ptr rfl rfl rfl fl42_8 (by exact sz35) (by decide) rfl) ?_)
   (refine aqR (op_load_ptr rfl rfl rfl rfl ag35 sz35 (bl rfl) rfl) ?_)
   (refine aqP (op_fa_ptr rfl rfl rfl fl42_8 (by exact sz35) (by decide) rfl) ?_)
   (refine aqR (op_load_ptr rfl rfl rfl rfl ag35 sz35 (bl rfl) rfl) ?_)
   refine aqP (op_neq35 (p := a.rev) (q := b.rev) rfl rfl rfl) ?_; (simp only [nA])
   (refine aqSeg rfl rfl rfl ?_; repeat (first | exact fun _ _ => rfl | refine upd_out rfl ?_))
  simp only [nA]
  refine aqP (op_move rfl rfl) ?_
  refine' aqOr' [_, _, _, _, _] [61,62,63,64,65] rfl rfl rfl rfl rfl rfl rfl rfl rfl rfl rfl rfl (fun hb => ?_) ?_; rotate_left
  ·
   (try simp only [hcS] at hb)
   (refine aqP (op_fa_ptr rfl rfl rfl fl42_9 (by exact sz3) (by decide) rfl) ?_)
   (refine aqR (op_load_ptr1 rfl rfl rfl rfl ag3 rfl rfl) ?_)
   (refine aqP (op_fa_ptr rfl rfl rfl fl42_9 (by exact sz3) (by decide) rfl) ?_)
   (refine aqR (op_load_ptr1 rfl rfl rfl rfl ag3 rfl rfl) ?_)
   (refine aqP (op_neq rfl rfl rfl) ?_)
   (refine aqSeg rfl rfl rfl ?_; repeat (first | exact fun _ _ => rfl | refine upd_out rfl ?_))
  simp only [nA]
  refine aqP (op_move rfl rfl) ?_
  refine' aqOr' [_, _, _, _, _] [68,69,70,71,72] rfl rfl rfl rfl rfl rfl rfl rfl rfl rfl rfl rfl (fun hb => ?_) ?_; rotate_left
  ·
   (try simp only [hcS] at hb)
   (refine aqP (op_fa_ptr rfl rfl rfl fl42_10 (by exact sz39) (by decide) rfl) ?_)
   (refine aqR (op_load_ptr rfl rfl rfl rfl ag39 sz39 (bl rfl) rfl) ?_)
   (refine aqP (op_fa_ptr rfl rfl rfl fl42_10 (by exact sz39) (by decide) rfl) ?_)
   (refine aqR (op_load_ptr rfl rfl rfl rfl ag39 sz39 (bl rfl) rfl) ?_)
   refine aqP (op_neq39 (p := a.op) (q := b.op) rfl rfl rfl) ?_; (simp only [nA])
   (refine aqSeg rfl rfl rfl ?_; repeat (first | exact fun _ _ => rfl | refine upd_out rfl ?_))
  simp only [nA]
  refine aqP (op_move rfl rfl) ?_
  refine' aqOr' [_, _, _, _, _] [75,76,77,78,79] rfl rfl rfl rfl rfl rfl rfl rfl rfl rfl rfl rfl (fun hb => ?_) ?_; rotate_left
  ·
   (try simp only [hcS] at hb)
   (refine aqP (op_fa_ptr rfl rfl rfl fl42_12 (by exact sz33) (by decide) rfl) ?_)
   (refine aqR (op_load_ptr rfl rfl rfl rfl ag33 sz33 (bl rfl) rfl) ?_)
   (refine aqP (op_fa_ptr rfl rfl rfl fl42_12 (by exact sz33) (by decide) rfl) ?_)
   (refine aqR (op_load_ptr rfl rfl rfl rfl ag33 sz33 (bl rfl) rfl) ?_)
   refine aqP (op_neq33 (p := a.fl) (q := b.fl) rfl rfl rfl) ?_; (simp only [nA])
   (refine aqSeg rfl rfl rfl ?_; repeat (first | exact fun _ _ => rfl | refine upd_out rfl ?_))
  simp only [nA]
  refine aqP (op_move rfl rfl) ?_
  refine' aqOr' [_, _, _, _, _, _, _] [82,83,84,85,86,87,88] rfl rfl rfl rfl rfl rfl rfl rfl rfl rfl rfl rfl (fun hb => ?_) ?_; rotate_left
  ·
   (try simp only [hcS] at hb)
   (refine aqP (op_fa_ptr rfl rfl rfl fl42_7 (by exact sz31) (by decide) rfl) ?_)
   (refine aqR (op_load_ptr1 rfl rfl rfl rfl ag31 rfl rfl) ?_)
   refine aqP (op_len_ro (n := a.reports.length) rfl rfl Tryz.underlying31 (.inr (.inl ⟨_, rfl, by simp⟩))) ?_
   (refine aqP (op_fa_ptr rfl rfl rfl fl42_7 (by exact sz31) (by decide) rfl) ?_)
   (refine aqR (op_load_ptr1 rfl rfl rfl rfl ag31 rfl rfl) ?_)
   refine aqP (op_len_ro (n := b.reports.length) rfl rfl Tryz.underlying31 (.inr (.inl ⟨_, rfl, by simp⟩))) ?_
   (refine aqP (op_neq rfl rfl rfl) ?_)
   (refine aqSeg rfl rfl rfl ?_; repeat (first | exact fun _ _ => rfl | refine upd_out rfl ?_))
  simp only [nA]
  refine aqP (op_move rfl rfl) ?_
  refine' aqOr' [_, _, _, _, _, _] [91,92,93,94,95,96] rfl rfl rfl rfl rfl rfl rfl rfl rfl rfl rfl rfl (fun hb => ?_) ?_; rotate_left
  ·
   (try simp only [hcS] at hb)
   (refine aqP (op_fa_ptr rfl rfl rfl fl42_11 (by exact sz40) (by decide) rfl) ?_)
   (refine aqR (op_load_ptr1 rfl rfl rfl rfl ag40 rfl rfl) ?_)
   (refine aqP (op_fa_ptr rfl rfl rfl fl42_11 (by exact sz40) (by decide) rfl) ?_)
   (refine aqR (op_load_ptr1 rfl rfl rfl rfl ag40 rfl rfl) ?_)
   refine aqQ (op_callQ (b := true) rfl en35 (C35 (a := a.ops) (b := b.ops) h2) (RL.cons (by exact View.same rfl) (RL.cons (by exact View.same rfl) (RL.nil))) rfl) ?_; (simp only [nA])
   refine aqP (op_not rfl rfl rfl) ?_
   (refine aqSeg rfl rfl rfl ?_; repeat (first | exact fun _ _ => rfl | refine upd_out rfl ?_))
  simp only [nA]
  refine AQ.nil ?_
  (refine hK _ ?_; clear hK K; (skip))
  refine AW.cond rfl rfl rfl (fun hc => ?_) (fun hc => ?_)
  ·
   have hc1 := hc
   (refine AW.seq_k ?_; intro K hK)
   refine AW.region ?_
   refine awP (op_assign rfl rfl) ?_
   refine AWL.nil ?_
   (refine hK _ ?_; clear hK K; (try simp only [nA, Nat.reduceBEq, Nat.reduceEqDiff, ↓reduceIte, Nat.reduceAdd, Nat.reduceSub]))
   skip
   refine AW.ret ?_; (try simp only [thenE, inBlk, Nat.reduceEqDiff, ↓reduceIte]); rw [show sameR a b = false by unfold sameR; rw [show headNe a b = true from hc1]; rfl]; exact RQ.of0 rfl (.tmp (bl rfl) rfl rfl .nil)
  have hc1 := hc; have hle : a.reports.length = b.reports.length := (by have h : headNe a b = false := hc1; unfold headNe at h; simp only [Bool.or_eq_false_iff] at h; have h2 := h.1.2; have e : (a.reports.length : Int) = b.reports.length := (by simpa using h2); omega)
  refine AW.skip ?_
  (refine hK _ ?_; clear hK K; (skip))
  (refine AW.seq_k ?_; intro K hK)
  (refine AW.seq_k ?_; intro K hK)
  refine AW.region ?_
  refine awP (op_assign rfl rfl) ?_
  refine AWL.nil ?_
  (refine hK _ ?_; clear hK K; (try simp only [nA, Nat.reduceBEq, Nat.reduceEqDiff, ↓reduceIte, Nat.reduceAdd, Nat.reduceSub]))
  refine AW.block ?_
  refine AW.loopI (fun i => [(2, .ptr 0 1 0 0), (3, .ptr 1 2 0 0), (5, .v (.int .i64 (i : Nat)))]) (fun i => ⟨[(1, .own 42 [a.av]), (2, .own 42 [b.av])], 3⟩) (fun i => i ≤ a.reports.length ∧ ∀ k, k < i → rpEq (a.reports.getD k default) (b.reports.getD k default) = true) (fun i => a.reports.length - i) 0 (by simp) ⟨rfl, rfl, rfl, trivial⟩ rfl ?_; intro i ρ hi; simp only [updL]
  (refine AW.seq_k ?_; intro K hK)
  (refine AW.seq_k ?_; intro K hK)
  refine AW.region ?_
  refine awP (op_move rfl rfl) ?_
  (refine awP (op_fa_ptr rfl rfl rfl fl42_7 (by exact sz31) (by decide) rfl) ?_)
  (refine awR (op_load_ptr1 rfl rfl rfl rfl ag31 rfl rfl) ?_)
  refine awP (op_len_ro (n := a.reports.length) rfl rfl Tryz.underlying31 (.inr (.inl ⟨_, rfl, by simp⟩))) ?_
  refine awP (op_lss rfl rfl rfl) ?_
  refine AWL.nil ?_
  (refine hK _ ?_; clear hK K; (simp only [nA, ↓reduceIte]))
  refine AW.cond rfl rfl rfl (fun hc => ?_) (fun hc => ?_)
  ·
   have hc2 := hc; have hlt : i < a.reports.length := (by simpa using hc2)
   refine AW.skip ?_
   (refine hK _ ?_; clear hK K; (skip))
   (refine AW.seq_k ?_; intro K hK)
   refine AW.block ?_
   (refine AW.seq_k ?_; intro K hK)
   refine AW.quiet mix (by kernel_rfl) ?_
   (refine aqP (op_fa_ptr rfl rfl rfl fl42_7 (by exact sz31) (by decide) rfl) ?_)
   (refine aqR (op_load_ptr1 rfl rfl rfl rfl ag31 rfl rfl) ?_)
   refine aqP (op_move rfl rfl) ?_
   refine aqP (op_ia_ro i rfl (.inl rfl) rfl Tryz.underlying31 rfl (get_mapD (by omega)) (by exact sz60) (bl rfl)) ?_
   (refine aqR (op_load_rop rfl rfl ag60 sz60 (bl rfl) (by decide) rfl) ?_)
   (refine aqP (op_fa_ptr rfl rfl rfl fl42_7 (by exact sz31) (by decide) rfl) ?_)
   (refine aqR (op_load_ptr1 rfl rfl rfl rfl ag31 rfl rfl) ?_)
   refine aqP (op_move rfl rfl) ?_
   refine aqP (op_ia_ro i rfl (.inl rfl) rfl Tryz.underlying31 rfl (get_mapD (by omega)) (by exact sz60) (bl rfl)) ?_
   (refine aqR (op_load_rop rfl rfl ag60 sz60 (bl rfl) (by decide) rfl) ?_)
   refine aqP (op_neq60 (p := a.reports.getD i default) (q := b.reports.getD i default) rfl rfl rfl) ?_; (simp only [nA, ↓reduceIte])
   refine AQ.nil ?_
   (refine hK _ ?_; clear hK K; (skip))
   refine AW.cond rfl rfl rfl (fun hc => ?_) (fun hc => ?_)
   ·
    have hc3 := hc
    (refine AW.seq_k ?_; intro K hK)
    refine AW.region ?_
    refine awP (op_assign rfl rfl) ?_
    refine AWL.nil ?_
    (refine hK _ ?_; clear hK K; (try simp only [nA, Nat.reduceBEq, Nat.reduceEqDiff, ↓reduceIte, Nat.reduceAdd, Nat.reduceSub]))
    skip
    refine AW.ret ?_; (try simp only [thenE, inBlk, Nat.reduceEqDiff, ↓reduceIte]); rw [show sameR a b = false by unfold sameR; rw [all_range_no hlt (by simpa using hc3), Bool.and_false]]; exact RQ.of0 rfl (.tmp (bl rfl) rfl rfl .nil)
   have hc3 := hc
   refine AW.skip ?_
   (try simp only [thenE, inBlk, Nat.reduceEqDiff, ↓reduceIte])
   (refine hK _ ?_; clear hK K; (skip))
   refine AW.region ?_
   refine awP (op_move rfl rfl) ?_
   (refine awP (op_addi rfl rfl rfl (by omega)) ?_)
   refine awP (op_assign rfl rfl) ?_
   skip
   refine AWL.nil ?_
   refine ⟨i + 1, ⟨by omega, all_b_step hi.2 (by simpa using hc3)⟩, by omega, ⟨rfl, rfl, rfl, trivial⟩, (by rfl), (by rfl)⟩
  have hc2 := hc; have hnl : ¬ i < a.reports.length := (by simpa using hc2)
  refine AW.exit ?_; (try simp only [thenE, inBlk, Nat.reduceEqDiff, ↓reduceIte])
  clear hK K
  (refine hK _ ?_; clear hK K; (skip))
  (refine AW.seq_k ?_; intro K hK)
  refine AW.region ?_
  refine awP (op_assign rfl rfl) ?_
  refine AWL.nil ?_
  (refine hK _ ?_; clear hK K; (try simp only [nA, Nat.reduceBEq, Nat.reduceEqDiff, ↓reduceIte, Nat.reduceAdd, Nat.reduceSub]))
  skip
  refine AW.ret ?_; (try simp only [thenE, inBlk, Nat.reduceEqDiff, ↓reduceIte]); rw [show sameR a b = true by unfold sameR; rw [show headNe a b = false from hc1, all_range_yes hnl hi.2]; rfl]; exact RQ.of0 rfl (.tmp (bl rfl) rfl rfl .nil)
set_option maxHeartbeats 8000000 in
theorem C11 {a b : Ev} (h1 : a.reports.length ≤ 1000000) (h2 : a.ops.length ≤ 1000000) : Fn Tryz.prog 11 [] [.agg a.av, .agg b.av] [.v (.bool (sameB a b))] [] := by
  rw [← sameR_eq]; exact C11r h1 h2
end Go.Proofs.YtfmnaigedgmhoaaGreatDoor
namespace Go.Proofs.YtfmnaigedgmhoaaGreatDoor
open Go.RowKit
set_option linter.unusedSimpArgs false
set_option linter.unusedVariables false
set_option maxRecDepth 100000
def fldI (k : Int) : List Int := (fieldsL k).map fun n => ((n : Nat) : Int)
theorem fldI_row {k : Int} (h : 1 ≤ k ∧ k ≤ 14) : gRows[k.toNat]? = some (fldI k) := by
  rcases kind_cases h with rfl | rfl | rfl | rfl | rfl | rfl | rfl | rfl | rfl | rfl | rfl | rfl | rfl | rfl <;> rfl
theorem fields_bd (k : Int) : ∀ p ∈ fieldsL k, p ≤ 11 := by
  rcases fields_len k with e | ⟨p, e⟩ | ⟨_, e⟩ | ⟨_, e⟩ | ⟨_, e⟩ | ⟨_, e⟩ | ⟨_, e⟩ | ⟨_, e⟩ <;> rw [e]
  · intro p hp; cases hp
  · intro q hq
    obtain rfl : q = p := by simpa using hq
    have h2 : q ∈ fieldsL k := by rw [e]; simp
    by_cases hk : 1 ≤ k ∧ k ≤ 14
    · rcases kind_cases hk with rfl | rfl | rfl | rfl | rfl | rfl | rfl | rfl | rfl | rfl | rfl | rfl | rfl | rfl <;> simp [fieldsL] at h2 <;> omega
    have : fieldsL k = [] := by unfold fieldsL; repeat rw [if_neg (by omega)]
    rw [this] at h2; cases h2
  all_goals decide
theorem fldI_bd {k : Int} {i : Nat} (h : i < (fldI k).length) : 0 ≤ (fldI k).getD i default ∧ (fldI k).getD i default ≤ 11 := by
  rw [getD_of h]
  obtain ⟨n, hn, e⟩ := List.mem_map.1 (List.getElem_mem h)
  have := fields_bd k n hn
  omega
theorem fldI_len (k : Int) : (fldI k).length ≤ 2 := by
  unfold fldI
  rw [List.length_map]
  rcases fields_len k with e | ⟨p, e⟩ | ⟨_, e⟩ | ⟨_, e⟩ | ⟨_, e⟩ | ⟨_, e⟩ | ⟨_, e⟩ | ⟨_, e⟩ <;> rw [e] <;> simp
def clrI (z : Ev) (l : List Int) (x : Ev) : Ev := l.foldl (fun y p => setP p.toNat z y) x
theorem clr_step {z x y : Ev} {l : List Int} {i p : Nat} (h : i < l.length) (hy : y = clrI z (l.take i) x) (hp : l.getD i default = (p : Int)) : setP p z y = clrI z (l.take (i + 1)) x := by
  unfold clrI at *
  rw [List.take_add_one, List.getElem?_eq_getElem h, List.foldl_append, ← hy]
  rw [getD_of h] at hp
  simp [hp]
theorem clr_kind (z : Ev) : ∀ (l : List Int) (x : Ev), (clrI z l x).kind = x.kind
  | [], _ => rfl
  | p :: l, x => (clr_kind z l _).trans set_kind
theorem set_back : ∀ (p : Nat) (x z : Ev), setP p x (setP p z x) = x
  | 0, _, _ => rfl
  | 1, _, _ => rfl
  | 2, _, _ => rfl
  | 3, _, _ => rfl
  | 4, _, _ => rfl
  | 5, _, _ => rfl
  | 6, _, _ => rfl
  | 7, _, _ => rfl
  | 8, _, _ => rfl
  | 9, _, _ => rfl
  | 10, _, _ => rfl
  | 11, _, _ => rfl
  | _ + 12, _, _ => rfl
theorem spare_iff (x : Ev) : clrI (ev0 x.kind) (fldI x.kind) x = ev0 x.kind ↔ x = onlyV x := by
  have two : ∀ p q, p ≠ q → fieldsL x.kind = [p, q] → (clrI (ev0 x.kind) (fldI x.kind) x = ev0 x.kind ↔ x = onlyV x) := fun p q hpq e => by
    unfold onlyV fldI
    rw [e]
    generalize ev0 x.kind = z
    show setP q z (setP p z x) = z ↔ x = setP q x (setP p x z)
    constructor
    · intro h
      have h2 : setP q x (setP p x (setP q z (setP p z x))) = x := by rw [set_set hpq, set_back, set_back]
      rw [h] at h2
      exact h2.symm
    intro h
    have h2 : setP q z (setP p z (setP q x (setP p x z))) = z := by rw [set_set hpq, set_back, set_back]
    rw [← h] at h2
    exact h2
  rcases fields_len x.kind with e | ⟨p, e⟩ | ⟨_, e⟩ | ⟨_, e⟩ | ⟨_, e⟩ | ⟨_, e⟩ | ⟨_, e⟩ | ⟨_, e⟩
  · unfold onlyV fldI
    rw [e]
    exact Iff.rfl
  · unfold onlyV fldI
    rw [e]
    generalize ev0 x.kind = z
    show setP p z x = z ↔ x = setP p x z
    constructor
    · intro h
      have h2 := set_back p x z
      rw [h] at h2
      exact h2.symm
    intro h
    have h2 := set_back p z x
    rw [← h] at h2
    exact h2
  · exact two _ _ (by decide) e
  · exact two _ _ (by decide) e
  · exact two _ _ (by decide) e
  · exact two _ _ (by decide) e
  · exact two _ _ (by decide) e
  exact two _ _ (by decide) e
theorem le_rs (y : Ev) : RL Le1 [evC y (.v (.slice none 0 0)) (.ro (y.ops.map Op.av))].flatten [({ y with reports := [] } : Ev).av].flatten := by
  repeat (first | exact RL.nil | refine RL.cons Le1.same ?_ | refine RL.cons Le1.nil ?_)
theorem le_os (y : Ev) : RL Le1 [evC y (.ro (y.reports.map Report.av)) (.v (.slice none 0 0))].flatten [({ y with ops := [] } : Ev).av].flatten := by
  repeat (first | exact RL.nil | refine RL.cons Le1.same ?_ | refine RL.cons Le1.nil ?_)
theorem le_ev0 (k : Int) : RL Le1 (evC (ev0 k) (.v (.slice none 0 0)) (.v (.slice none 0 0))) (ev0 k).av := by
  repeat (first | exact RL.nil | refine RL.cons Le1.same ?_ | refine RL.cons Le1.nil ?_)
theorem clr_len (z : Ev) (hz : z.reports = [] ∧ z.ops = []) : ∀ (l : List Int) (x : Ev), (clrI z l x).reports.length ≤ x.reports.length ∧ (clrI z l x).ops.length ≤ x.ops.length
  | [], _ => ⟨Nat.le_refl _, Nat.le_refl _⟩
  | p :: l, x => by
    have h := clr_len z hz l (setP p.toNat z x)
    have h2 : (setP p.toNat z x).reports.length ≤ x.reports.length ∧ (setP p.toNat z x).ops.length ≤ x.ops.length := by
      unfold setP
      split <;> simp [hz.1, hz.2]
    exact ⟨Nat.le_trans h.1 h2.1, Nat.le_trans h.2 h2.2⟩
set_option maxHeartbeats 8000000 in
theorem C53r {x : Ev} (hk : 1 ≤ x.kind ∧ x.kind ≤ 14) (h1 : x.reports.length ≤ 1000000) (h2 : x.ops.length ≤ 1000000) : Fn Tryz.prog 53 [] [.agg x.av] [.v (.bool (sameB (clrI (ev0 x.kind) (fldI x.kind) x) (ev0 x.kind)))] [] := by
  refine Spec.body Tryz.func53 rfl Tryz.ntmps53 (by simp) rfl ?_; intro S0 own0 v0 w0 gl
  (refine AW.seq_k ?_; intro K hK)
  refine AW.region ?_
  refine awJ (op_box rfl rfl rfl sz42 rfl) ?_; (simp only [nA, Nat.reduceBEq, Nat.reduceEqDiff, ↓reduceIte])
  refine awP (op_assign rfl rfl) ?_
  refine AWL.nil ?_
  (refine hK _ ?_; clear hK K; (try simp only [nA, Nat.reduceBEq, Nat.reduceEqDiff, ↓reduceIte, Nat.reduceAdd, Nat.reduceSub]))
  (refine AW.seq_k ?_; intro K hK)
  (refine AW.seq_k ?_; intro K hK)
  refine AW.region ?_
  (refine awP (op_fa_ptr rfl rfl rfl fl42_0 (by exact sz3) (by decide) rfl) ?_)
  (refine awR (op_load_ptr1 rfl rfl rfl rfl ag3 rfl rfl) ?_)
  refine awP (op_ia_glob x.kind.toNat rfl rfl Tryz.underlying78 (by omega) (fldI_row hk) (by exact sz77)) ?_
  (refine awR (op_load_rop1 rfl rfl ag77) ?_)
  refine awP (op_len_ro (n := (fldI x.kind).length) rfl rfl Tryz.underlying77 (.inr (.inl ⟨_, rfl, by simp⟩))) ?_
  refine awP (op_move rfl rfl) ?_
  refine AWL.nil ?_
  (refine hK _ ?_; clear hK K; (try simp only [nA, Nat.reduceBEq, Nat.reduceEqDiff, ↓reduceIte, Nat.reduceAdd, Nat.reduceSub]))
  refine AW.block ?_
  refine AW.loopI (fun (q : Nat × Ev) => [(1, .ptr 0 1 0 0), (8, .ro ((fldI x.kind).map fun n => [.v (.int .i64 n)])), (9, .v (.int .i64 (fldI x.kind).length)), (10, .v (.int .i64 (q.1 : Nat)))]) (fun q => ⟨[(1, .own 42 [q.2.av])], 2⟩) (fun q => q.1 ≤ (fldI x.kind).length ∧ q.2 = clrI (ev0 x.kind) ((fldI x.kind).take q.1) x) (fun q => (fldI x.kind).length - q.1) (0, x) ⟨by simp, rfl⟩ ⟨rfl, rfl, rfl, rfl, trivial⟩ rfl ?_; rintro ⟨i, y⟩ ρ ⟨hi, hy⟩; dsimp only at hi hy ⊢; simp only [updL]; have hyk : y.kind = x.kind := (by rw [hy]; exact clr_kind _ _ _); have hyl := clr_len (ev0 x.kind) ⟨rfl, rfl⟩ ((fldI x.kind).take i) x; rw [← hy] at hyl
  (refine AW.seq_k ?_; intro K hK)
  refine AW.region ?_
  refine awP (op_lss rfl rfl rfl) ?_
  refine AWL.nil ?_
  (refine hK _ ?_; clear hK K; (try simp only [nA, Nat.reduceBEq, Nat.reduceEqDiff, ↓reduceIte, Nat.reduceAdd, Nat.reduceSub]))
  (refine AW.seq_k ?_; intro K hK)
  refine AW.cond rfl rfl rfl (fun hc => ?_) (fun hc => ?_)
  ·
   have hc1 := hc; have hlt : i < (fldI x.kind).length := (by simpa using hc1); have hpb := fldI_bd hlt; have hfl := fldI_len x.kind
   refine AW.skip ?_
   (refine hK _ ?_; clear hK K; (skip))
   (refine AW.seq_k ?_; intro K hK)
   refine AW.block ?_
   (refine AW.seq_k ?_; intro K hK)
   refine AW.region ?_
   refine awP (op_ia_ro i rfl (.inl rfl) rfl Tryz.underlying77 rfl (get_mapD (by omega)) (by exact sz79) (bl rfl)) ?_
   (refine awR (op_load_rop1 rfl rfl ag79) ?_)
   refine awP (op_assign rfl rfl) ?_
   refine AWL.nil ?_
   (refine hK _ ?_; clear hK K; (simp only [nA]))
   (refine AW.seq_k ?_; intro K hK)
   refine AW.region ?_
   refine awP (op_move rfl rfl) ?_
   refine AWL.nil ?_
   (refine hK _ ?_; clear hK K; (simp only [nA]))
   refine AW.block ?_
   (refine AW.seq_k ?_; intro K hK)
   refine AW.region ?_
   (refine awP (op_eql rfl rfl rfl) ?_)
   refine awP (op_assign rfl rfl) ?_
   refine AWL.nil ?_
   (refine hK _ ?_; clear hK K; (simp only [nA]))
   refine AW.cond rfl rfl rfl (fun hc => ?_) (fun hc => ?_)
   ·
    have hc2 := hc; have hp : (fldI x.kind).getD i default = 0 := (by simpa using hc2)
    refine AW.region ?_
    (refine awP (op_fa_ptr rfl rfl rfl fl42_1 (by exact sz3) (by decide) rfl) ?_)
    refine awJ (op_store rfl rfl rfl rfl rfl rfl sz3 rfl (bl rfl) rfl) ?_; (try simp only [nA, Nat.reduceBEq, Nat.reduceEqDiff, ↓reduceIte, Nat.reduceAdd, Nat.reduceSub])
    refine AWL.nil ?_
    (try simp only [thenE, inBlk, Nat.reduceEqDiff, ↓reduceIte])
    (try simp only [thenE, inBlk, Nat.reduceEqDiff, ↓reduceIte])
    (refine hK _ ?_; clear hK K; (skip))
    refine AW.region ?_
    (refine awP (op_addi rfl rfl rfl (by omega)) ?_)
    refine awP (op_move rfl rfl) ?_
    skip
    refine AWL.nil ?_
    refine ⟨(i + 1, setP 0 (ev0 x.kind) y), ⟨by dsimp only; omega, clr_step hlt hy hp⟩, by dsimp only; omega, ⟨rfl, rfl, rfl, by dsimp only; exact congrArg (fun z => AV.v (.int .i64 z)) (by omega), trivial⟩, (by rfl), (by rfl)⟩
   have hc2 := hc
   (refine AW.seq_k ?_; intro K hK)
   refine AW.region ?_
   (refine awP (op_eql rfl rfl rfl) ?_)
   refine awP (op_assign rfl rfl) ?_
   refine AWL.nil ?_
   (refine hK _ ?_; clear hK K; (simp only [nA]))
   refine AW.cond rfl rfl rfl (fun hc => ?_) (fun hc => ?_)
   ·
    have hc3 := hc; have hp : (fldI x.kind).getD i default = 1 := (by simpa using hc3)
    refine AW.region ?_
    (refine awP (op_fa_ptr rfl rfl rfl fl42_2 (by exact sz9) (by decide) rfl) ?_)
    refine awJ (op_store rfl rfl rfl rfl rfl rfl sz9 rfl (bl rfl) rfl) ?_; (try simp only [nA, Nat.reduceBEq, Nat.reduceEqDiff, ↓reduceIte, Nat.reduceAdd, Nat.reduceSub])
    refine AWL.nil ?_
    (try simp only [thenE, inBlk, Nat.reduceEqDiff, ↓reduceIte])
    (try simp only [thenE, inBlk, Nat.reduceEqDiff, ↓reduceIte])
    (refine hK _ ?_; clear hK K; (skip))
    refine AW.region ?_
    (refine awP (op_addi rfl rfl rfl (by omega)) ?_)
    refine awP (op_move rfl rfl) ?_
    skip
    refine AWL.nil ?_
    refine ⟨(i + 1, setP 1 (ev0 x.kind) y), ⟨by dsimp only; omega, clr_step hlt hy hp⟩, by dsimp only; omega, ⟨rfl, rfl, rfl, by dsimp only; exact congrArg (fun z => AV.v (.int .i64 z)) (by omega), trivial⟩, (by rfl), (by rfl)⟩
   have hc3 := hc
   (refine AW.seq_k ?_; intro K hK)
   refine AW.region ?_
   (refine awP (op_eql rfl rfl rfl) ?_)
   refine awP (op_assign rfl rfl) ?_
   refine AWL.nil ?_
   (refine hK _ ?_; clear hK K; (simp only [nA]))
   refine AW.cond rfl rfl rfl (fun hc => ?_) (fun hc => ?_)
   ·
    have hc4 := hc; have hp : (fldI x.kind).getD i default = 2 := (by simpa using hc4)
    refine AW.region ?_
    refine awP (op_build2 (xs := [.v (.int .i64 0), .v (.int .i64 0), .v (.int .i64 0)]) rfl pl30 ze30 [] rfl rfl rfl) ?_
    (refine awP (op_fa_ptr rfl rfl rfl fl42_3 (by exact sz30) (by decide) rfl) ?_)
    refine awJ (op_store rfl rfl rfl rfl rfl rfl sz30 rfl (bl rfl) rfl) ?_; (try simp only [nA, Nat.reduceBEq, Nat.reduceEqDiff, ↓reduceIte, Nat.reduceAdd, Nat.reduceSub])
    refine AWL.nil ?_
    (try simp only [thenE, inBlk, Nat.reduceEqDiff, ↓reduceIte])
    (try simp only [thenE, inBlk, Nat.reduceEqDiff, ↓reduceIte])
    (refine hK _ ?_; clear hK K; (skip))
    refine AW.region ?_
    (refine awP (op_addi rfl rfl rfl (by omega)) ?_)
    refine awP (op_move rfl rfl) ?_
    skip
    refine AWL.nil ?_
    refine ⟨(i + 1, setP 2 (ev0 x.kind) y), ⟨by dsimp only; omega, clr_step hlt hy hp⟩, by dsimp only; omega, ⟨rfl, rfl, rfl, by dsimp only; exact congrArg (fun z => AV.v (.int .i64 z)) (by omega), trivial⟩, (by rfl), (by rfl)⟩
   have hc4 := hc
   (refine AW.seq_k ?_; intro K hK)
   refine AW.region ?_
   (refine awP (op_eql rfl rfl rfl) ?_)
   refine awP (op_assign rfl rfl) ?_
   refine AWL.nil ?_
   (refine hK _ ?_; clear hK K; (simp only [nA]))
   refine AW.cond rfl rfl rfl (fun hc => ?_) (fun hc => ?_)
   ·
    have hc5 := hc; have hp : (fldI x.kind).getD i default = 3 := (by simpa using hc5)
    refine AW.region ?_
    (refine awP (op_fa_ptr rfl rfl rfl fl42_4 (by exact sz3) (by decide) rfl) ?_)
    refine awJ (op_store rfl rfl rfl rfl rfl rfl sz3 rfl (bl rfl) rfl) ?_; (try simp only [nA, Nat.reduceBEq, Nat.reduceEqDiff, ↓reduceIte, Nat.reduceAdd, Nat.reduceSub])
    refine AWL.nil ?_
    (try simp only [thenE, inBlk, Nat.reduceEqDiff, ↓reduceIte])
    (try simp only [thenE, inBlk, Nat.reduceEqDiff, ↓reduceIte])
    (refine hK _ ?_; clear hK K; (skip))
    refine AW.region ?_
    (refine awP (op_addi rfl rfl rfl (by omega)) ?_)
    refine awP (op_move rfl rfl) ?_
    skip
    refine AWL.nil ?_
    refine ⟨(i + 1, setP 3 (ev0 x.kind) y), ⟨by dsimp only; omega, clr_step hlt hy hp⟩, by dsimp only; omega, ⟨rfl, rfl, rfl, by dsimp only; exact congrArg (fun z => AV.v (.int .i64 z)) (by omega), trivial⟩, (by rfl), (by rfl)⟩
   have hc5 := hc
   (refine AW.seq_k ?_; intro K hK)
   refine AW.region ?_
   (refine awP (op_eql rfl rfl rfl) ?_)
   refine awP (op_assign rfl rfl) ?_
   refine AWL.nil ?_
   (refine hK _ ?_; clear hK K; (simp only [nA]))
   refine AW.cond rfl rfl rfl (fun hc => ?_) (fun hc => ?_)
   ·
    have hc6 := hc; have hp : (fldI x.kind).getD i default = 4 := (by simpa using hc6)
    refine AW.region ?_
    (refine awP (op_fa_ptr rfl rfl rfl fl42_5 (by exact sz3) (by decide) rfl) ?_)
    refine awJ (op_store rfl rfl rfl rfl rfl rfl sz3 rfl (bl rfl) rfl) ?_; (try simp only [nA, Nat.reduceBEq, Nat.reduceEqDiff, ↓reduceIte, Nat.reduceAdd, Nat.reduceSub])
    refine AWL.nil ?_
    (try simp only [thenE, inBlk, Nat.reduceEqDiff, ↓reduceIte])
    (try simp only [thenE, inBlk, Nat.reduceEqDiff, ↓reduceIte])
    (refine hK _ ?_; clear hK K; (skip))
    refine AW.region ?_
    (refine awP (op_addi rfl rfl rfl (by omega)) ?_)
    refine awP (op_move rfl rfl) ?_
    skip
    refine AWL.nil ?_
    refine ⟨(i + 1, setP 4 (ev0 x.kind) y), ⟨by dsimp only; omega, clr_step hlt hy hp⟩, by dsimp only; omega, ⟨rfl, rfl, rfl, by dsimp only; exact congrArg (fun z => AV.v (.int .i64 z)) (by omega), trivial⟩, (by rfl), (by rfl)⟩
   have hc6 := hc
   (refine AW.seq_k ?_; intro K hK)
   refine AW.region ?_
   (refine awP (op_eql rfl rfl rfl) ?_)
   refine awP (op_assign rfl rfl) ?_
   refine AWL.nil ?_
   (refine hK _ ?_; clear hK K; (simp only [nA]))
   refine AW.cond rfl rfl rfl (fun hc => ?_) (fun hc => ?_)
   ·
    have hc7 := hc; have hp : (fldI x.kind).getD i default = 5 := (by simpa using hc7)
    refine AW.region ?_
    (refine awP (op_fa_ptr rfl rfl rfl fl42_6 (by exact sz4) (by decide) rfl) ?_)
    refine awJ (op_store rfl rfl rfl rfl rfl rfl sz4 rfl (bl rfl) rfl) ?_; (try simp only [nA, Nat.reduceBEq, Nat.reduceEqDiff, ↓reduceIte, Nat.reduceAdd, Nat.reduceSub])
    refine AWL.nil ?_
    (try simp only [thenE, inBlk, Nat.reduceEqDiff, ↓reduceIte])
    (try simp only [thenE, inBlk, Nat.reduceEqDiff, ↓reduceIte])
    (refine hK _ ?_; clear hK K; (skip))
    refine AW.region ?_
    (refine awP (op_addi rfl rfl rfl (by omega)) ?_)
    refine awP (op_move rfl rfl) ?_
    skip
    refine AWL.nil ?_
    refine ⟨(i + 1, setP 5 (ev0 x.kind) y), ⟨by dsimp only; omega, clr_step hlt hy hp⟩, by dsimp only; omega, ⟨rfl, rfl, rfl, by dsimp only; exact congrArg (fun z => AV.v (.int .i64 z)) (by omega), trivial⟩, (by rfl), (by rfl)⟩
   have hc7 := hc
   (refine AW.seq_k ?_; intro K hK)
   refine AW.region ?_
   (refine awP (op_eql rfl rfl rfl) ?_)
   refine awP (op_assign rfl rfl) ?_
   refine AWL.nil ?_
   (refine hK _ ?_; clear hK K; (simp only [nA]))
   refine AW.cond rfl rfl rfl (fun hc => ?_) (fun hc => ?_)
   ·
    have hc8 := hc; have hp : (fldI x.kind).getD i default = 6 := (by simpa using hc8)
    refine AW.region ?_
    (refine awP (op_fa_ptr rfl rfl rfl fl42_7 (by exact sz31) (by decide) rfl) ?_)
    refine awJ (op_store rfl rfl rfl rfl rfl rfl sz31 rfl (bl rfl) rfl) ?_; (try simp only [nA, Nat.reduceBEq, Nat.reduceEqDiff, ↓reduceIte, Nat.reduceAdd, Nat.reduceSub]); refine AWL.gh (Gh.slot (r := 0) (es' := [({ y with reports := [] } : Ev).av]) rfl rfl (le_rs y)) ?_; (try simp only [nA, Nat.reduceBEq, Nat.reduceEqDiff, ↓reduceIte, Nat.reduceAdd, Nat.reduceSub])
    refine AWL.nil ?_
    (try simp only [thenE, inBlk, Nat.reduceEqDiff, ↓reduceIte])
    (try simp only [thenE, inBlk, Nat.reduceEqDiff, ↓reduceIte])
    (refine hK _ ?_; clear hK K; (skip))
    refine AW.region ?_
    (refine awP (op_addi rfl rfl rfl (by omega)) ?_)
    refine awP (op_move rfl rfl) ?_
    skip
    refine AWL.nil ?_
    refine ⟨(i + 1, setP 6 (ev0 x.kind) y), ⟨by dsimp only; omega, clr_step hlt hy hp⟩, by dsimp only; omega, ⟨rfl, rfl, rfl, by dsimp only; exact congrArg (fun z => AV.v (.int .i64 z)) (by omega), trivial⟩, (by rfl), (by rfl)⟩
   have hc8 := hc
   (refine AW.seq_k ?_; intro K hK)
   refine AW.region ?_
   (refine awP (op_eql rfl rfl rfl) ?_)
   refine awP (op_assign rfl rfl) ?_
   refine AWL.nil ?_
   (refine hK _ ?_; clear hK K; (simp only [nA]))
   refine AW.cond rfl rfl rfl (fun hc => ?_) (fun hc => ?_)
   ·
    have hc9 := hc; have hp : (fldI x.kind).getD i default = 7 := (by simpa using hc9)
    refine AW.region ?_
    refine awP (op_build2 (xs := [.v (.int .i64 0), .v (.int .i64 0), .v (.string ⟨#[]⟩), .v (.int .i64 0), .v (.string ⟨#[]⟩), .v (.int .i64 0)]) rfl pl35 ze35 [] rfl rfl rfl) ?_
    (refine awP (op_fa_ptr rfl rfl rfl fl42_8 (by exact sz35) (by decide) rfl) ?_)
    refine awJ (op_store rfl rfl rfl rfl rfl rfl sz35 rfl (bl rfl) rfl) ?_; (try simp only [nA, Nat.reduceBEq, Nat.reduceEqDiff, ↓reduceIte, Nat.reduceAdd, Nat.reduceSub])
    refine AWL.nil ?_
    (try simp only [thenE, inBlk, Nat.reduceEqDiff, ↓reduceIte])
    (try simp only [thenE, inBlk, Nat.reduceEqDiff, ↓reduceIte])
    (refine hK _ ?_; clear hK K; (skip))
    refine AW.region ?_
    (refine awP (op_addi rfl rfl rfl (by omega)) ?_)
    refine awP (op_move rfl rfl) ?_
    skip
    refine AWL.nil ?_
    refine ⟨(i + 1, setP 7 (ev0 x.kind) y), ⟨by dsimp only; omega, clr_step hlt hy hp⟩, by dsimp only; omega, ⟨rfl, rfl, rfl, by dsimp only; exact congrArg (fun z => AV.v (.int .i64 z)) (by omega), trivial⟩, (by rfl), (by rfl)⟩
   have hc9 := hc
   (refine AW.seq_k ?_; intro K hK)
   refine AW.region ?_
   (refine awP (op_eql rfl rfl rfl) ?_)
   refine awP (op_assign rfl rfl) ?_
   refine AWL.nil ?_
   (refine hK _ ?_; clear hK K; (simp only [nA]))
   refine AW.cond rfl rfl rfl (fun hc => ?_) (fun hc => ?_)
   ·
    have hc10 := hc; have hp : (fldI x.kind).getD i default = 8 := (by simpa using hc10)
    refine AW.region ?_
    (refine awP (op_fa_ptr rfl rfl rfl fl42_9 (by exact sz3) (by decide) rfl) ?_)
    refine awJ (op_store rfl rfl rfl rfl rfl rfl sz3 rfl (bl rfl) rfl) ?_; (try simp only [nA, Nat.reduceBEq, Nat.reduceEqDiff, ↓reduceIte, Nat.reduceAdd, Nat.reduceSub])
    refine AWL.nil ?_
    (try simp only [thenE, inBlk, Nat.reduceEqDiff, ↓reduceIte])
    (try simp only [thenE, inBlk, Nat.reduceEqDiff, ↓reduceIte])
    (refine hK _ ?_; clear hK K; (skip))
    refine AW.region ?_
    (refine awP (op_addi rfl rfl rfl (by omega)) ?_)
    refine awP (op_move rfl rfl) ?_
    skip
    refine AWL.nil ?_
    refine ⟨(i + 1, setP 8 (ev0 x.kind) y), ⟨by dsimp only; omega, clr_step hlt hy hp⟩, by dsimp only; omega, ⟨rfl, rfl, rfl, by dsimp only; exact congrArg (fun z => AV.v (.int .i64 z)) (by omega), trivial⟩, (by rfl), (by rfl)⟩
   have hc10 := hc
   (refine AW.seq_k ?_; intro K hK)
   refine AW.region ?_
   (refine awP (op_eql rfl rfl rfl) ?_)
   refine awP (op_assign rfl rfl) ?_
   refine AWL.nil ?_
   (refine hK _ ?_; clear hK K; (simp only [nA]))
   refine AW.cond rfl rfl rfl (fun hc => ?_) (fun hc => ?_)
   ·
    have hc11 := hc; have hp : (fldI x.kind).getD i default = 9 := (by simpa using hc11)
    refine AW.region ?_
    refine awP (op_build2 (xs := [.v (.int .i64 0), .v (.int .i64 0), .v (.int .i64 0), .v (.int .i64 0), .v (.int .i64 0), .v (.int .i64 0), .v (.int .i64 0), .v (.int .i64 0), .v (.int .i64 0), .v (.int .i64 0)]) rfl pl39 ze39 [] rfl rfl rfl) ?_
    (refine awP (op_fa_ptr rfl rfl rfl fl42_10 (by exact sz39) (by decide) rfl) ?_)
    refine awJ (op_store rfl rfl rfl rfl rfl rfl sz39 rfl (bl rfl) rfl) ?_; (try simp only [nA, Nat.reduceBEq, Nat.reduceEqDiff, ↓reduceIte, Nat.reduceAdd, Nat.reduceSub])
    refine AWL.nil ?_
    (try simp only [thenE, inBlk, Nat.reduceEqDiff, ↓reduceIte])
    (try simp only [thenE, inBlk, Nat.reduceEqDiff, ↓reduceIte])
    (refine hK _ ?_; clear hK K; (skip))
    refine AW.region ?_
    (refine awP (op_addi rfl rfl rfl (by omega)) ?_)
    refine awP (op_move rfl rfl) ?_
    skip
    refine AWL.nil ?_
    refine ⟨(i + 1, setP 9 (ev0 x.kind) y), ⟨by dsimp only; omega, clr_step hlt hy hp⟩, by dsimp only; omega, ⟨rfl, rfl, rfl, by dsimp only; exact congrArg (fun z => AV.v (.int .i64 z)) (by omega), trivial⟩, (by rfl), (by rfl)⟩
   have hc11 := hc
   (refine AW.seq_k ?_; intro K hK)
   refine AW.region ?_
   (refine awP (op_eql rfl rfl rfl) ?_)
   refine awP (op_assign rfl rfl) ?_
   refine AWL.nil ?_
   (refine hK _ ?_; clear hK K; (simp only [nA]))
   refine AW.cond rfl rfl rfl (fun hc => ?_) (fun hc => ?_)
   ·
    have hc12 := hc; have hp : (fldI x.kind).getD i default = 10 := (by simpa using hc12)
    refine AW.region ?_
    (refine awP (op_fa_ptr rfl rfl rfl fl42_11 (by exact sz40) (by decide) rfl) ?_)
    refine awJ (op_store rfl rfl rfl rfl rfl rfl sz40 rfl (bl rfl) rfl) ?_; (try simp only [nA, Nat.reduceBEq, Nat.reduceEqDiff, ↓reduceIte, Nat.reduceAdd, Nat.reduceSub]); refine AWL.gh (Gh.slot (r := 0) (es' := [({ y with ops := [] } : Ev).av]) rfl rfl (le_os y)) ?_; (try simp only [nA, Nat.reduceBEq, Nat.reduceEqDiff, ↓reduceIte, Nat.reduceAdd, Nat.reduceSub])
    refine AWL.nil ?_
    (try simp only [thenE, inBlk, Nat.reduceEqDiff, ↓reduceIte])
    (try simp only [thenE, inBlk, Nat.reduceEqDiff, ↓reduceIte])
    (refine hK _ ?_; clear hK K; (skip))
    refine AW.region ?_
    (refine awP (op_addi rfl rfl rfl (by omega)) ?_)
    refine awP (op_move rfl rfl) ?_
    skip
    refine AWL.nil ?_
    refine ⟨(i + 1, setP 10 (ev0 x.kind) y), ⟨by dsimp only; omega, clr_step hlt hy hp⟩, by dsimp only; omega, ⟨rfl, rfl, rfl, by dsimp only; exact congrArg (fun z => AV.v (.int .i64 z)) (by omega), trivial⟩, (by rfl), (by rfl)⟩
   have hc12 := hc
   (refine AW.seq_k ?_; intro K hK)
   refine AW.region ?_
   (refine awP (op_eql rfl rfl rfl) ?_)
   refine awP (op_assign rfl rfl) ?_
   refine AWL.nil ?_
   (refine hK _ ?_; clear hK K; (simp only [nA]))
   refine AW.cond rfl rfl rfl (fun hc => ?_) (fun hc => ?_)
   ·
    have hc13 := hc; have hp : (fldI x.kind).getD i default = 11 := (by simpa using hc13)
    refine AW.region ?_
    refine awP (op_build2 (xs := [.v (.string ⟨#[]⟩), .v (.int .i64 0), .v (.string ⟨#[]⟩), .v (.int .i64 0)]) rfl pl33 ze33 [] rfl rfl rfl) ?_
    (refine awP (op_fa_ptr rfl rfl rfl fl42_12 (by exact sz33) (by decide) rfl) ?_)
    refine awJ (op_store rfl rfl rfl rfl rfl rfl sz33 rfl (bl rfl) rfl) ?_; (try simp only [nA, Nat.reduceBEq, Nat.reduceEqDiff, ↓reduceIte, Nat.reduceAdd, Nat.reduceSub])
    refine AWL.nil ?_
    (try simp only [thenE, inBlk, Nat.reduceEqDiff, ↓reduceIte])
    (try simp only [thenE, inBlk, Nat.reduceEqDiff, ↓reduceIte])
    (refine hK _ ?_; clear hK K; (skip))
    refine AW.region ?_
    (refine awP (op_addi rfl rfl rfl (by omega)) ?_)
    refine awP (op_move rfl rfl) ?_
    skip
    refine AWL.nil ?_
    refine ⟨(i + 1, setP 11 (ev0 x.kind) y), ⟨by dsimp only; omega, clr_step hlt hy hp⟩, by dsimp only; omega, ⟨rfl, rfl, rfl, by dsimp only; exact congrArg (fun z => AV.v (.int .i64 z)) (by omega), trivial⟩, (by rfl), (by rfl)⟩
   have hc13 := hc
   refine AW.skip ?_
   (try simp only [thenE, inBlk, Nat.reduceEqDiff, ↓reduceIte])
   (try simp only [thenE, inBlk, Nat.reduceEqDiff, ↓reduceIte])
   (refine hK _ ?_; clear hK K; (skip))
   refine AW.region ?_
   (refine awP (op_addi rfl rfl rfl (by omega)) ?_)
   refine awP (op_move rfl rfl) ?_
   skip
   refine AWL.nil ?_
   exfalso; simp only [decide_eq_false_iff_not] at hc2 hc3 hc4 hc5 hc6 hc7 hc8 hc9 hc10 hc11 hc12 hc13; omega
  have hc1 := hc; have hnl : ¬ i < (fldI x.kind).length := (by simpa using hc1); rw [List.take_of_length_le (by omega)] at hy
  refine AW.exit ?_; (try simp only [thenE, inBlk, Nat.reduceEqDiff, ↓reduceIte])
  clear hK K
  (refine hK _ ?_; clear hK K; (skip))
  (refine AW.seq_k ?_; intro K hK)
  refine AW.region ?_
  (refine awR (op_load_ptr rfl rfl rfl rfl ag42 sz42 (bl rfl) rfl) ?_)
  (refine awP (op_fa_ptr rfl rfl rfl fl42_0 (by exact sz3) (by decide) rfl) ?_)
  (refine awR (op_load_ptr1 rfl rfl rfl rfl ag3 rfl rfl) ?_)
  refine awP (op_build2 (xs := [_, .v (.int .i64 0), .v (.string ⟨#[]⟩), .v (.int .i64 0), .v (.int .i64 0), .v (.int .i64 0), .v (.int .i64 0), .v (.int .i64 0), .v (.bool false), .v (.slice none 0 0), .v (.int .i64 0), .v (.int .i64 0), .v (.string ⟨#[]⟩), .v (.int .i64 0), .v (.string ⟨#[]⟩), .v (.int .i64 0), .v (.int .i64 0), .v (.int .i64 0), .v (.int .i64 0), .v (.int .i64 0), .v (.int .i64 0), .v (.int .i64 0), .v (.int .i64 0), .v (.int .i64 0), .v (.int .i64 0), .v (.int .i64 0), .v (.int .i64 0), .v (.slice none 0 0), .v (.string ⟨#[]⟩), .v (.int .i64 0), .v (.string ⟨#[]⟩), .v (.int .i64 0)]) rfl pl42 ze42 [(0, [_])] rfl rfl rfl) ?_
  refine AWL.gh (Gh.tmp 59 (cs' := (ev0 y.kind).av) (bl rfl) rfl (le_ev0 _)) ?_; (simp only [nA]); refine awJ (OpQ.j (op_callQ (b := true) rfl en68 (C68 (a := y) (b := ev0 y.kind) (by omega) (by omega)) (RL.cons (by exact View.same rfl) (RL.cons (by exact View.same rfl) (RL.nil))) rfl)) ?_; (try simp only [nA, Nat.reduceBEq, Nat.reduceEqDiff, ↓reduceIte, Nat.reduceAdd, Nat.reduceSub])
  refine awP (op_assign rfl rfl) ?_
  refine AWL.nil ?_
  (refine hK _ ?_; clear hK K; (simp only [nA]))
  skip
  refine AW.ret ?_; (try simp only [thenE, inBlk, Nat.reduceEqDiff, ↓reduceIte]); rw [← hy, ← hyk]; exact RQ.of0 rfl (.tmp (bl rfl) rfl rfl .nil)
set_option maxHeartbeats 8000000 in
theorem C53 {x : Ev} (hk : 1 ≤ x.kind ∧ x.kind ≤ 14) (h1 : x.reports.length ≤ 1000000) (h2 : x.ops.length ≤ 1000000) : Fn Tryz.prog 53 [] [.agg x.av] [.v (.bool (sameB x (onlyV x)))] [] := by
  have e : sameB x (onlyV x) = sameB (clrI (ev0 x.kind) (fldI x.kind) x) (ev0 x.kind) := by
    unfold sameB
    rw [Bool.eq_iff_iff]
    exact (@decide_eq_true_iff _ (Classical.propDecidable _)).trans ((spare_iff x).symm.trans (@decide_eq_true_iff _ (Classical.propDecidable _)).symm)
  rw [e]; exact C53r hk h1 h2
end Go.Proofs.YtfmnaigedgmhoaaGreatDoor
namespace Go.Proofs.YtfmnaigedgmhoaaGreatDoor
open Go.RowKit
set_option linter.unusedSimpArgs false
set_option linter.unusedVariables false
set_option maxRecDepth 100000
structure Ev.Sm (x : Ev) : Prop where
  r : x.reports.length ≤ 1000000
  o : x.ops.length ≤ 1000000
  t : x.text.size ≤ 1000000
  rr : ∀ r ∈ x.reports, r.read.size ≤ 1000000
def chB (c : UInt8) : Bool := decide (c = 63) || dgB c
theorem chB_eq (c : UInt8) : (!decide ((c.toNat : Int) = 63) && (decide ((c.toNat : Int) < 48) || decide ((c.toNat : Int) > 57))) = !chB c := by
  have e : decide (c = 63) = decide ((c.toNat : Int) = 63) := decide_eq_decide.2 ⟨fun h => by subst h; rfl, fun h => UInt8.toNat_inj.1 (by show c.toNat = 63; omega)⟩
  unfold chB dgB
  rw [e]
  by_cases h1 : (c.toNat : Int) = 63
  · simp [h1]
  by_cases h2 : (c.toNat : Int) < 48
  · simp [h1, h2]
  by_cases h3 : (c.toNat : Int) > 57
  · simp [h1, h2, h3]
  simp [h1, h2, h3]; omega
theorem rdB_no {s : ByteArray} (h : s.data.toList.all chB = false) : rdB s = false := by
  unfold rdB
  rw [show (s.data.toList.all fun c => decide (c = 63) || dgB c) = false from h]
  rfl
theorem rdB_yes {s : ByteArray} (h : s.data.toList.all chB = true) : rdB s = (decide ((s.size : Int) = 0) || decide ((s.size : Int) = 10)) := by
  unfold rdB
  rw [show (s.data.toList.all fun c => decide (c = 63) || dgB c) = true from h, Bool.true_and]
  congr 1 <;> exact decide_eq_decide.2 (by omega)
set_option maxHeartbeats 8000000 in
theorem C72 {s : ByteArray} (hs : s.size ≤ 1000000) : Fn Tryz.prog 72 [] [.v (.string s)] [.v (.bool (rdB s))] [] := by
  refine Spec.body Tryz.func72 rfl Tryz.ntmps72 (by simp) rfl ?_; intro S0 own0 v0 w0 gl
  (refine AW.seq_k ?_; intro K hK)
  refine AW.region ?_
  refine awP (op_assign rfl rfl) ?_
  refine AWL.nil ?_
  (refine hK _ ?_; clear hK K; (try simp only [nA, Nat.reduceBEq, Nat.reduceEqDiff, ↓reduceIte, Nat.reduceAdd, Nat.reduceSub]))
  (refine AW.seq_k ?_; intro K hK)
  (refine AW.seq_k ?_; intro K hK)
  refine AW.region ?_
  refine awP (op_move rfl rfl) ?_
  (refine awP (op_len_str rfl rfl Tryz.underlying9) ?_)
  refine awP (op_move rfl rfl) ?_
  refine AWL.nil ?_
  (refine hK _ ?_; clear hK K; (simp only [nA, ↓reduceIte]))
  refine AW.block ?_
  refine AW.loopI (fun i => [(0, .v (.string s)), (5, .v (.int .i64 s.size)), (6, .v (.int .i64 (i : Nat)))]) (fun _ => ⟨[], 1⟩) (fun i => i ≤ s.size ∧ (s.data.toList.take i).all chB = true) (fun i => s.size - i) 0 (by simp) ⟨rfl, rfl, rfl, trivial⟩ rfl ?_; intro i ρ hi; simp only [updL]
  (refine AW.seq_k ?_; intro K hK)
  refine AW.region ?_
  refine awP (op_lss rfl rfl rfl) ?_
  refine AWL.nil ?_
  (refine hK _ ?_; clear hK K; (try simp only [nA, Nat.reduceBEq, Nat.reduceEqDiff, ↓reduceIte, Nat.reduceAdd, Nat.reduceSub]))
  (refine AW.seq_k ?_; intro K hK)
  refine AW.cond rfl rfl rfl (fun hc => ?_) (fun hc => ?_)
  ·
   have hc1 := hc; have hlt : i < s.size := (by simpa using hc1)
   refine AW.skip ?_
   (refine hK _ ?_; clear hK K; (skip))
   (refine AW.seq_k ?_; intro K hK)
   refine AW.block ?_
   (refine AW.seq_k ?_; intro K hK)
   refine AW.region ?_
   refine awP (op_move rfl rfl) ?_
   refine awP (op_assign rfl rfl) ?_
   refine AWL.nil ?_
   (refine hK _ ?_; clear hK K; (simp only [nA, ↓reduceIte]))
   (refine AW.seq_k ?_; intro K hK)
   refine AW.region (AWL.quiet ?_)
   refine aqP (op_move rfl rfl) ?_
   refine aqP (op_move rfl rfl) ?_
   refine aqP (op_ix_str _ rfl rfl rfl Tryz.underlying9 rfl (get_chr (i := i) (by omega))) ?_
   (refine aqP (op_neq rfl rfl rfl) ?_)
   refine aqP (op_move rfl rfl) ?_
   refine' aqAndN' [_, _, _, _, _, _, _, _, _, _] [14,15,16,17,18,19,20,21,22,23] rfl rfl rfl rfl rfl rfl rfl rfl rfl rfl rfl rfl (fun hb => ?_) ?_; rotate_left
   ·
    (try simp only [hcS] at hb)
    refine aqP (op_move rfl rfl) ?_
    refine aqP (op_move rfl rfl) ?_
    refine aqP (op_ix_str _ rfl rfl rfl Tryz.underlying9 rfl (get_chr (i := i) (by omega))) ?_
    refine aqP (op_lss rfl rfl rfl) ?_
    refine aqP (op_move rfl rfl) ?_
    refine' aqOr' [_, _, _, _] [19,20,21,22] rfl rfl rfl rfl rfl rfl rfl rfl rfl rfl rfl rfl (fun hb => ?_) ?_; rotate_left
    ·
     (try simp only [hcS] at hb)
     refine aqP (op_move rfl rfl) ?_
     refine aqP (op_move rfl rfl) ?_
     refine aqP (op_ix_str _ rfl rfl rfl Tryz.underlying9 rfl (get_chr (i := i) (by omega))) ?_
     refine aqP (op_gtr rfl rfl rfl) ?_
     (refine aqSeg rfl rfl rfl ?_; repeat (first | exact fun _ _ => rfl | refine upd_out rfl ?_))
    simp only [nA, ↓reduceIte]
    (refine aqSeg rfl rfl rfl ?_; repeat (first | exact fun _ _ => rfl | refine upd_out rfl ?_ | refine era_out rfl ?_))
   simp only [nA, ↓reduceIte]
   refine AQ.nil ?_
   (refine hK _ ?_; clear hK K; (skip))
   refine AW.cond rfl rfl rfl (fun hc => ?_) (fun hc => ?_)
   ·
    have hc2 := hc; rw [chB_eq] at hc2
    (refine AW.seq_k ?_; intro K hK)
    refine AW.region ?_
    refine awP (op_assign rfl rfl) ?_
    refine AWL.nil ?_
    (refine hK _ ?_; clear hK K; (try simp only [nA, Nat.reduceBEq, Nat.reduceEqDiff, ↓reduceIte, Nat.reduceAdd, Nat.reduceSub]))
    skip
    refine AW.ret ?_; (try simp only [thenE, inBlk, Nat.reduceEqDiff, ↓reduceIte]); rw [rdB_no (all_no hlt (by simpa using hc2))]; exact RQ.of0 rfl (.tmp (bl rfl) rfl rfl .nil)
   have hc2 := hc; rw [chB_eq] at hc2
   refine AW.skip ?_
   (try simp only [thenE, inBlk, Nat.reduceEqDiff, ↓reduceIte])
   (refine hK _ ?_; clear hK K; (skip))
   refine AW.region ?_
   (refine awP (op_addi rfl rfl rfl (by omega)) ?_)
   refine awP (op_move rfl rfl) ?_
   skip
   refine AWL.nil ?_
   refine ⟨i + 1, ⟨by omega, by rw [take_all hlt, hi.2]; simpa using hc2⟩, by omega, ⟨rfl, rfl, rfl, trivial⟩, rfl, rfl⟩
  have hc1 := hc; have hnl : ¬ i < s.size := (by simpa using hc1)
  refine AW.exit ?_; (try simp only [thenE, inBlk, Nat.reduceEqDiff, ↓reduceIte])
  clear hK K
  (refine hK _ ?_; clear hK K; (skip))
  (refine AW.seq_k ?_; intro K hK)
  refine AW.region (AWL.quiet ?_)
  refine aqP (op_move rfl rfl) ?_
  (refine aqP (op_len_str rfl rfl Tryz.underlying9) ?_)
  (refine aqP (op_eql rfl rfl rfl) ?_)
  refine aqP (op_move rfl rfl) ?_
  refine' aqOr' [_, _, _] [30,31,32] rfl rfl rfl rfl rfl rfl rfl rfl rfl rfl rfl rfl (fun hb => ?_) ?_; rotate_left
  ·
   (try simp only [hcS] at hb)
   refine aqP (op_move rfl rfl) ?_
   (refine aqP (op_len_str rfl rfl Tryz.underlying9) ?_)
   (refine aqP (op_eql rfl rfl rfl) ?_)
   (refine aqSeg rfl rfl rfl ?_; repeat (first | exact fun _ _ => rfl | refine upd_out rfl ?_))
  simp only [nA, ↓reduceIte]
  refine aqP (op_assign rfl rfl) ?_
  refine AQ.nil ?_
  (refine hK _ ?_; clear hK K; (simp only [nA]))
  skip
  refine AW.ret ?_; (try simp only [thenE, inBlk, Nat.reduceEqDiff, ↓reduceIte]); rw [rdB_yes (by rw [← all_take hnl]; exact hi.2)]; exact RQ.of0 rfl (.tmp (bl rfl) rfl rfl .nil)
def p62 (r : Report) : Bool := !inB r.device 0 23 || !rdB r.read
def p67 (x : Ev) (o : Op) : Bool := !opB o || !decide (o.device = x.device)
set_option maxHeartbeats 8000000 in
theorem C71 {r : Report} (hr : r.read.size ≤ 1000000) : Fn Tryz.prog 71 [] [.agg r.av] [.v (.bool (p62 r))] [] := by
  refine Spec.body Tryz.func71 rfl Tryz.ntmps71 (by simp) rfl ?_; intro S0 own0 v0 w0 gl
  (refine AW.seq_k ?_; intro K hK)
  refine AW.region ?_
  refine awJ (op_box rfl rfl rfl sz60 rfl) ?_; (simp only [nA, Nat.reduceBEq, Nat.reduceEqDiff, ↓reduceIte])
  refine awP (op_assign rfl rfl) ?_
  refine AWL.nil ?_
  (refine hK _ ?_; clear hK K; (try simp only [nA, Nat.reduceBEq, Nat.reduceEqDiff, ↓reduceIte, Nat.reduceAdd, Nat.reduceSub]))
  (refine AW.seq_k ?_; intro K hK)
  refine AW.region (AWL.quiet ?_)
  (refine aqP (op_fa_ptr rfl rfl rfl fl60_0 (by exact sz3) (by decide) rfl) ?_)
  (refine aqR (op_load_ptr1 rfl rfl rfl rfl ag3 rfl rfl) ?_)
  refine aqQ (op_callQ (b := true) rfl en26 (C26 (n := r.device) (lo := 0) (hi := 23)) (RL.cons (by exact View.same rfl) (RL.cons (by exact View.same rfl) (RL.cons (by exact View.same rfl) (RL.nil)))) rfl) ?_; (try simp only [nA, Nat.reduceBEq, Nat.reduceEqDiff, ↓reduceIte, Nat.reduceAdd, Nat.reduceSub])
  refine aqP (op_not rfl rfl rfl) ?_
  refine aqP (op_move rfl rfl) ?_
  refine' aqOr' [_, _, _, _] [8,9,10,11] rfl rfl rfl rfl rfl rfl rfl rfl rfl rfl rfl rfl (fun hb => ?_) ?_; rotate_left
  ·
   (try simp only [hcS] at hb)
   (refine aqP (op_fa_ptr rfl rfl rfl fl60_2 (by exact sz9) (by decide) rfl) ?_)
   (refine aqR (op_load_ptr1 rfl rfl rfl rfl ag9 rfl rfl) ?_)
   refine aqQ (op_callQ (b := true) rfl en72 (C72 (s := r.read) hr) (RL.cons (by exact View.same rfl) (RL.nil)) rfl) ?_; (simp only [nA])
   refine aqP (op_not rfl rfl rfl) ?_
   (refine aqSeg rfl rfl rfl ?_; repeat (first | exact fun _ _ => rfl | refine upd_out rfl ?_))
  simp only [nA]
  refine aqP (op_assign rfl rfl) ?_
  refine AQ.nil ?_
  (refine hK _ ?_; clear hK K; (simp only [nA]))
  skip
  refine AW.ret ?_; (try simp only [thenE, inBlk, Nat.reduceEqDiff, ↓reduceIte]); exact RQ.of0 rfl (.tmp (bl rfl) rfl rfl .nil)
set_option maxHeartbeats 8000000 in
theorem C76 {x : Ev} {o : Op} : Fn Tryz.prog 76 [] [.agg o.av, .rop x.av] [.v (.bool (p67 x o))] [] := by
  refine Spec.body Tryz.func76 rfl Tryz.ntmps76 (by simp) rfl ?_; intro S0 own0 v0 w0 gl
  (refine AW.seq_k ?_; intro K hK)
  refine AW.region ?_
  refine awJ (op_box rfl rfl rfl sz39 rfl) ?_; (simp only [nA, Nat.reduceBEq, Nat.reduceEqDiff, ↓reduceIte])
  refine awP (op_assign rfl rfl) ?_
  refine AWL.nil ?_
  (refine hK _ ?_; clear hK K; (try simp only [nA, Nat.reduceBEq, Nat.reduceEqDiff, ↓reduceIte, Nat.reduceAdd, Nat.reduceSub]))
  (refine AW.seq_k ?_; intro K hK)
  refine AW.region (AWL.quiet ?_)
  (refine aqR (op_load_ptr rfl rfl rfl rfl ag39 sz39 (bl rfl) rfl) ?_)
  refine aqQ (op_callQ (b := true) rfl en74 (C74 (o := o)) (RL.cons (by exact View.same rfl) (RL.nil)) rfl) ?_; (try simp only [nA, Nat.reduceBEq, Nat.reduceEqDiff, ↓reduceIte, Nat.reduceAdd, Nat.reduceSub])
  refine aqP (op_not rfl rfl rfl) ?_
  refine aqP (op_move rfl rfl) ?_
  refine' aqOr' [_, _, _, _, _] [8,9,10,11,12] rfl rfl rfl rfl rfl rfl rfl rfl rfl rfl rfl rfl (fun hb => ?_) ?_; rotate_left
  ·
   (try simp only [hcS] at hb)
   (refine aqP (op_fa_ptr rfl rfl rfl fl39_1 (by exact sz3) (by decide) rfl) ?_)
   (refine aqR (op_load_ptr1 rfl rfl rfl rfl ag3 rfl rfl) ?_)
   (refine aqP (op_fa_rop rfl rfl fl42_9 (by exact sz3) (by decide) (bl rfl) rfl) ?_)
   (refine aqR (op_load_rop1 rfl rfl ag3) ?_)
   (refine aqP (op_neq rfl rfl rfl) ?_)
   (refine aqSeg rfl rfl rfl ?_; repeat (first | exact fun _ _ => rfl | refine upd_out rfl ?_))
  simp only [nA]
  refine aqP (op_assign rfl rfl) ?_
  refine AQ.nil ?_
  (refine hK _ ?_; clear hK K; (simp only [nA]))
  skip
  refine AW.ret ?_; (try simp only [thenE, inBlk, Nat.reduceEqDiff, ↓reduceIte]); exact RQ.of0 rfl (.tmp (bl rfl) rfl rfl .nil)
set_option maxHeartbeats 8000000 in
theorem C92 {l : List Report} (h1 : l.length ≤ 1000000) (hr : ∀ r ∈ l, r.read.size ≤ 1000000) : Fn Tryz.prog 92 [] [.ro (l.map Report.av), .v (.func (.func 71) #[] #[])] [.v (.int .i64 (idxI p62 l))] [] := by
  refine Spec.body Tryz.func92 rfl Tryz.ntmps92 (by simp) rfl ?_; intro S0 own0 v0 w0 gl
  (refine AW.seq_k ?_; intro K hK)
  refine AW.region ?_
  refine awP (op_assign rfl rfl) ?_
  refine AWL.nil ?_
  (refine hK _ ?_; clear hK K; (try simp only [nA, Nat.reduceBEq, Nat.reduceEqDiff, ↓reduceIte, Nat.reduceAdd, Nat.reduceSub]))
  (refine AW.seq_k ?_; intro K hK)
  (refine AW.seq_k ?_; intro K hK)
  refine AW.region ?_
  refine awP (op_move rfl rfl) ?_
  refine awP (op_len_ro (n := l.length) rfl rfl Tryz.underlying31 (.inr (.inl ⟨_, rfl, by simp⟩))) ?_
  refine awP (op_move rfl rfl) ?_
  refine AWL.nil ?_
  (refine hK _ ?_; clear hK K; (simp only [nA, ↓reduceIte]))
  refine AW.block ?_
  refine AW.loopI (fun i => [(0, .ro (l.map Report.av)), (1, .v (.func (.func 71) #[] #[])), (7, .v (.int .i64 l.length)), (8, .v (.int .i64 (i : Nat)))]) (fun i => ⟨[], 1⟩) (fun i => i ≤ l.length ∧ ∀ k, k < i → p62 (l.getD k default) = false) (fun i => l.length - i) 0 (by simp) ⟨rfl, rfl, rfl, rfl, trivial⟩ rfl ?_; intro i ρ hi; simp only [updL]
  (refine AW.seq_k ?_; intro K hK)
  refine AW.region ?_
  refine awP (op_lss rfl rfl rfl) ?_
  refine AWL.nil ?_
  (refine hK _ ?_; clear hK K; (try simp only [nA, Nat.reduceBEq, Nat.reduceEqDiff, ↓reduceIte, Nat.reduceAdd, Nat.reduceSub]))
  (refine AW.seq_k ?_; intro K hK)
  refine AW.cond rfl rfl rfl (fun hc => ?_) (fun hc => ?_)
  ·
   have hc1 := hc; have hlt : i < l.length := (by simpa using hc1)
   refine AW.skip ?_
   (refine hK _ ?_; clear hK K; (skip))
   (refine AW.seq_k ?_; intro K hK)
   refine AW.block ?_
   (refine AW.seq_k ?_; intro K hK)
   refine AW.region ?_
   refine awP (op_move rfl rfl) ?_
   refine awP (op_assign rfl rfl) ?_
   refine AWL.nil ?_
   (refine hK _ ?_; clear hK K; (simp only [nA, ↓reduceIte]))
   (refine AW.seq_k ?_; intro K hK)
   refine AW.region ?_
   refine awP (op_move rfl rfl) ?_
   refine awP (op_move rfl rfl) ?_
   refine awP (op_move rfl rfl) ?_
   refine awP (op_ia_ro i rfl (.inl rfl) rfl Tryz.underlying31 rfl (get_mapD (by omega)) (by exact sz60) (bl rfl)) ?_
   (refine awR (op_load_rop rfl rfl ag60 sz60 (bl rfl) (by decide) rfl) ?_)
   refine awJ (OpQ.j (op_valQ (b := true) rfl rfl en71 (C71 (r := l.getD i default) (hr _ (by rw [getD_of hlt]; exact List.getElem_mem hlt))) (RL.cons (by exact View.same rfl) (RL.nil)) rfl)) ?_; (simp only [nA, ↓reduceIte])
   refine AWL.nil ?_
   (refine hK _ ?_; clear hK K; (skip))
   refine AW.cond rfl rfl rfl (fun hc => ?_) (fun hc => ?_)
   ·
    have hc2 := hc
    (refine AW.seq_k ?_; intro K hK)
    refine AW.region ?_
    refine awP (op_move rfl rfl) ?_
    refine awP (op_assign rfl rfl) ?_
    refine AWL.nil ?_
    (refine hK _ ?_; clear hK K; (simp only [nA, ↓reduceIte]))
    skip
    refine AW.ret ?_; (try simp only [thenE, inBlk, Nat.reduceEqDiff, ↓reduceIte]); rw [idx_yes hlt hi.2 hc2]; exact RQ.of0 rfl (.tmp (bl rfl) rfl rfl .nil)
   have hc2 := hc
   refine AW.skip ?_
   (try simp only [thenE, inBlk, Nat.reduceEqDiff, ↓reduceIte])
   (refine hK _ ?_; clear hK K; (skip))
   refine AW.region ?_
   (refine awP (op_addi rfl rfl rfl (by omega)) ?_)
   refine awP (op_move rfl rfl) ?_
   skip
   refine AWL.nil ?_
   refine ⟨i + 1, ⟨by omega, all_f_step hi.2 hc2⟩, by omega, ⟨rfl, rfl, rfl, rfl, trivial⟩, (by rfl), (by rfl)⟩
  have hc1 := hc; have hnl : ¬ i < l.length := (by simpa using hc1)
  refine AW.exit ?_; (try simp only [thenE, inBlk, Nat.reduceEqDiff, ↓reduceIte])
  clear hK K
  (refine hK _ ?_; clear hK K; (skip))
  (refine AW.seq_k ?_; intro K hK)
  refine AW.region ?_
  refine awP (op_assign rfl rfl) ?_
  refine AWL.nil ?_
  (refine hK _ ?_; clear hK K; (try simp only [nA, Nat.reduceBEq, Nat.reduceEqDiff, ↓reduceIte, Nat.reduceAdd, Nat.reduceSub]))
  skip
  refine AW.ret ?_; (try simp only [thenE, inBlk, Nat.reduceEqDiff, ↓reduceIte]); rw [idx_no hnl hi.2]; exact RQ.of0 rfl (.tmp (bl rfl) rfl rfl .nil)
set_option maxHeartbeats 8000000 in
theorem C97 {x : Ev} {l : List Op} (h1 : l.length ≤ 1000000) : Fn Tryz.prog 97 [] [.ro (l.map Op.av), .clo 76 [.rop x.av]] [.v (.int .i64 (idxI (p67 x) l))] [] := by
  refine Spec.body Tryz.func97 rfl Tryz.ntmps97 (by simp) rfl ?_; intro S0 own0 v0 w0 gl
  (refine AW.seq_k ?_; intro K hK)
  refine AW.region ?_
  refine awP (op_assign rfl rfl) ?_
  refine AWL.nil ?_
  (refine hK _ ?_; clear hK K; (try simp only [nA, Nat.reduceBEq, Nat.reduceEqDiff, ↓reduceIte, Nat.reduceAdd, Nat.reduceSub]))
  (refine AW.seq_k ?_; intro K hK)
  (refine AW.seq_k ?_; intro K hK)
  refine AW.region ?_
  refine awP (op_move rfl rfl) ?_
  refine awP (op_len_ro (n := l.length) rfl rfl Tryz.underlying40 (.inr (.inl ⟨_, rfl, by simp⟩))) ?_
  refine awP (op_move rfl rfl) ?_
  refine AWL.nil ?_
  (refine hK _ ?_; clear hK K; (simp only [nA, ↓reduceIte]))
  refine AW.block ?_
  refine AW.loopI (fun i => [(0, .ro (l.map Op.av)), (1, .clo 76 [.rop x.av]), (7, .v (.int .i64 l.length)), (8, .v (.int .i64 (i : Nat)))]) (fun i => ⟨[], 1⟩) (fun i => i ≤ l.length ∧ ∀ k, k < i → p67 x (l.getD k default) = false) (fun i => l.length - i) 0 (by simp) ⟨rfl, rfl, rfl, rfl, trivial⟩ rfl ?_; intro i ρ hi; simp only [updL]
  (refine AW.seq_k ?_; intro K hK)
  refine AW.region ?_
  refine awP (op_lss rfl rfl rfl) ?_
  refine AWL.nil ?_
  (refine hK _ ?_; clear hK K; (try simp only [nA, Nat.reduceBEq, Nat.reduceEqDiff, ↓reduceIte, Nat.reduceAdd, Nat.reduceSub]))
  (refine AW.seq_k ?_; intro K hK)
  refine AW.cond rfl rfl rfl (fun hc => ?_) (fun hc => ?_)
  ·
   have hc1 := hc; have hlt : i < l.length := (by simpa using hc1)
   refine AW.skip ?_
   (refine hK _ ?_; clear hK K; (skip))
   (refine AW.seq_k ?_; intro K hK)
   refine AW.block ?_
   (refine AW.seq_k ?_; intro K hK)
   refine AW.region ?_
   refine awP (op_move rfl rfl) ?_
   refine awP (op_assign rfl rfl) ?_
   refine AWL.nil ?_
   (refine hK _ ?_; clear hK K; (simp only [nA, ↓reduceIte]))
   (refine AW.seq_k ?_; intro K hK)
   refine AW.region ?_
   refine awP (op_move rfl rfl) ?_
   refine awP (op_move rfl rfl) ?_
   refine awP (op_move rfl rfl) ?_
   refine awP (op_ia_ro i rfl (.inl rfl) rfl Tryz.underlying40 rfl (get_mapD (by omega)) (by exact sz39) (bl rfl)) ?_
   (refine awR (op_load_rop rfl rfl ag39 sz39 (bl rfl) (by decide) rfl) ?_)
   refine awJ (OpQ.j (op_cloQ (b := true) rfl rfl en76 (C76 (x := x) (o := l.getD i default)) (RL.cons (by exact View.same rfl) (RL.nil)) rfl)) ?_; (simp only [nA, ↓reduceIte])
   refine AWL.nil ?_
   (refine hK _ ?_; clear hK K; (skip))
   refine AW.cond rfl rfl rfl (fun hc => ?_) (fun hc => ?_)
   ·
    have hc2 := hc
    (refine AW.seq_k ?_; intro K hK)
    refine AW.region ?_
    refine awP (op_move rfl rfl) ?_
    refine awP (op_assign rfl rfl) ?_
    refine AWL.nil ?_
    (refine hK _ ?_; clear hK K; (simp only [nA, ↓reduceIte]))
    skip
    refine AW.ret ?_; (try simp only [thenE, inBlk, Nat.reduceEqDiff, ↓reduceIte]); rw [idx_yes (p := p67 x) hlt hi.2 hc2]; exact RQ.of0 rfl (.tmp (bl rfl) rfl rfl .nil)
   have hc2 := hc
   refine AW.skip ?_
   (try simp only [thenE, inBlk, Nat.reduceEqDiff, ↓reduceIte])
   (refine hK _ ?_; clear hK K; (skip))
   refine AW.region ?_
   (refine awP (op_addi rfl rfl rfl (by omega)) ?_)
   refine awP (op_move rfl rfl) ?_
   skip
   refine AWL.nil ?_
   refine ⟨i + 1, ⟨by omega, all_f_step (f := fun k => p67 x (l.getD k default)) hi.2 hc2⟩, by omega, ⟨rfl, rfl, rfl, rfl, trivial⟩, (by rfl), (by rfl)⟩
  have hc1 := hc; have hnl : ¬ i < l.length := (by simpa using hc1)
  refine AW.exit ?_; (try simp only [thenE, inBlk, Nat.reduceEqDiff, ↓reduceIte])
  clear hK K
  (refine hK _ ?_; clear hK K; (skip))
  (refine AW.seq_k ?_; intro K hK)
  refine AW.region ?_
  refine awP (op_assign rfl rfl) ?_
  refine AWL.nil ?_
  (refine hK _ ?_; clear hK K; (try simp only [nA, Nat.reduceBEq, Nat.reduceEqDiff, ↓reduceIte, Nat.reduceAdd, Nat.reduceSub]))
  skip
  refine AW.ret ?_; (try simp only [thenE, inBlk, Nat.reduceEqDiff, ↓reduceIte]); rw [idx_no (p := p67 x) hnl hi.2]; exact RQ.of0 rfl (.tmp (bl rfl) rfl rfl .nil)
theorem idx_any {α : Type} {p : α → Bool} {l : List α} : decide (idxI p l ≥ 0) = l.any p := by
  unfold idxI
  rw [Bool.eq_iff_iff, decide_eq_true_eq, List.any_eq_true]
  by_cases h : l.findIdx p < l.length
  · rw [if_pos h]
    exact ⟨fun _ => ⟨_, List.getElem_mem h, List.findIdx_getElem (w := h)⟩, fun _ => by omega⟩
  rw [if_neg h]
  refine ⟨fun h => by omega, fun ⟨x, hx, hp⟩ => ?_⟩
  exact absurd (List.findIdx_lt_length_of_exists ⟨x, hx, hp⟩) h
set_option maxHeartbeats 8000000 in
theorem C70 {l : List Report} (h1 : l.length ≤ 1000000) (hr : ∀ r ∈ l, r.read.size ≤ 1000000) : Fn Tryz.prog 70 [] [.ro (l.map Report.av), .v (.func (.func 71) #[] #[])] [.v (.bool (l.any p62))] [] := by
  refine Spec.body Tryz.func70 rfl Tryz.ntmps70 (by simp) rfl ?_; intro S0 own0 v0 w0 gl
  (refine AW.seq_k ?_; intro K hK)
  refine AW.region ?_
  refine awP (op_assign rfl rfl) ?_
  refine AWL.nil ?_
  (refine hK _ ?_; clear hK K; (try simp only [nA, Nat.reduceBEq, Nat.reduceEqDiff, ↓reduceIte, Nat.reduceAdd, Nat.reduceSub]))
  (refine AW.seq_k ?_; intro K hK)
  refine AW.region ?_
  refine awP (op_move rfl rfl) ?_
  refine awP (op_move rfl rfl) ?_
  refine awJ (OpQ.j (op_callQ (b := true) rfl en92 (C92 (l := l) h1 hr) (RL.cons (by exact View.same rfl) (RL.cons (by exact View.same rfl) (RL.nil))) rfl)) ?_; (simp only [nA, ↓reduceIte])
  refine awP (op_geq rfl rfl rfl) ?_
  refine awP (op_assign rfl rfl) ?_
  refine AWL.nil ?_
  (refine hK _ ?_; clear hK K; (simp only [nA]))
  skip
  refine AW.ret ?_; (try simp only [thenE, inBlk, Nat.reduceEqDiff, ↓reduceIte]); rw [← idx_any]; exact RQ.of0 rfl (.tmp (bl rfl) rfl rfl .nil)
set_option maxHeartbeats 8000000 in
theorem C75 {x : Ev} {l : List Op} (h1 : l.length ≤ 1000000) : Fn Tryz.prog 75 [] [.ro (l.map Op.av), .clo 76 [.rop x.av]] [.v (.bool (l.any (p67 x)))] [] := by
  refine Spec.body Tryz.func75 rfl Tryz.ntmps75 (by simp) rfl ?_; intro S0 own0 v0 w0 gl
  (refine AW.seq_k ?_; intro K hK)
  refine AW.region ?_
  refine awP (op_assign rfl rfl) ?_
  refine AWL.nil ?_
  (refine hK _ ?_; clear hK K; (try simp only [nA, Nat.reduceBEq, Nat.reduceEqDiff, ↓reduceIte, Nat.reduceAdd, Nat.reduceSub]))
  (refine AW.seq_k ?_; intro K hK)
  refine AW.region ?_
  refine awP (op_move rfl rfl) ?_
  refine awP (op_move rfl rfl) ?_
  refine awJ (OpQ.j (op_callQ (b := true) rfl en97 (C97 (x := x) (l := l) h1) (RL.cons (by exact View.same rfl) (RL.cons (by exact View.same rfl) (RL.nil))) rfl)) ?_; (simp only [nA, ↓reduceIte])
  refine awP (op_geq rfl rfl rfl) ?_
  refine awP (op_assign rfl rfl) ?_
  refine AWL.nil ?_
  (refine hK _ ?_; clear hK K; (simp only [nA]))
  skip
  refine AW.ret ?_; (try simp only [thenE, inBlk, Nat.reduceEqDiff, ↓reduceIte]); rw [← idx_any]; exact RQ.of0 rfl (.tmp (bl rfl) rfl rfl .nil)
theorem not_any {α : Type} {p q : α → Bool} (h : ∀ x, p x = !q x) (l : List α) : (!l.any p) = l.all q := by
  rw [show p = fun x => !q x from funext h]
  induction l with
  | nil => rfl
  | cons x l ih => rw [List.any_cons, List.all_cons, Bool.not_or, ih, Bool.not_not]
theorem evav_flat (x : Ev) : ∀ c ∈ x.av, flatA c = true := List.all_eq_true.1 rfl
theorem prB_rest {x : Ev} {p : Nat} (h : p = 1 ∨ p = 5 ∨ 12 ≤ p) : prB x p = true := by
  rcases h with rfl | rfl | h
  · rfl
  · rfl
  obtain ⟨n, rfl⟩ : ∃ n, p = n + 12 := ⟨p - 12, by omega⟩
  rfl
set_option maxHeartbeats 8000000 in
theorem C54 {x : Ev} {p : Nat} (hx : x.Sm) : Fn Tryz.prog 54 [] [.agg x.av, .v (.int .i64 (p : Nat))] [.v (.bool (prB x p))] [] := by
  refine Spec.body Tryz.func54 rfl Tryz.ntmps54 (by simp) rfl ?_; intro S0 own0 v0 w0 gl
  (refine AW.seq_k ?_; intro K hK)
  refine AW.region ?_
  refine awJ (op_box rfl rfl rfl sz42 rfl) ?_; (simp only [nA, Nat.reduceBEq, Nat.reduceEqDiff, ↓reduceIte])
  refine awP (op_assign rfl rfl) ?_
  refine AWL.nil ?_
  (refine hK _ ?_; clear hK K; (try simp only [nA, Nat.reduceBEq, Nat.reduceEqDiff, ↓reduceIte, Nat.reduceAdd, Nat.reduceSub]))
  (refine AW.seq_k ?_; intro K hK)
  (refine AW.seq_k ?_; intro K hK)
  refine AW.region ?_
  refine awP (op_move rfl rfl) ?_
  refine AWL.nil ?_
  (refine hK _ ?_; clear hK K; (simp only [nA, ↓reduceIte]))
  refine AW.block ?_
  (refine AW.seq_k ?_; intro K hK)
  refine AW.region ?_
  (refine awP (op_eql rfl rfl rfl) ?_)
  refine awP (op_assign rfl rfl) ?_
  refine AWL.nil ?_
  (refine hK _ ?_; clear hK K; (simp only [nA]))
  refine AW.cond rfl rfl rfl (fun hc => ?_) (fun hc => ?_)
  ·
   have hc1 := hc; obtain rfl : p = 0 := (by have := of_decide_eq_true hc1; omega)
   (refine AW.seq_k ?_; intro K hK)
   refine AW.region ?_
   (refine awP (op_fa_ptr rfl rfl rfl fl42_1 (by exact sz3) (by decide) rfl) ?_)
   (refine awR (op_load_ptr1 rfl rfl rfl rfl ag3 rfl rfl) ?_)
   refine awJ (OpQ.j (op_callQ (b := true) rfl en26 (C26 (n := x.time) (lo := 0) (hi := 1048576)) (RL.cons (by exact View.same rfl) (RL.cons (by exact View.same rfl) (RL.cons (by exact View.same rfl) (RL.nil)))) rfl)) ?_; (try simp only [nA, Nat.reduceBEq, Nat.reduceEqDiff, ↓reduceIte, Nat.reduceAdd, Nat.reduceSub])
   refine awP (op_assign rfl rfl) ?_
   refine AWL.nil ?_
   (refine hK _ ?_; clear hK K; (simp only [nA]))
   skip
   refine AW.ret ?_; (try simp only [thenE, inBlk, Nat.reduceEqDiff, ↓reduceIte]); exact RQ.of0 rfl (.tmp (bl rfl) rfl rfl .nil)
  have hc1 := hc
  (refine AW.seq_k ?_; intro K hK)
  refine AW.region ?_
  (refine awP (op_eql rfl rfl rfl) ?_)
  refine awP (op_assign rfl rfl) ?_
  refine AWL.nil ?_
  (refine hK _ ?_; clear hK K; (simp only [nA]))
  refine AW.cond rfl rfl rfl (fun hc => ?_) (fun hc => ?_)
  ·
   have hc2 := hc; obtain rfl : p = 2 := (by have := of_decide_eq_true hc2; omega)
   (refine AW.seq_k ?_; intro K hK)
   refine AW.region ?_
   (refine awP (op_fa_ptr rfl rfl rfl fl42_3 (by exact sz30) (by decide) rfl) ?_)
   (refine awR (op_load_ptr rfl rfl rfl rfl ag30 sz30 (bl rfl) rfl) ?_)
   refine awJ (OpQ.j (op_callQ (b := true) rfl en69 (C69 (p := x.plate)) (RL.cons (by exact View.same rfl) (RL.nil)) rfl)) ?_; (try simp only [nA, Nat.reduceBEq, Nat.reduceEqDiff, ↓reduceIte, Nat.reduceAdd, Nat.reduceSub])
   refine awP (op_assign rfl rfl) ?_
   refine AWL.nil ?_
   (refine hK _ ?_; clear hK K; (simp only [nA]))
   skip
   refine AW.ret ?_; (try simp only [thenE, inBlk, Nat.reduceEqDiff, ↓reduceIte]); exact RQ.of0 rfl (.tmp (bl rfl) rfl rfl .nil)
  have hc2 := hc
  (refine AW.seq_k ?_; intro K hK)
  refine AW.region ?_
  (refine awP (op_eql rfl rfl rfl) ?_)
  refine awP (op_assign rfl rfl) ?_
  refine AWL.nil ?_
  (refine hK _ ?_; clear hK K; (simp only [nA]))
  refine AW.cond rfl rfl rfl (fun hc => ?_) (fun hc => ?_)
  ·
   have hc3 := hc; obtain rfl : p = 3 := (by have := of_decide_eq_true hc3; omega)
   (refine AW.seq_k ?_; intro K hK)
   refine AW.region ?_
   (refine awP (op_fa_ptr rfl rfl rfl fl42_4 (by exact sz3) (by decide) rfl) ?_)
   (refine awR (op_load_ptr1 rfl rfl rfl rfl ag3 rfl rfl) ?_)
   refine awJ (OpQ.j (op_callQ (b := true) rfl en26 (C26 (n := x.node) (lo := 0) (hi := 23)) (RL.cons (by exact View.same rfl) (RL.cons (by exact View.same rfl) (RL.cons (by exact View.same rfl) (RL.nil)))) rfl)) ?_; (try simp only [nA, Nat.reduceBEq, Nat.reduceEqDiff, ↓reduceIte, Nat.reduceAdd, Nat.reduceSub])
   refine awP (op_assign rfl rfl) ?_
   refine AWL.nil ?_
   (refine hK _ ?_; clear hK K; (simp only [nA]))
   skip
   refine AW.ret ?_; (try simp only [thenE, inBlk, Nat.reduceEqDiff, ↓reduceIte]); exact RQ.of0 rfl (.tmp (bl rfl) rfl rfl .nil)
  have hc3 := hc
  (refine AW.seq_k ?_; intro K hK)
  refine AW.region ?_
  (refine awP (op_eql rfl rfl rfl) ?_)
  refine awP (op_assign rfl rfl) ?_
  refine AWL.nil ?_
  (refine hK _ ?_; clear hK K; (simp only [nA]))
  refine AW.cond rfl rfl rfl (fun hc => ?_) (fun hc => ?_)
  ·
   have hc4 := hc; obtain rfl : p = 4 := (by have := of_decide_eq_true hc4; omega)
   (refine AW.seq_k ?_; intro K hK)
   refine AW.region ?_
   (refine awP (op_fa_ptr rfl rfl rfl fl42_5 (by exact sz3) (by decide) rfl) ?_)
   (refine awR (op_load_ptr1 rfl rfl rfl rfl ag3 rfl rfl) ?_)
   refine awJ (OpQ.j (op_callQ (b := true) rfl en26 (C26 (n := x.image) (lo := 0) (hi := 1048576)) (RL.cons (by exact View.same rfl) (RL.cons (by exact View.same rfl) (RL.cons (by exact View.same rfl) (RL.nil)))) rfl)) ?_; (try simp only [nA, Nat.reduceBEq, Nat.reduceEqDiff, ↓reduceIte, Nat.reduceAdd, Nat.reduceSub])
   refine awP (op_assign rfl rfl) ?_
   refine AWL.nil ?_
   (refine hK _ ?_; clear hK K; (simp only [nA]))
   skip
   refine AW.ret ?_; (try simp only [thenE, inBlk, Nat.reduceEqDiff, ↓reduceIte]); exact RQ.of0 rfl (.tmp (bl rfl) rfl rfl .nil)
  have hc4 := hc
  (refine AW.seq_k ?_; intro K hK)
  refine AW.region ?_
  (refine awP (op_eql rfl rfl rfl) ?_)
  refine awP (op_assign rfl rfl) ?_
  refine AWL.nil ?_
  (refine hK _ ?_; clear hK K; (simp only [nA]))
  refine AW.cond rfl rfl rfl (fun hc => ?_) (fun hc => ?_)
  ·
   have hc5 := hc; obtain rfl : p = 6 := (by have := of_decide_eq_true hc5; omega)
   (refine AW.seq_k ?_; intro K hK)
   refine AW.region ?_
   (refine awP (op_fa_ptr rfl rfl rfl fl42_7 (by exact sz31) (by decide) rfl) ?_)
   (refine awR (op_load_ptr1 rfl rfl rfl rfl ag31 rfl rfl) ?_)
   refine awJ (OpQ.j (op_callQ (b := true) rfl en70 (C70 (l := x.reports) hx.r hx.rr) (RL.cons (by exact View.same rfl) (RL.cons (by exact View.same rfl) (RL.nil))) rfl)) ?_; (try simp only [nA, Nat.reduceBEq, Nat.reduceEqDiff, ↓reduceIte, Nat.reduceAdd, Nat.reduceSub])
   refine awP (op_not rfl rfl rfl) ?_
   refine awP (op_assign rfl rfl) ?_
   refine AWL.nil ?_
   (refine hK _ ?_; clear hK K; (simp only [nA]))
   skip
   refine AW.ret ?_; (try simp only [thenE, inBlk, Nat.reduceEqDiff, ↓reduceIte]); rw [show prB x 6 = !(x.reports.any p62) from (not_any (p := p62) (fun r => by unfold p62 rpB; rw [Bool.not_and]) _).symm]; exact RQ.of0 rfl (.tmp (bl rfl) rfl rfl .nil)
  have hc5 := hc
  (refine AW.seq_k ?_; intro K hK)
  refine AW.region ?_
  (refine awP (op_eql rfl rfl rfl) ?_)
  refine awP (op_assign rfl rfl) ?_
  refine AWL.nil ?_
  (refine hK _ ?_; clear hK K; (simp only [nA]))
  refine AW.cond rfl rfl rfl (fun hc => ?_) (fun hc => ?_)
  ·
   have hc6 := hc; obtain rfl : p = 7 := (by have := of_decide_eq_true hc6; omega)
   (refine AW.seq_k ?_; intro K hK)
   refine AW.region ?_
   (refine awP (op_fa_ptr rfl rfl rfl fl42_8 (by exact sz35) (by decide) rfl) ?_)
   (refine awR (op_load_ptr rfl rfl rfl rfl ag35 sz35 (bl rfl) rfl) ?_)
   refine awJ (op_alloc rfl ze35 rfl) ?_; (simp only [nA, Nat.reduceBEq, Nat.reduceEqDiff, ↓reduceIte])
   refine awJ (op_store rfl rfl rfl rfl rfl rfl sz35 rfl (bl rfl) rfl) ?_; (simp only [nA, Nat.reduceBEq, Nat.reduceEqDiff, ↓reduceIte])
   refine AWL.nil ?_
   (refine hK _ ?_; clear hK K; (skip))
   (refine AW.seq_k ?_; intro K hK)
   refine AW.region (AWL.quiet ?_)
   (refine aqP (op_fa_ptr rfl rfl rfl fl35_0 (by exact sz3) (by decide) rfl) ?_)
   (refine aqR (op_load_ptr1 rfl rfl rfl rfl ag3 rfl rfl) ?_)
   refine aqQ (op_callQ (b := true) rfl en26 (C26 (n := x.rev.kind) (lo := 1) (hi := 5)) (RL.cons (by exact View.same rfl) (RL.cons (by exact View.same rfl) (RL.cons (by exact View.same rfl) (RL.nil)))) rfl) ?_; (try simp only [nA, Nat.reduceBEq, Nat.reduceEqDiff, ↓reduceIte, Nat.reduceAdd, Nat.reduceSub])
   refine aqP (op_move rfl rfl) ?_
   refine' aqAnd' [_, _, _] [41,42,43] rfl rfl rfl rfl rfl rfl rfl rfl rfl rfl rfl rfl (fun hb => ?_) ?_; rotate_left
   ·
    (try simp only [hcS] at hb)
    (refine aqP (op_fa_ptr rfl rfl rfl fl35_1 (by exact sz3) (by decide) rfl) ?_)
    (refine aqR (op_load_ptr1 rfl rfl rfl rfl ag3 rfl rfl) ?_)
    refine aqQ (op_callQ (b := true) rfl en26 (C26 (n := x.rev.amount) (lo := 0) (hi := 1048576)) (RL.cons (by exact View.same rfl) (RL.cons (by exact View.same rfl) (RL.cons (by exact View.same rfl) (RL.nil)))) rfl) ?_; (simp only [nA])
    (refine aqSeg rfl rfl rfl ?_; repeat (first | exact fun _ _ => rfl | refine upd_out rfl ?_))
   simp only [nA]
   refine aqP (op_move rfl rfl) ?_
   refine' aqAnd' [_, _, _] [46,47,48] rfl rfl rfl rfl rfl rfl rfl rfl rfl rfl rfl rfl (fun hb => ?_) ?_; rotate_left
   ·
    (try simp only [hcS] at hb)
    (refine aqP (op_fa_ptr rfl rfl rfl fl35_2 (by exact sz33) (by decide) rfl) ?_)
    (refine aqR (op_load_ptr rfl rfl rfl rfl ag33 sz33 (bl rfl) rfl) ?_)
    refine aqQ (op_callQ (b := true) rfl en73 (C73 (f := x.rev.fl)) (RL.cons (by exact View.same rfl) (RL.nil)) rfl) ?_; (simp only [nA])
    (refine aqSeg rfl rfl rfl ?_; repeat (first | exact fun _ _ => rfl | refine upd_out rfl ?_))
   simp only [nA]
   refine aqP (op_assign rfl rfl) ?_
   refine AQ.nil ?_
   (refine hK _ ?_; clear hK K; (simp only [nA]))
   skip
   refine AW.ret ?_; (try simp only [thenE, inBlk, Nat.reduceEqDiff, ↓reduceIte]); exact RQ.of0 rfl (.tmp (bl rfl) rfl rfl .nil)
  have hc6 := hc
  (refine AW.seq_k ?_; intro K hK)
  refine AW.region ?_
  (refine awP (op_eql rfl rfl rfl) ?_)
  refine awP (op_assign rfl rfl) ?_
  refine AWL.nil ?_
  (refine hK _ ?_; clear hK K; (simp only [nA]))
  refine AW.cond rfl rfl rfl (fun hc => ?_) (fun hc => ?_)
  ·
   have hc7 := hc; obtain rfl : p = 8 := (by have := of_decide_eq_true hc7; omega)
   (refine AW.seq_k ?_; intro K hK)
   refine AW.region ?_
   (refine awP (op_fa_ptr rfl rfl rfl fl42_9 (by exact sz3) (by decide) rfl) ?_)
   (refine awR (op_load_ptr1 rfl rfl rfl rfl ag3 rfl rfl) ?_)
   refine awJ (OpQ.j (op_callQ (b := true) rfl en26 (C26 (n := x.device) (lo := 1) (hi := 6)) (RL.cons (by exact View.same rfl) (RL.cons (by exact View.same rfl) (RL.cons (by exact View.same rfl) (RL.nil)))) rfl)) ?_; (try simp only [nA, Nat.reduceBEq, Nat.reduceEqDiff, ↓reduceIte, Nat.reduceAdd, Nat.reduceSub])
   refine awP (op_assign rfl rfl) ?_
   refine AWL.nil ?_
   (refine hK _ ?_; clear hK K; (simp only [nA]))
   skip
   refine AW.ret ?_; (try simp only [thenE, inBlk, Nat.reduceEqDiff, ↓reduceIte]); exact RQ.of0 rfl (.tmp (bl rfl) rfl rfl .nil)
  have hc7 := hc
  (refine AW.seq_k ?_; intro K hK)
  refine AW.region ?_
  (refine awP (op_eql rfl rfl rfl) ?_)
  refine awP (op_assign rfl rfl) ?_
  refine AWL.nil ?_
  (refine hK _ ?_; clear hK K; (simp only [nA]))
  refine AW.cond rfl rfl rfl (fun hc => ?_) (fun hc => ?_)
  ·
   have hc8 := hc; obtain rfl : p = 9 := (by have := of_decide_eq_true hc8; omega)
   (refine AW.seq_k ?_; intro K hK)
   refine AW.region (AWL.quiet ?_)
   (refine aqP (op_fa_ptr rfl rfl rfl fl42_10 (by exact sz39) (by decide) rfl) ?_)
   (refine aqR (op_load_ptr rfl rfl rfl rfl ag39 sz39 (bl rfl) rfl) ?_)
   refine aqQ (op_callQ (b := true) rfl en74 (C74 (o := x.op)) (RL.cons (by exact View.same rfl) (RL.nil)) rfl) ?_; (try simp only [nA, Nat.reduceBEq, Nat.reduceEqDiff, ↓reduceIte, Nat.reduceAdd, Nat.reduceSub])
   refine aqP (op_move rfl rfl) ?_
   refine' aqAnd' [_, _, _, _, _, _, _, _] [61,62,63,64,65,66,67,68] rfl rfl rfl rfl rfl rfl rfl rfl rfl rfl rfl rfl (fun hb => ?_) ?_; rotate_left
   ·
    (try simp only [hcS] at hb)
    (refine aqP (op_fa_ptr rfl rfl rfl fl42_10 (by exact sz39) (by decide) rfl) ?_)
    (refine aqP (op_fa_ptr rfl rfl rfl fl39_3 (by exact sz3) (by decide) rfl) ?_)
    (refine aqR (op_load_ptr1 rfl rfl rfl rfl ag3 rfl rfl) ?_)
    (refine aqP (op_eql rfl rfl rfl) ?_)
    (refine aqP (op_fa_ptr rfl rfl rfl fl42_0 (by exact sz3) (by decide) rfl) ?_)
    (refine aqR (op_load_ptr1 rfl rfl rfl rfl ag3 rfl rfl) ?_)
    (refine aqP (op_eql rfl rfl rfl) ?_)
    (refine aqP (op_beql rfl rfl rfl Tryz.underlying4) ?_)
    (refine aqSeg rfl rfl rfl ?_; repeat (first | exact fun _ _ => rfl | refine upd_out rfl ?_))
   simp only [nA]
   refine aqP (op_assign rfl rfl) ?_
   refine AQ.nil ?_
   (refine hK _ ?_; clear hK K; (simp only [nA]))
   skip
   refine AW.ret ?_; (try simp only [thenE, inBlk, Nat.reduceEqDiff, ↓reduceIte]); exact RQ.of0 rfl (.tmp (bl rfl) rfl rfl .nil)
  have hc8 := hc
  (refine AW.seq_k ?_; intro K hK)
  refine AW.region ?_
  (refine awP (op_eql rfl rfl rfl) ?_)
  refine awP (op_assign rfl rfl) ?_
  refine AWL.nil ?_
  (refine hK _ ?_; clear hK K; (simp only [nA]))
  refine AW.cond rfl rfl rfl (fun hc => ?_) (fun hc => ?_)
  ·
   have hc9 := hc; obtain rfl : p = 10 := (by have := of_decide_eq_true hc9; omega); refine AW.gh (Gh.freezeP 2 (bl rfl) rfl rfl (evav_flat x)) ?_; (try simp only [nA, Nat.reduceBEq, Nat.reduceEqDiff, ↓reduceIte, Nat.reduceAdd, Nat.reduceSub])
   (refine AW.seq_k ?_; intro K hK)
   refine AW.region ?_
   (refine awP (op_fa_rop rfl rfl fl42_11 (by exact sz40) (by decide) (bl rfl) rfl) ?_)
   (refine awR (op_load_rop1 rfl rfl ag40) ?_)
   refine awP (op_makeFunc rfl rfl rfl) ?_
   refine awJ (OpQ.j (op_callQ (b := true) rfl en75 (C75 (x := x) (l := x.ops) hx.o) (RL.cons (by exact View.same rfl) (RL.cons (by exact View.same rfl) (RL.nil))) rfl)) ?_; (simp only [nA, ↓reduceIte])
   refine awP (op_not rfl rfl rfl) ?_
   refine awP (op_assign rfl rfl) ?_
   refine AWL.nil ?_
   (refine hK _ ?_; clear hK K; (simp only [nA]))
   skip
   refine AW.ret ?_; (try simp only [thenE, inBlk, Nat.reduceEqDiff, ↓reduceIte]); rw [show prB x 10 = !(x.ops.any (p67 x)) from (not_any (p := p67 x) (fun r => by unfold p67; rw [Bool.not_and]) _).symm]; exact RQ.of0 rfl (.tmp (bl rfl) rfl rfl .nil)
  have hc9 := hc
  (refine AW.seq_k ?_; intro K hK)
  refine AW.region ?_
  (refine awP (op_eql rfl rfl rfl) ?_)
  refine awP (op_assign rfl rfl) ?_
  refine AWL.nil ?_
  (refine hK _ ?_; clear hK K; (simp only [nA]))
  refine AW.cond rfl rfl rfl (fun hc => ?_) (fun hc => ?_)
  ·
   have hc10 := hc; obtain rfl : p = 11 := (by have := of_decide_eq_true hc10; omega)
   (refine AW.seq_k ?_; intro K hK)
   refine AW.region ?_
   (refine awP (op_fa_ptr rfl rfl rfl fl42_12 (by exact sz33) (by decide) rfl) ?_)
   (refine awR (op_load_ptr rfl rfl rfl rfl ag33 sz33 (bl rfl) rfl) ?_)
   refine awJ (OpQ.j (op_callQ (b := true) rfl en73 (C73 (f := x.fl)) (RL.cons (by exact View.same rfl) (RL.nil)) rfl)) ?_; (try simp only [nA, Nat.reduceBEq, Nat.reduceEqDiff, ↓reduceIte, Nat.reduceAdd, Nat.reduceSub])
   refine awP (op_assign rfl rfl) ?_
   refine AWL.nil ?_
   (refine hK _ ?_; clear hK K; (simp only [nA]))
   skip
   refine AW.ret ?_; (try simp only [thenE, inBlk, Nat.reduceEqDiff, ↓reduceIte]); exact RQ.of0 rfl (.tmp (bl rfl) rfl rfl .nil)
  have hc10 := hc
  refine AW.skip ?_
  (try simp only [thenE, inBlk, Nat.reduceEqDiff, ↓reduceIte])
  (refine hK _ ?_; clear hK K; (skip))
  (refine AW.seq_k ?_; intro K hK)
  refine AW.region ?_
  refine awP (op_assign rfl rfl) ?_
  refine AWL.nil ?_
  (refine hK _ ?_; clear hK K; (try simp only [nA, Nat.reduceBEq, Nat.reduceEqDiff, ↓reduceIte, Nat.reduceAdd, Nat.reduceSub]))
  skip
  refine AW.ret ?_; (try simp only [thenE, inBlk, Nat.reduceEqDiff, ↓reduceIte]); rw [prB_rest (by simp only [decide_eq_false_iff_not] at hc1 hc2 hc3 hc4 hc5 hc6 hc7 hc8 hc9 hc10; omega)]; exact RQ.of0 rfl (.tmp (bl rfl) rfl rfl .nil)
end Go.Proofs.YtfmnaigedgmhoaaGreatDoor
namespace Go.Proofs.YtfmnaigedgmhoaaGreatDoor
open Go.RowKit
set_option linter.unusedSimpArgs false
set_option linter.unusedVariables false
set_option maxRecDepth 100000
theorem sameB_iff {x y : Ev} : sameB x y = true ↔ x = y := by
  unfold sameB
  exact @decide_eq_true_iff _ (Classical.propDecidable _)
theorem val_k {x : Ev} (h : inB x.kind 1 14 = false) : valV x = 4 := by
  unfold valV; rw [if_pos h]
theorem val_s {x : Ev} (h : inB x.kind 1 14 = true) (h2 : sameB x (onlyV x) = false) : valV x = 7 := by
  have : x ≠ onlyV x := fun e => by rw [sameB_iff.2 e] at h2; cases h2
  unfold valV; rw [if_neg (by rw [h]; decide), if_pos this]
theorem val_l {x : Ev} (h : inB x.kind 1 14 = true) (h2 : sameB x (onlyV x) = true) (h3 : limB x = true) : valV x = 2 := by
  have e := sameB_iff.1 h2
  unfold valV; rw [if_neg (by rw [h]; decide), if_neg (fun h => h e), if_pos h3]
theorem val_r {x : Ev} (h : inB x.kind 1 14 = true) (h2 : sameB x (onlyV x) = true) (h3 : limB x = false) (h4 : (fieldsL x.kind).all (prB x) = false) : valV x = 1 := by
  have e := sameB_iff.1 h2
  unfold valV; rw [if_neg (by rw [h]; decide), if_neg (fun h => h e), if_neg (by rw [h3]; decide), if_pos h4]
theorem val_a {x : Ev} (h : inB x.kind 1 14 = true) (h2 : sameB x (onlyV x) = true) (h3 : limB x = false) (h4 : (fieldsL x.kind).all (prB x) = true) (h5 : ascR x.reports = false) : valV x = 9 := by
  have e := sameB_iff.1 h2
  unfold valV; rw [if_neg (by rw [h]; decide), if_neg (fun h => h e), if_neg (by rw [h3]; decide), if_neg (by rw [h4]; decide), if_pos h5]
theorem val_0 {x : Ev} (h : inB x.kind 1 14 = true) (h2 : sameB x (onlyV x) = true) (h3 : limB x = false) (h4 : (fieldsL x.kind).all (prB x) = true) (h5 : ascR x.reports = true) : valV x = 0 := by
  have e := sameB_iff.1 h2
  unfold valV; rw [if_neg (by rw [h]; decide), if_neg (fun h => h e), if_neg (by rw [h3]; decide), if_neg (by rw [h4]; decide), if_neg (by rw [h5]; decide)]
set_option maxHeartbeats 8000000 in
theorem C54i {x : Ev} {p : Int} (hx : x.Sm) (h : 0 ≤ p) : Fn Tryz.prog 54 [] [.agg x.av, .v (.int .i64 p)] [.v (.bool (prB x p.toNat))] [] := by
  obtain ⟨n, rfl⟩ := Int.eq_ofNat_of_zero_le h
  exact C54 hx
theorem flds_all {k : Int} {f : Nat → Bool} : (fieldsL k).all f = (fldI k).all fun p => f p.toNat := by
  unfold fldI
  rw [List.all_map]
  rfl
theorem flds_no {k : Int} {f : Nat → Bool} {i : Nat} (hi : i < (fldI k).length) (h : f ((fldI k).getD i default).toNat = false) : (fieldsL k).all f = false := by
  rw [flds_all, List.all_eq_false]
  rw [getD_of hi] at h
  exact ⟨_, List.getElem_mem hi, by rw [h]; simp⟩
theorem flds_yes {k : Int} {f : Nat → Bool} (h : ∀ i, i < (fldI k).length → f ((fldI k).getD i default).toNat = true) : (fieldsL k).all f = true := by
  rw [flds_all, List.all_eq_true]
  intro p hp
  obtain ⟨i, hi, rfl⟩ := List.getElem_of_mem hp
  have := h i hi
  rw [getD_of hi] at this
  exact this
theorem asc_no {l : List Report} {i : Nat} (h0 : 1 ≤ i) (hi : i < l.length) (h : decide ((l.getD i default).device ≤ (l.getD (i - 1) default).device) = true) : ascR l = false := by
  refine all_range_no hi ?_
  rw [Bool.or_eq_false_iff]
  refine ⟨decide_eq_false (by omega), decide_eq_false fun h' => ?_⟩
  have h1 := of_decide_eq_true h
  have h2 : (l.getD (i - 1) default).device < (l.getD i default).device := h'
  omega
theorem asc_yes {l : List Report} {i : Nat} (hi : ¬ i < l.length) (h : ∀ k, 1 ≤ k → k < i → (l.getD (k - 1) default).device < (l.getD k default).device) : ascR l = true := by
  refine all_range_yes hi fun k hk => ?_
  rw [Bool.or_eq_true]
  by_cases h0 : k = 0
  · exact .inl (decide_eq_true h0)
  exact .inr (decide_eq_true (h k (by omega) hk))
set_option maxHeartbeats 8000000 in
theorem C28 {x : Ev} (hx : x.Sm) : Fn Tryz.prog 28 [] [.agg x.av] [.v (.int .i64 (valV x))] [] := by
  have hrl := hx.r
  have hol := hx.o
  have htl := hx.t
  refine Spec.body Tryz.func28 rfl Tryz.ntmps28 (by simp) rfl ?_; intro S0 own0 v0 w0 gl
  (refine AW.seq_k ?_; intro K hK)
  refine AW.region ?_
  refine awJ (op_box rfl rfl rfl sz42 rfl) ?_; (simp only [nA, Nat.reduceBEq, Nat.reduceEqDiff, ↓reduceIte])
  refine awP (op_assign rfl rfl) ?_
  refine AWL.nil ?_
  (refine hK _ ?_; clear hK K; (try simp only [nA, Nat.reduceBEq, Nat.reduceEqDiff, ↓reduceIte, Nat.reduceAdd, Nat.reduceSub]))
  (refine AW.seq_k ?_; intro K hK)
  (refine AW.seq_k ?_; intro K hK)
  refine AW.region ?_
  (refine awP (op_fa_ptr rfl rfl rfl fl42_0 (by exact sz3) (by decide) rfl) ?_)
  (refine awR (op_load_ptr1 rfl rfl rfl rfl ag3 rfl rfl) ?_)
  refine awJ (OpQ.j (op_callQ (b := true) rfl en26 (C26 (n := x.kind) (lo := 1) (hi := 14)) (RL.cons (by exact View.same rfl) (RL.cons (by exact View.same rfl) (RL.cons (by exact View.same rfl) (RL.nil)))) rfl)) ?_; (try simp only [nA, Nat.reduceBEq, Nat.reduceEqDiff, ↓reduceIte, Nat.reduceAdd, Nat.reduceSub])
  refine awP (op_not rfl rfl rfl) ?_
  refine AWL.nil ?_
  (refine hK _ ?_; clear hK K; (try simp only [nA, Nat.reduceBEq, Nat.reduceEqDiff, ↓reduceIte, Nat.reduceAdd, Nat.reduceSub]))
  refine AW.cond rfl rfl rfl (fun hc => ?_) (fun hc => ?_)
  ·
   have hc1 := hc
   (refine AW.seq_k ?_; intro K hK)
   refine AW.region ?_
   refine awP (op_assign rfl rfl) ?_
   refine AWL.nil ?_
   (refine hK _ ?_; clear hK K; (try simp only [nA, Nat.reduceBEq, Nat.reduceEqDiff, ↓reduceIte, Nat.reduceAdd, Nat.reduceSub]))
   skip
   refine AW.ret ?_; (try simp only [thenE, inBlk, Nat.reduceEqDiff, ↓reduceIte]); rw [val_k (by simpa using hc1)]; exact RQ.of0 rfl (.tmp (bl rfl) rfl rfl .nil)
  have hc1 := hc; have hk0 : inB x.kind 1 14 = true := (by simpa using hc1); have hk := inB_iff.1 hk0
  refine AW.skip ?_
  (refine hK _ ?_; clear hK K; (skip))
  (refine AW.seq_k ?_; intro K hK)
  (refine AW.seq_k ?_; intro K hK)
  refine AW.region ?_
  (refine awR (op_load_ptr rfl rfl rfl rfl ag42 sz42 (bl rfl) rfl) ?_)
  refine awJ (OpQ.j (op_callQ (b := true) rfl en53 (C53 (x := x) hk hx.r hx.o) (RL.cons (by exact View.same rfl) (RL.nil)) rfl)) ?_; (try simp only [nA, Nat.reduceBEq, Nat.reduceEqDiff, ↓reduceIte, Nat.reduceAdd, Nat.reduceSub])
  refine awP (op_not rfl rfl rfl) ?_
  refine AWL.nil ?_
  (refine hK _ ?_; clear hK K; (try simp only [nA, Nat.reduceBEq, Nat.reduceEqDiff, ↓reduceIte, Nat.reduceAdd, Nat.reduceSub]))
  refine AW.cond rfl rfl rfl (fun hc => ?_) (fun hc => ?_)
  ·
   have hc2 := hc
   (refine AW.seq_k ?_; intro K hK)
   refine AW.region ?_
   refine awP (op_assign rfl rfl) ?_
   refine AWL.nil ?_
   (refine hK _ ?_; clear hK K; (try simp only [nA, Nat.reduceBEq, Nat.reduceEqDiff, ↓reduceIte, Nat.reduceAdd, Nat.reduceSub]))
   skip
   refine AW.ret ?_; (try simp only [thenE, inBlk, Nat.reduceEqDiff, ↓reduceIte]); rw [val_s hk0 (by simpa using hc2)]; exact RQ.of0 rfl (.tmp (bl rfl) rfl rfl .nil)
  have hc2 := hc; have hs0 : sameB x (onlyV x) = true := (by simpa using hc2)
  refine AW.skip ?_
  (refine hK _ ?_; clear hK K; (skip))
  (refine AW.seq_k ?_; intro K hK)
  (refine AW.seq_k ?_; intro K hK)
  refine AW.region (AWL.quiet ?_)
  (refine aqP (op_fa_ptr rfl rfl rfl fl42_2 (by exact sz9) (by decide) rfl) ?_)
  (refine aqR (op_load_ptr1 rfl rfl rfl rfl ag9 rfl rfl) ?_)
  (refine aqP (op_len_str rfl rfl Tryz.underlying9) ?_)
  refine aqP (op_gtr rfl rfl rfl) ?_
  refine aqP (op_move rfl rfl) ?_
  refine' aqOr' [_, _, _, _] [18,19,20,21] rfl rfl rfl rfl rfl rfl rfl rfl rfl rfl rfl rfl (fun hb => ?_) ?_; rotate_left
  ·
   (try simp only [hcS] at hb)
   (refine aqP (op_fa_ptr rfl rfl rfl fl42_7 (by exact sz31) (by decide) rfl) ?_)
   (refine aqR (op_load_ptr1 rfl rfl rfl rfl ag31 rfl rfl) ?_)
   refine aqP (op_len_ro (n := x.reports.length) rfl rfl Tryz.underlying31 (.inr (.inl ⟨_, rfl, by simp⟩))) ?_
   refine aqP (op_gtr rfl rfl rfl) ?_
   (refine aqSeg rfl rfl rfl ?_; repeat (first | exact fun _ _ => rfl | refine upd_out rfl ?_))
  simp only [nA]
  refine aqP (op_move rfl rfl) ?_
  refine' aqOr' [_, _, _, _] [24,25,26,27] rfl rfl rfl rfl rfl rfl rfl rfl rfl rfl rfl rfl (fun hb => ?_) ?_; rotate_left
  ·
   (try simp only [hcS] at hb)
   (refine aqP (op_fa_ptr rfl rfl rfl fl42_11 (by exact sz40) (by decide) rfl) ?_)
   (refine aqR (op_load_ptr1 rfl rfl rfl rfl ag40 rfl rfl) ?_)
   refine aqP (op_len_ro (n := x.ops.length) rfl rfl Tryz.underlying40 (.inr (.inl ⟨_, rfl, by simp⟩))) ?_
   refine aqP (op_gtr rfl rfl rfl) ?_
   (refine aqSeg rfl rfl rfl ?_; repeat (first | exact fun _ _ => rfl | refine upd_out rfl ?_))
  simp only [nA]
  refine AQ.nil ?_
  (refine hK _ ?_; clear hK K; (skip))
  refine AW.cond rfl rfl rfl (fun hc => ?_) (fun hc => ?_)
  ·
   have hc3 := hc
   (refine AW.seq_k ?_; intro K hK)
   refine AW.region ?_
   refine awP (op_assign rfl rfl) ?_
   refine AWL.nil ?_
   (refine hK _ ?_; clear hK K; (try simp only [nA, Nat.reduceBEq, Nat.reduceEqDiff, ↓reduceIte, Nat.reduceAdd, Nat.reduceSub]))
   skip
   refine AW.ret ?_; (try simp only [thenE, inBlk, Nat.reduceEqDiff, ↓reduceIte]); rw [val_l hk0 hs0 hc3]; exact RQ.of0 rfl (.tmp (bl rfl) rfl rfl .nil)
  have hc3 := hc; have hl0 : limB x = false := hc3
  refine AW.skip ?_
  (refine hK _ ?_; clear hK K; (skip))
  (refine AW.seq_k ?_; intro K hK)
  (refine AW.seq_k ?_; intro K hK)
  refine AW.region ?_
  (refine awP (op_fa_ptr rfl rfl rfl fl42_0 (by exact sz3) (by decide) rfl) ?_)
  (refine awR (op_load_ptr1 rfl rfl rfl rfl ag3 rfl rfl) ?_)
  refine awP (op_ia_glob x.kind.toNat rfl rfl Tryz.underlying78 (by omega) (fldI_row hk) (by exact sz77)) ?_
  (refine awR (op_load_rop1 rfl rfl ag77) ?_)
  refine awP (op_len_ro (n := (fldI x.kind).length) rfl rfl Tryz.underlying77 (.inr (.inl ⟨_, rfl, by simp⟩))) ?_
  refine awP (op_move rfl rfl) ?_
  refine AWL.nil ?_
  (refine hK _ ?_; clear hK K; (try simp only [nA, Nat.reduceBEq, Nat.reduceEqDiff, ↓reduceIte, Nat.reduceAdd, Nat.reduceSub]))
  refine AW.block ?_
  refine AW.loopI (fun i => [(1, .ptr 0 1 0 0), (32, .ro ((fldI x.kind).map fun n => [.v (.int .i64 n)])), (33, .v (.int .i64 (fldI x.kind).length)), (34, .v (.int .i64 (i : Nat)))]) (fun i => ⟨[(1, .own 42 [x.av])], 2⟩) (fun i => i ≤ (fldI x.kind).length ∧ ∀ k, k < i → prB x ((fldI x.kind).getD k default).toNat = true) (fun i => (fldI x.kind).length - i) 0 (by simp) ⟨rfl, rfl, rfl, rfl, trivial⟩ rfl ?_; intro i ρ hi; simp only [updL]; have hfl := fldI_len x.kind
  (refine AW.seq_k ?_; intro K hK)
  refine AW.region ?_
  refine awP (op_lss rfl rfl rfl) ?_
  refine AWL.nil ?_
  (refine hK _ ?_; clear hK K; (try simp only [nA, Nat.reduceBEq, Nat.reduceEqDiff, ↓reduceIte, Nat.reduceAdd, Nat.reduceSub]))
  (refine AW.seq_k ?_; intro K hK)
  refine AW.cond rfl rfl rfl (fun hc => ?_) (fun hc => ?_)
  ·
   have hc4 := hc; have hlt : i < (fldI x.kind).length := (by simpa using hc4); have hpb := fldI_bd hlt
   refine AW.skip ?_
   (refine hK _ ?_; clear hK K; (skip))
   (refine AW.seq_k ?_; intro K hK)
   refine AW.block ?_
   (refine AW.seq_k ?_; intro K hK)
   refine AW.region ?_
   refine awP (op_ia_ro i rfl (.inl rfl) rfl Tryz.underlying77 rfl (get_mapD (by omega)) (by exact sz79) (bl rfl)) ?_
   (refine awR (op_load_rop1 rfl rfl ag79) ?_)
   refine awP (op_assign rfl rfl) ?_
   refine AWL.nil ?_
   (refine hK _ ?_; clear hK K; (simp only [nA]))
   (refine AW.seq_k ?_; intro K hK)
   refine AW.region ?_
   (refine awR (op_load_ptr rfl rfl rfl rfl ag42 sz42 (bl rfl) rfl) ?_)
   refine awP (op_move rfl rfl) ?_
   refine awJ (OpQ.j (op_callQ (b := true) rfl en54 (C54i (x := x) (p := (fldI x.kind).getD i default) hx hpb.1) (RL.cons (by exact View.same rfl) (RL.cons (by exact View.same rfl) (RL.nil))) rfl)) ?_; (simp only [nA, ↓reduceIte])
   refine awP (op_not rfl rfl rfl) ?_
   refine AWL.nil ?_
   (refine hK _ ?_; clear hK K; (try simp only [nA, Nat.reduceBEq, Nat.reduceEqDiff, ↓reduceIte, Nat.reduceAdd, Nat.reduceSub]))
   refine AW.cond rfl rfl rfl (fun hc => ?_) (fun hc => ?_)
   ·
    have hc5 := hc
    (refine AW.seq_k ?_; intro K hK)
    refine AW.region ?_
    refine awP (op_assign rfl rfl) ?_
    refine AWL.nil ?_
    (refine hK _ ?_; clear hK K; (try simp only [nA, Nat.reduceBEq, Nat.reduceEqDiff, ↓reduceIte, Nat.reduceAdd, Nat.reduceSub]))
    skip
    refine AW.ret ?_; (try simp only [thenE, inBlk, Nat.reduceEqDiff, ↓reduceIte]); rw [val_r hk0 hs0 hl0 (flds_no hlt (by simpa using hc5))]; exact RQ.of0 rfl (.tmp (bl rfl) rfl rfl .nil)
   have hc5 := hc
   refine AW.skip ?_
   (try simp only [thenE, inBlk, Nat.reduceEqDiff, ↓reduceIte])
   (refine hK _ ?_; clear hK K; (skip))
   refine AW.region ?_
   (refine awP (op_addi rfl rfl rfl (by omega)) ?_)
   refine awP (op_move rfl rfl) ?_
   skip
   refine AWL.nil ?_
   refine ⟨i + 1, ⟨by omega, all_b_step (f := fun k => prB x ((fldI x.kind).getD k default).toNat) hi.2 (by simpa using hc5)⟩, by omega, ⟨rfl, rfl, rfl, rfl, trivial⟩, (by rfl), (by rfl)⟩
  have hc4 := hc; have hnl : ¬ i < (fldI x.kind).length := (by simpa using hc4); have hp0 : (fieldsL x.kind).all (prB x) = true := flds_yes (fun k hk => hi.2 k (by omega)); clear hi hnl
  refine AW.exit ?_; (try simp only [thenE, inBlk, Nat.reduceEqDiff, ↓reduceIte])
  clear hK K
  (refine hK _ ?_; clear hK K; (skip))
  (refine AW.seq_k ?_; intro K hK)
  (refine AW.seq_k ?_; intro K hK)
  refine AW.region ?_
  refine awP (op_assign rfl rfl) ?_
  refine AWL.nil ?_
  (refine hK _ ?_; clear hK K; (try simp only [nA, Nat.reduceBEq, Nat.reduceEqDiff, ↓reduceIte, Nat.reduceAdd, Nat.reduceSub]))
  refine AW.block ?_
  refine AW.loopI (fun j => [(1, .ptr 0 1 0 0), (5, .v (.int .i64 (j : Nat)))]) (fun j => ⟨[(1, .own 42 [x.av])], 2⟩) (fun j => 1 ≤ j ∧ j ≤ x.reports.length + 1 ∧ ∀ k, 1 ≤ k → k < j → (x.reports.getD (k - 1) default).device < (x.reports.getD k default).device) (fun j => x.reports.length + 1 - j) 1 ⟨by omega, by omega, fun k h1 h2 => by omega⟩ ⟨rfl, rfl, trivial⟩ rfl ?_; intro j ρ hj; simp only [updL]; have hrl := hx.r
  (refine AW.seq_k ?_; intro K hK)
  (refine AW.seq_k ?_; intro K hK)
  refine AW.region ?_
  refine awP (op_move rfl rfl) ?_
  (refine awP (op_fa_ptr rfl rfl rfl fl42_7 (by exact sz31) (by decide) rfl) ?_)
  (refine awR (op_load_ptr1 rfl rfl rfl rfl ag31 rfl rfl) ?_)
  refine awP (op_len_ro (n := x.reports.length) rfl rfl Tryz.underlying31 (.inr (.inl ⟨_, rfl, by simp⟩))) ?_
  refine awP (op_lss rfl rfl rfl) ?_
  refine AWL.nil ?_
  (refine hK _ ?_; clear hK K; (simp only [nA, ↓reduceIte]))
  refine AW.cond rfl rfl rfl (fun hc => ?_) (fun hc => ?_)
  ·
   have hc6 := hc; have hlt : j < x.reports.length := (by simpa using hc6)
   refine AW.skip ?_
   (refine hK _ ?_; clear hK K; (skip))
   (refine AW.seq_k ?_; intro K hK)
   refine AW.block ?_
   (refine AW.seq_k ?_; intro K hK)
   refine AW.quiet mix (by kernel_rfl) ?_
   (refine aqP (op_fa_ptr rfl rfl rfl fl42_7 (by exact sz31) (by decide) rfl) ?_)
   (refine aqR (op_load_ptr1 rfl rfl rfl rfl ag31 rfl rfl) ?_)
   refine aqP (op_move rfl rfl) ?_
   refine aqP (op_ia_ro j rfl (.inl rfl) rfl Tryz.underlying31 rfl (get_mapD (by omega)) (by exact sz60) (bl rfl)) ?_
   (refine aqP (op_fa_rop rfl rfl fl60_0 (by exact sz3) (by decide) (bl rfl) rfl) ?_)
   (refine aqR (op_load_rop1 rfl rfl ag3) ?_)
   (refine aqP (op_fa_ptr rfl rfl rfl fl42_7 (by exact sz31) (by decide) rfl) ?_)
   (refine aqR (op_load_ptr1 rfl rfl rfl rfl ag31 rfl rfl) ?_)
   refine aqP (op_move rfl rfl) ?_
   (refine aqP (op_subi rfl rfl rfl (by omega)) ?_)
   refine aqP (op_ia_ro (j - 1) rfl (.inl rfl) rfl Tryz.underlying31 (by omega) (get_mapD (by omega)) (by exact sz60) (bl rfl)) ?_
   (refine aqP (op_fa_rop rfl rfl fl60_0 (by exact sz3) (by decide) (bl rfl) rfl) ?_)
   (refine aqR (op_load_rop1 rfl rfl ag3) ?_)
   refine aqP (op_leq rfl rfl rfl) ?_
   refine AQ.nil ?_
   (refine hK _ ?_; clear hK K; (simp only [nA, ↓reduceIte]))
   refine AW.cond rfl rfl rfl (fun hc => ?_) (fun hc => ?_)
   ·
    have hc7 := hc
    (refine AW.seq_k ?_; intro K hK)
    refine AW.region ?_
    refine awP (op_assign rfl rfl) ?_
    refine AWL.nil ?_
    (refine hK _ ?_; clear hK K; (try simp only [nA, Nat.reduceBEq, Nat.reduceEqDiff, ↓reduceIte, Nat.reduceAdd, Nat.reduceSub]))
    skip
    refine AW.ret ?_; (try simp only [thenE, inBlk, Nat.reduceEqDiff, ↓reduceIte]); rw [val_a hk0 hs0 hl0 hp0 (asc_no hj.1 hlt hc7)]; exact RQ.of0 rfl (.tmp (bl rfl) rfl rfl .nil)
   have hc7 := hc
   refine AW.skip ?_
   (try simp only [thenE, inBlk, Nat.reduceEqDiff, ↓reduceIte])
   (refine hK _ ?_; clear hK K; (skip))
   refine AW.region ?_
   refine awP (op_move rfl rfl) ?_
   (refine awP (op_addi rfl rfl rfl (by omega)) ?_)
   refine awP (op_assign rfl rfl) ?_
   skip
   refine AWL.nil ?_
   refine ⟨j + 1, ⟨by omega, by omega, fun k h1 h2 => by rcases Nat.lt_or_ge k j with h | h; exact hj.2.2 k h1 h; (obtain rfl : k = j := by omega); have := of_decide_eq_false hc7; omega⟩, by omega, ⟨rfl, rfl, trivial⟩, (by rfl), (by rfl)⟩
  have hc6 := hc; have hnl : ¬ j < x.reports.length := (by simpa using hc6)
  refine AW.exit ?_; (try simp only [thenE, inBlk, Nat.reduceEqDiff, ↓reduceIte])
  clear hK K
  (refine hK _ ?_; clear hK K; (skip))
  (refine AW.seq_k ?_; intro K hK)
  refine AW.region ?_
  refine awP (op_assign rfl rfl) ?_
  refine AWL.nil ?_
  (refine hK _ ?_; clear hK K; (try simp only [nA, Nat.reduceBEq, Nat.reduceEqDiff, ↓reduceIte, Nat.reduceAdd, Nat.reduceSub]))
  skip
  refine AW.ret ?_; (try simp only [thenE, inBlk, Nat.reduceEqDiff, ↓reduceIte]); rw [val_0 hk0 hs0 hl0 hp0 (asc_yes hnl hj.2.2)]; exact RQ.of0 rfl (.tmp (bl rfl) rfl rfl .nil)
end Go.Proofs.YtfmnaigedgmhoaaGreatDoor
namespace Go.Proofs.YtfmnaigedgmhoaaGreatDoor
open Go.RowKit
set_option linter.unusedSimpArgs false
set_option linter.unusedVariables false
set_option maxRecDepth 100000
theorem only_of {x : Ev} {l : List Nat} (h : fieldsL x.kind = l) : onlyP l x (ev0 x.kind) = onlyV x := by
  unfold onlyV; rw [h]
theorem le_ev0s (k : Int) : RL Le1 [evC (ev0 k) (.v (.slice none 0 0)) (.v (.slice none 0 0))].flatten [(ev0 k).av].flatten := by
  rw [List.flatten_singleton, List.flatten_singleton]; exact le_ev0 k
set_option maxHeartbeats 8000000 in
theorem C37 {x : Ev} : Fn Tryz.prog 37 [] [.agg x.av] [.agg (onlyV x).av] [] := by
  refine Spec.body Tryz.func37 rfl Tryz.ntmps37 (by simp) rfl ?_; intro S0 own0 v0 w0 gl
  (refine AW.seq_k ?_; intro K hK)
  refine AW.region ?_
  refine awJ (op_box rfl rfl rfl sz42 rfl) ?_; (simp only [nA, Nat.reduceBEq, Nat.reduceEqDiff, ↓reduceIte])
  refine awJ (op_alloc rfl ze42 rfl) ?_; (simp only [nA, Nat.reduceBEq, Nat.reduceEqDiff, ↓reduceIte])
  refine AWL.nil ?_
  (refine hK _ ?_; clear hK K; (try simp only [nA, Nat.reduceBEq, Nat.reduceEqDiff, ↓reduceIte, Nat.reduceAdd, Nat.reduceSub]))
  (refine AW.seq_k ?_; intro K hK)
  refine AW.region ?_
  (refine awP (op_fa_ptr rfl rfl rfl fl42_0 (by exact sz3) (by decide) rfl) ?_)
  (refine awR (op_load_ptr1 rfl rfl rfl rfl ag3 rfl rfl) ?_)
  refine awP (op_build2 (xs := [_, .v (.int .i64 0), .v (.string ⟨#[]⟩), .v (.int .i64 0), .v (.int .i64 0), .v (.int .i64 0), .v (.int .i64 0), .v (.int .i64 0), .v (.bool false), .v (.slice none 0 0), .v (.int .i64 0), .v (.int .i64 0), .v (.string ⟨#[]⟩), .v (.int .i64 0), .v (.string ⟨#[]⟩), .v (.int .i64 0), .v (.int .i64 0), .v (.int .i64 0), .v (.int .i64 0), .v (.int .i64 0), .v (.int .i64 0), .v (.int .i64 0), .v (.int .i64 0), .v (.int .i64 0), .v (.int .i64 0), .v (.int .i64 0), .v (.int .i64 0), .v (.slice none 0 0), .v (.string ⟨#[]⟩), .v (.int .i64 0), .v (.string ⟨#[]⟩), .v (.int .i64 0)]) rfl pl42 ze42 [(0, [_])] rfl rfl rfl) ?_
  refine awJ (op_alloc rfl ze42 rfl) ?_; (simp only [nA, Nat.reduceBEq, Nat.reduceEqDiff, ↓reduceIte])
  refine awJ (op_store rfl rfl rfl rfl rfl rfl sz42 rfl (bl rfl) rfl) ?_; (simp only [nA, Nat.reduceBEq, Nat.reduceEqDiff, ↓reduceIte]); refine AWL.gh (Gh.slot (r := 2) (es' := [(ev0 x.kind).av]) rfl rfl (le_ev0s _)) ?_; (try simp only [nA, Nat.reduceBEq, Nat.reduceEqDiff, ↓reduceIte, Nat.reduceAdd, Nat.reduceSub])
  refine AWL.nil ?_
  (refine hK _ ?_; clear hK K; (skip))
  refine AW.join (fun (y : Ev) => [(2, .ptr 1 2 0 0), (3, .ptr 2 3 0 0)]) (fun y => ⟨[(1, .own 42 [x.av]), (2, .own 42 [evC (ev0 0) (.v (.slice none 0 0)) (.v (.slice none 0 0))]), (3, .own 42 [y.av])], 4⟩) (fun y => y = onlyV x) ?_ ?_
  ·
   (refine AW.seq_k ?_; intro K hK)
   refine AW.region ?_
   (refine awP (op_fa_ptr rfl rfl rfl fl42_0 (by exact sz3) (by decide) rfl) ?_)
   (refine awR (op_load_ptr1 rfl rfl rfl rfl ag3 rfl rfl) ?_)
   refine AWL.nil ?_
   (refine hK _ ?_; clear hK K; (try simp only [nA, Nat.reduceBEq, Nat.reduceEqDiff, ↓reduceIte, Nat.reduceAdd, Nat.reduceSub]))
   refine AW.block ?_
   (refine AW.seq_k ?_; intro K hK)
   refine AW.region ?_
   (refine awP (op_eql rfl rfl rfl) ?_)
   refine awP (op_assign rfl rfl) ?_
   refine AWL.nil ?_
   (refine hK _ ?_; clear hK K; (simp only [nA]))
   refine AW.cond rfl rfl rfl (fun hc => ?_) (fun hc => ?_)
   ·
    have hc1 := hc
    refine AW.region ?_
    (refine awP (op_fa_ptr rfl rfl rfl fl42_2 (by exact sz9) (by decide) rfl) ?_)
    (refine awR (op_load_ptr1 rfl rfl rfl rfl ag9 rfl rfl) ?_)
    (refine awP (op_fa_ptr rfl rfl rfl fl42_2 (by exact sz9) (by decide) rfl) ?_)
    refine awJ (op_store rfl rfl rfl rfl rfl rfl sz9 rfl (bl rfl) rfl) ?_; (simp only [nA, ↓reduceIte])
    refine AWL.nil ?_
    (try simp only [thenE, inBlk, Nat.reduceEqDiff, ↓reduceIte])
    exact ⟨(setP 1 x (ev0 x.kind)), only_of (l := [1]) (by rw [show x.kind = 1 from of_decide_eq_true hc1]; rfl), ⟨rfl, rfl, trivial⟩, (by rfl), (by trivial)⟩
   have hc1 := hc
   refine AW.join (fun (b : Bool) => [(1, .ptr 0 1 0 0), (2, .ptr 1 2 0 0), (3, .ptr 2 3 0 0), (8, .v (.int .i64 x.kind)), (14, .v (.bool b))]) (fun b => ⟨[(1, .own 42 [x.av]), (2, .own 42 [evC (ev0 0) (.v (.slice none 0 0)) (.v (.slice none 0 0))]), (3, .own 42 [(ev0 x.kind).av])], 4⟩) (fun b => b = true ↔ x.kind = 2 ∨ x.kind = 10) ?_ ?_
   ·
    (refine AW.seq_k ?_; intro K hK)
    refine AW.region ?_
    (refine awP (op_eql rfl rfl rfl) ?_)
    refine awP (op_assign rfl rfl) ?_
    refine AWL.nil ?_
    (refine hK _ ?_; clear hK K; (simp only [nA]))
    refine AW.cond rfl rfl rfl (fun hc => ?_) (fun hc => ?_)
    ·
     have hc2 := hc
     refine AW.skip ?_
     exact ⟨decide (x.kind = 2), ⟨fun h => .inl (of_decide_eq_true h), fun _ => hc2⟩, ⟨rfl, rfl, rfl, rfl, rfl, trivial⟩, (by rfl), (by rfl)⟩
    have hc2 := hc
    refine AW.region ?_
    (refine awP (op_eql rfl rfl rfl) ?_)
    refine awP (op_assign rfl rfl) ?_
    refine AWL.nil ?_
    exact ⟨decide (x.kind = 10), ⟨fun h => .inr (of_decide_eq_true h), fun h => h.elim (fun h => absurd h (of_decide_eq_false hc2)) decide_eq_true⟩, ⟨rfl, rfl, rfl, rfl, rfl, trivial⟩, (by rfl), (by rfl)⟩
   intro b2 ρ hb2; simp only [updL]
   refine AW.cond rfl rfl rfl (fun hc => ?_) (fun hc => ?_)
   ·
    have hc3 := hc
    refine AW.ado (fun T' => T'.slots[0]? = some (1, .own 42 [x.av]) ∧ ∃ row, T'.slots[2]? = some (3, .own 42 [row])) mix rfl ?_
    refine adPo 0 rfl (fun T' ok => op_fa_ptr rfl rfl ok.1 fl42_3 (by exact sz30) (by decide) rfl) ⟨rfl, _, rfl⟩ (by kernel_rfl) (by kernel_rfl) ?_; (simp only [nA, Nat.reduceBEq, Nat.reduceEqDiff, ↓reduceIte])
    refine adRo 1 rfl (fun T' ok => op_load_ptr rfl rfl ok.1 rfl ag30 sz30 (bl rfl) rfl) ⟨rfl, _, rfl⟩ (by kernel_rfl) (by kernel_rfl) ?_; (try simp only [nA, Nat.reduceBEq, Nat.reduceEqDiff, ↓reduceIte, Nat.reduceAdd, Nat.reduceSub])
    refine adPo 2 rfl (fun T' ok => op_fa_ptr rfl rfl ok.1 fl42_4 (by exact sz3) (by decide) rfl) ⟨rfl, _, rfl⟩ (by kernel_rfl) (by kernel_rfl) ?_; (try simp only [nA, Nat.reduceBEq, Nat.reduceEqDiff, ↓reduceIte, Nat.reduceAdd, Nat.reduceSub])
    refine adRo 3 rfl (fun T' ok => op_load_ptr1 rfl rfl ok.1 rfl ag3 rfl rfl) ⟨rfl, _, rfl⟩ (by kernel_rfl) (by kernel_rfl) ?_; (try simp only [nA, Nat.reduceBEq, Nat.reduceEqDiff, ↓reduceIte, Nat.reduceAdd, Nat.reduceSub])
    refine adPo 4 rfl (fun T' ok => ok.2.elim fun row ok => op_fa_ptr rfl rfl ok fl42_3 (by exact sz30) (by decide) rfl) ⟨rfl, _, rfl⟩ (by kernel_rfl) (by kernel_rfl) ?_; (try simp only [nA, Nat.reduceBEq, Nat.reduceEqDiff, ↓reduceIte, Nat.reduceAdd, Nat.reduceSub])
    refine adJo 5 rfl (op_store rfl rfl rfl rfl rfl rfl sz30 rfl (bl rfl) rfl) (by kernel_rfl) ⟨rfl, _, rfl⟩ ?_; (try simp only [nA, Nat.reduceBEq, Nat.reduceEqDiff, ↓reduceIte, Nat.reduceAdd, Nat.reduceSub])
    refine adPo 6 rfl (fun T' ok => ok.2.elim fun row ok => op_fa_ptr rfl rfl ok fl42_4 (by exact sz3) (by decide) rfl) ⟨rfl, _, rfl⟩ (by kernel_rfl) (by kernel_rfl) ?_; (try simp only [nA, Nat.reduceBEq, Nat.reduceEqDiff, ↓reduceIte, Nat.reduceAdd, Nat.reduceSub])
    refine adJo 7 rfl (op_store rfl rfl rfl rfl rfl rfl sz3 rfl (bl rfl) rfl) (by kernel_rfl) ⟨rfl, _, rfl⟩ ?_; (simp only [nA, ↓reduceIte])
    refine adDoneo (by kernel_rfl) ?_
    (try simp only [thenE, inBlk, Nat.reduceEqDiff, ↓reduceIte])
    exact ⟨(setP 3 x (setP 2 x (ev0 x.kind))), only_of (l := [2, 3]) (by rcases hb2.1 hc3 with h | h <;> rw [h] <;> rfl), ⟨rfl, rfl, trivial⟩, (by rfl), (by trivial)⟩
   have hc3 := hc
   (refine AW.seq_k ?_; intro K hK)
   refine AW.region ?_
   (refine awP (op_eql rfl rfl rfl) ?_)
   refine awP (op_assign rfl rfl) ?_
   refine AWL.nil ?_
   (refine hK _ ?_; clear hK K; (simp only [nA]))
   refine AW.cond rfl rfl rfl (fun hc => ?_) (fun hc => ?_)
   ·
    have hc4 := hc
    refine AW.ado (fun T' => T'.slots[0]? = some (1, .own 42 [x.av]) ∧ ∃ row, T'.slots[2]? = some (3, .own 42 [row])) mix rfl ?_
    refine adPo 0 rfl (fun T' ok => op_fa_ptr rfl rfl ok.1 fl42_1 (by exact sz3) (by decide) rfl) ⟨rfl, _, rfl⟩ (by kernel_rfl) (by kernel_rfl) ?_; (simp only [nA, Nat.reduceBEq, Nat.reduceEqDiff, ↓reduceIte])
    refine adRo 1 rfl (fun T' ok => op_load_ptr1 rfl rfl ok.1 rfl ag3 rfl rfl) ⟨rfl, _, rfl⟩ (by kernel_rfl) (by kernel_rfl) ?_; (try simp only [nA, Nat.reduceBEq, Nat.reduceEqDiff, ↓reduceIte, Nat.reduceAdd, Nat.reduceSub])
    refine adPo 2 rfl (fun T' ok => op_fa_ptr rfl rfl ok.1 fl42_7 (by exact sz31) (by decide) rfl) ⟨rfl, _, rfl⟩ (by kernel_rfl) (by kernel_rfl) ?_; (try simp only [nA, Nat.reduceBEq, Nat.reduceEqDiff, ↓reduceIte, Nat.reduceAdd, Nat.reduceSub])
    refine adRo 3 rfl (fun T' ok => op_load_ptr1 rfl rfl ok.1 rfl ag31 rfl rfl) ⟨rfl, _, rfl⟩ (by kernel_rfl) (by kernel_rfl) ?_; (try simp only [nA, Nat.reduceBEq, Nat.reduceEqDiff, ↓reduceIte, Nat.reduceAdd, Nat.reduceSub])
    refine adPo 4 rfl (fun T' ok => ok.2.elim fun row ok => op_fa_ptr rfl rfl ok fl42_1 (by exact sz3) (by decide) rfl) ⟨rfl, _, rfl⟩ (by kernel_rfl) (by kernel_rfl) ?_; (try simp only [nA, Nat.reduceBEq, Nat.reduceEqDiff, ↓reduceIte, Nat.reduceAdd, Nat.reduceSub])
    refine adJo 5 rfl (op_store rfl rfl rfl rfl rfl rfl sz3 rfl (bl rfl) rfl) (by kernel_rfl) ⟨rfl, _, rfl⟩ ?_; (simp only [nA, ↓reduceIte])
    refine adPo 6 rfl (fun T' ok => ok.2.elim fun row ok => op_fa_ptr rfl rfl ok fl42_7 (by exact sz31) (by decide) rfl) ⟨rfl, _, rfl⟩ (by kernel_rfl) (by kernel_rfl) ?_; (try simp only [nA, Nat.reduceBEq, Nat.reduceEqDiff, ↓reduceIte, Nat.reduceAdd, Nat.reduceSub])
    refine adJo 7 rfl (op_store rfl rfl rfl rfl rfl rfl sz31 rfl (bl rfl) rfl) (by kernel_rfl) ⟨rfl, _, rfl⟩ ?_; (simp only [nA, ↓reduceIte])
    refine adDoneo (by kernel_rfl) ?_
    (try simp only [thenE, inBlk, Nat.reduceEqDiff, ↓reduceIte])
    exact ⟨(setP 6 x (setP 0 x (ev0 x.kind))), only_of (l := [0, 6]) (by rw [show x.kind = 3 from of_decide_eq_true hc4]; rfl), ⟨rfl, rfl, trivial⟩, (by rfl), (by trivial)⟩
   have hc4 := hc
   (refine AW.seq_k ?_; intro K hK)
   refine AW.region ?_
   (refine awP (op_eql rfl rfl rfl) ?_)
   refine awP (op_assign rfl rfl) ?_
   refine AWL.nil ?_
   (refine hK _ ?_; clear hK K; (simp only [nA]))
   refine AW.cond rfl rfl rfl (fun hc => ?_) (fun hc => ?_)
   ·
    have hc5 := hc
    refine AW.ado (fun T' => T'.slots[0]? = some (1, .own 42 [x.av]) ∧ ∃ row, T'.slots[2]? = some (3, .own 42 [row])) mix rfl ?_
    refine adPo 0 rfl (fun T' ok => op_fa_ptr rfl rfl ok.1 fl42_5 (by exact sz3) (by decide) rfl) ⟨rfl, _, rfl⟩ (by kernel_rfl) (by kernel_rfl) ?_; (simp only [nA, Nat.reduceBEq, Nat.reduceEqDiff, ↓reduceIte])
    refine adRo 1 rfl (fun T' ok => op_load_ptr1 rfl rfl ok.1 rfl ag3 rfl rfl) ⟨rfl, _, rfl⟩ (by kernel_rfl) (by kernel_rfl) ?_; (try simp only [nA, Nat.reduceBEq, Nat.reduceEqDiff, ↓reduceIte, Nat.reduceAdd, Nat.reduceSub])
    refine adPo 2 rfl (fun T' ok => op_fa_ptr rfl rfl ok.1 fl42_6 (by exact sz4) (by decide) rfl) ⟨rfl, _, rfl⟩ (by kernel_rfl) (by kernel_rfl) ?_; (try simp only [nA, Nat.reduceBEq, Nat.reduceEqDiff, ↓reduceIte, Nat.reduceAdd, Nat.reduceSub])
    refine adRo 3 rfl (fun T' ok => op_load_ptr1 rfl rfl ok.1 rfl ag4 rfl rfl) ⟨rfl, _, rfl⟩ (by kernel_rfl) (by kernel_rfl) ?_; (try simp only [nA, Nat.reduceBEq, Nat.reduceEqDiff, ↓reduceIte, Nat.reduceAdd, Nat.reduceSub])
    refine adPo 4 rfl (fun T' ok => ok.2.elim fun row ok => op_fa_ptr rfl rfl ok fl42_5 (by exact sz3) (by decide) rfl) ⟨rfl, _, rfl⟩ (by kernel_rfl) (by kernel_rfl) ?_; (try simp only [nA, Nat.reduceBEq, Nat.reduceEqDiff, ↓reduceIte, Nat.reduceAdd, Nat.reduceSub])
    refine adJo 5 rfl (op_store rfl rfl rfl rfl rfl rfl sz3 rfl (bl rfl) rfl) (by kernel_rfl) ⟨rfl, _, rfl⟩ ?_; (simp only [nA, ↓reduceIte])
    refine adPo 6 rfl (fun T' ok => ok.2.elim fun row ok => op_fa_ptr rfl rfl ok fl42_6 (by exact sz4) (by decide) rfl) ⟨rfl, _, rfl⟩ (by kernel_rfl) (by kernel_rfl) ?_; (try simp only [nA, Nat.reduceBEq, Nat.reduceEqDiff, ↓reduceIte, Nat.reduceAdd, Nat.reduceSub])
    refine adJo 7 rfl (op_store rfl rfl rfl rfl rfl rfl sz4 rfl (bl rfl) rfl) (by kernel_rfl) ⟨rfl, _, rfl⟩ ?_; (simp only [nA, ↓reduceIte])
    refine adDoneo (by kernel_rfl) ?_
    (try simp only [thenE, inBlk, Nat.reduceEqDiff, ↓reduceIte])
    exact ⟨(setP 5 x (setP 4 x (ev0 x.kind))), only_of (l := [4, 5]) (by rw [show x.kind = 4 from of_decide_eq_true hc5]; rfl), ⟨rfl, rfl, trivial⟩, (by rfl), (by trivial)⟩
   have hc5 := hc
   (refine AW.seq_k ?_; intro K hK)
   refine AW.region ?_
   (refine awP (op_eql rfl rfl rfl) ?_)
   refine awP (op_assign rfl rfl) ?_
   refine AWL.nil ?_
   (refine hK _ ?_; clear hK K; (simp only [nA]))
   refine AW.cond rfl rfl rfl (fun hc => ?_) (fun hc => ?_)
   ·
    have hc6 := hc
    refine AW.region ?_
    (refine awP (op_fa_ptr rfl rfl rfl fl42_8 (by exact sz35) (by decide) rfl) ?_)
    (refine awR (op_load_ptr rfl rfl rfl rfl ag35 sz35 (bl rfl) rfl) ?_)
    (refine awP (op_fa_ptr rfl rfl rfl fl42_8 (by exact sz35) (by decide) rfl) ?_)
    refine awJ (op_store rfl rfl rfl rfl rfl rfl sz35 rfl (bl rfl) rfl) ?_; (try simp only [nA, Nat.reduceBEq, Nat.reduceEqDiff, ↓reduceIte, Nat.reduceAdd, Nat.reduceSub])
    refine AWL.nil ?_
    (try simp only [thenE, inBlk, Nat.reduceEqDiff, ↓reduceIte])
    exact ⟨(setP 7 x (ev0 x.kind)), only_of (l := [7]) (by rw [show x.kind = 5 from of_decide_eq_true hc6]; rfl), ⟨rfl, rfl, trivial⟩, (by rfl), (by trivial)⟩
   have hc6 := hc
   refine AW.join (fun (b : Bool) => [(1, .ptr 0 1 0 0), (2, .ptr 1 2 0 0), (3, .ptr 2 3 0 0), (8, .v (.int .i64 x.kind)), (44, .v (.bool b))]) (fun b => ⟨[(1, .own 42 [x.av]), (2, .own 42 [evC (ev0 0) (.v (.slice none 0 0)) (.v (.slice none 0 0))]), (3, .own 42 [(ev0 x.kind).av])], 4⟩) (fun b => b = true ↔ x.kind = 6 ∨ x.kind = 7) ?_ ?_
   ·
    (refine AW.seq_k ?_; intro K hK)
    refine AW.region ?_
    (refine awP (op_eql rfl rfl rfl) ?_)
    refine awP (op_assign rfl rfl) ?_
    refine AWL.nil ?_
    (refine hK _ ?_; clear hK K; (simp only [nA]))
    refine AW.cond rfl rfl rfl (fun hc => ?_) (fun hc => ?_)
    ·
     have hc7 := hc
     refine AW.skip ?_
     exact ⟨decide (x.kind = 6), ⟨fun h => .inl (of_decide_eq_true h), fun _ => hc7⟩, ⟨rfl, rfl, rfl, rfl, rfl, trivial⟩, (by rfl), (by rfl)⟩
    have hc7 := hc
    refine AW.region ?_
    (refine awP (op_eql rfl rfl rfl) ?_)
    refine awP (op_assign rfl rfl) ?_
    refine AWL.nil ?_
    exact ⟨decide (x.kind = 7), ⟨fun h => .inr (of_decide_eq_true h), fun h => h.elim (fun h => absurd h (of_decide_eq_false hc7)) decide_eq_true⟩, ⟨rfl, rfl, rfl, rfl, rfl, trivial⟩, (by rfl), (by rfl)⟩
   intro b7 ρ hb7; simp only [updL]
   refine AW.cond rfl rfl rfl (fun hc => ?_) (fun hc => ?_)
   ·
    have hc8 := hc
    refine AW.region ?_
    (refine awP (op_fa_ptr rfl rfl rfl fl42_4 (by exact sz3) (by decide) rfl) ?_)
    (refine awR (op_load_ptr1 rfl rfl rfl rfl ag3 rfl rfl) ?_)
    (refine awP (op_fa_ptr rfl rfl rfl fl42_4 (by exact sz3) (by decide) rfl) ?_)
    refine awJ (op_store rfl rfl rfl rfl rfl rfl sz3 rfl (bl rfl) rfl) ?_; (simp only [nA, ↓reduceIte])
    refine AWL.nil ?_
    (try simp only [thenE, inBlk, Nat.reduceEqDiff, ↓reduceIte])
    exact ⟨(setP 3 x (ev0 x.kind)), only_of (l := [3]) (by rcases hb7.1 hc8 with h | h <;> rw [h] <;> rfl), ⟨rfl, rfl, trivial⟩, (by rfl), (by trivial)⟩
   have hc8 := hc
   (refine AW.seq_k ?_; intro K hK)
   refine AW.region ?_
   (refine awP (op_eql rfl rfl rfl) ?_)
   refine awP (op_assign rfl rfl) ?_
   refine AWL.nil ?_
   (refine hK _ ?_; clear hK K; (simp only [nA]))
   refine AW.cond rfl rfl rfl (fun hc => ?_) (fun hc => ?_)
   ·
    have hc9 := hc
    refine AW.ado (fun T' => T'.slots[0]? = some (1, .own 42 [x.av]) ∧ ∃ row, T'.slots[2]? = some (3, .own 42 [row])) mix rfl ?_
    refine adPo 0 rfl (fun T' ok => op_fa_ptr rfl rfl ok.1 fl42_10 (by exact sz39) (by decide) rfl) ⟨rfl, _, rfl⟩ (by kernel_rfl) (by kernel_rfl) ?_; (simp only [nA, Nat.reduceBEq, Nat.reduceEqDiff, ↓reduceIte])
    refine adRo 1 rfl (fun T' ok => op_load_ptr rfl rfl ok.1 rfl ag39 sz39 (bl rfl) rfl) ⟨rfl, _, rfl⟩ (by kernel_rfl) (by kernel_rfl) ?_; (try simp only [nA, Nat.reduceBEq, Nat.reduceEqDiff, ↓reduceIte, Nat.reduceAdd, Nat.reduceSub])
    refine adPo 2 rfl (fun T' ok => op_fa_ptr rfl rfl ok.1 fl42_4 (by exact sz3) (by decide) rfl) ⟨rfl, _, rfl⟩ (by kernel_rfl) (by kernel_rfl) ?_; (try simp only [nA, Nat.reduceBEq, Nat.reduceEqDiff, ↓reduceIte, Nat.reduceAdd, Nat.reduceSub])
    refine adRo 3 rfl (fun T' ok => op_load_ptr1 rfl rfl ok.1 rfl ag3 rfl rfl) ⟨rfl, _, rfl⟩ (by kernel_rfl) (by kernel_rfl) ?_; (try simp only [nA, Nat.reduceBEq, Nat.reduceEqDiff, ↓reduceIte, Nat.reduceAdd, Nat.reduceSub])
    refine adPo 4 rfl (fun T' ok => ok.2.elim fun row ok => op_fa_ptr rfl rfl ok fl42_10 (by exact sz39) (by decide) rfl) ⟨rfl, _, rfl⟩ (by kernel_rfl) (by kernel_rfl) ?_; (try simp only [nA, Nat.reduceBEq, Nat.reduceEqDiff, ↓reduceIte, Nat.reduceAdd, Nat.reduceSub])
    refine adJo 5 rfl (op_store rfl rfl rfl rfl rfl rfl sz39 rfl (bl rfl) rfl) (by kernel_rfl) ⟨rfl, _, rfl⟩ ?_; (try simp only [nA, Nat.reduceBEq, Nat.reduceEqDiff, ↓reduceIte, Nat.reduceAdd, Nat.reduceSub])
    refine adPo 6 rfl (fun T' ok => ok.2.elim fun row ok => op_fa_ptr rfl rfl ok fl42_4 (by exact sz3) (by decide) rfl) ⟨rfl, _, rfl⟩ (by kernel_rfl) (by kernel_rfl) ?_; (try simp only [nA, Nat.reduceBEq, Nat.reduceEqDiff, ↓reduceIte, Nat.reduceAdd, Nat.reduceSub])
    refine adJo 7 rfl (op_store rfl rfl rfl rfl rfl rfl sz3 rfl (bl rfl) rfl) (by kernel_rfl) ⟨rfl, _, rfl⟩ ?_; (simp only [nA, ↓reduceIte])
    refine adDoneo (by kernel_rfl) ?_
    (try simp only [thenE, inBlk, Nat.reduceEqDiff, ↓reduceIte])
    exact ⟨(setP 3 x (setP 9 x (ev0 x.kind))), only_of (l := [9, 3]) (by rw [show x.kind = 8 from of_decide_eq_true hc9]; rfl), ⟨rfl, rfl, trivial⟩, (by rfl), (by trivial)⟩
   have hc9 := hc
   (refine AW.seq_k ?_; intro K hK)
   refine AW.region ?_
   (refine awP (op_eql rfl rfl rfl) ?_)
   refine awP (op_assign rfl rfl) ?_
   refine AWL.nil ?_
   (refine hK _ ?_; clear hK K; (simp only [nA]))
   refine AW.cond rfl rfl rfl (fun hc => ?_) (fun hc => ?_)
   ·
    have hc10 := hc
    refine AW.region ?_
    (refine awP (op_fa_ptr rfl rfl rfl fl42_10 (by exact sz39) (by decide) rfl) ?_)
    (refine awR (op_load_ptr rfl rfl rfl rfl ag39 sz39 (bl rfl) rfl) ?_)
    (refine awP (op_fa_ptr rfl rfl rfl fl42_10 (by exact sz39) (by decide) rfl) ?_)
    refine awJ (op_store rfl rfl rfl rfl rfl rfl sz39 rfl (bl rfl) rfl) ?_; (try simp only [nA, Nat.reduceBEq, Nat.reduceEqDiff, ↓reduceIte, Nat.reduceAdd, Nat.reduceSub])
    refine AWL.nil ?_
    (try simp only [thenE, inBlk, Nat.reduceEqDiff, ↓reduceIte])
    exact ⟨(setP 9 x (ev0 x.kind)), only_of (l := [9]) (by rw [show x.kind = 9 from of_decide_eq_true hc10]; rfl), ⟨rfl, rfl, trivial⟩, (by rfl), (by trivial)⟩
   have hc10 := hc
   (refine AW.seq_k ?_; intro K hK)
   refine AW.region ?_
   (refine awP (op_eql rfl rfl rfl) ?_)
   refine awP (op_assign rfl rfl) ?_
   refine AWL.nil ?_
   (refine hK _ ?_; clear hK K; (simp only [nA]))
   refine AW.cond rfl rfl rfl (fun hc => ?_) (fun hc => ?_)
   ·
    have hc11 := hc
    refine AW.region ?_
    (refine awP (op_fa_ptr rfl rfl rfl fl42_9 (by exact sz3) (by decide) rfl) ?_)
    (refine awR (op_load_ptr1 rfl rfl rfl rfl ag3 rfl rfl) ?_)
    (refine awP (op_fa_ptr rfl rfl rfl fl42_9 (by exact sz3) (by decide) rfl) ?_)
    refine awJ (op_store rfl rfl rfl rfl rfl rfl sz3 rfl (bl rfl) rfl) ?_; (simp only [nA, ↓reduceIte])
    refine AWL.nil ?_
    (try simp only [thenE, inBlk, Nat.reduceEqDiff, ↓reduceIte])
    exact ⟨(setP 8 x (ev0 x.kind)), only_of (l := [8]) (by rw [show x.kind = 11 from of_decide_eq_true hc11]; rfl), ⟨rfl, rfl, trivial⟩, (by rfl), (by trivial)⟩
   have hc11 := hc
   (refine AW.seq_k ?_; intro K hK)
   refine AW.region ?_
   (refine awP (op_eql rfl rfl rfl) ?_)
   refine awP (op_assign rfl rfl) ?_
   refine AWL.nil ?_
   (refine hK _ ?_; clear hK K; (simp only [nA]))
   refine AW.cond rfl rfl rfl (fun hc => ?_) (fun hc => ?_)
   ·
    have hc12 := hc
    refine AW.ado (fun T' => T'.slots[0]? = some (1, .own 42 [x.av]) ∧ ∃ row, T'.slots[2]? = some (3, .own 42 [row])) mix rfl ?_
    refine adPo 0 rfl (fun T' ok => op_fa_ptr rfl rfl ok.1 fl42_9 (by exact sz3) (by decide) rfl) ⟨rfl, _, rfl⟩ (by kernel_rfl) (by kernel_rfl) ?_; (simp only [nA, Nat.reduceBEq, Nat.reduceEqDiff, ↓reduceIte])
    refine adRo 1 rfl (fun T' ok => op_load_ptr1 rfl rfl ok.1 rfl ag3 rfl rfl) ⟨rfl, _, rfl⟩ (by kernel_rfl) (by kernel_rfl) ?_; (try simp only [nA, Nat.reduceBEq, Nat.reduceEqDiff, ↓reduceIte, Nat.reduceAdd, Nat.reduceSub])
    refine adPo 2 rfl (fun T' ok => op_fa_ptr rfl rfl ok.1 fl42_11 (by exact sz40) (by decide) rfl) ⟨rfl, _, rfl⟩ (by kernel_rfl) (by kernel_rfl) ?_; (try simp only [nA, Nat.reduceBEq, Nat.reduceEqDiff, ↓reduceIte, Nat.reduceAdd, Nat.reduceSub])
    refine adRo 3 rfl (fun T' ok => op_load_ptr1 rfl rfl ok.1 rfl ag40 rfl rfl) ⟨rfl, _, rfl⟩ (by kernel_rfl) (by kernel_rfl) ?_; (try simp only [nA, Nat.reduceBEq, Nat.reduceEqDiff, ↓reduceIte, Nat.reduceAdd, Nat.reduceSub])
    refine adPo 4 rfl (fun T' ok => ok.2.elim fun row ok => op_fa_ptr rfl rfl ok fl42_9 (by exact sz3) (by decide) rfl) ⟨rfl, _, rfl⟩ (by kernel_rfl) (by kernel_rfl) ?_; (try simp only [nA, Nat.reduceBEq, Nat.reduceEqDiff, ↓reduceIte, Nat.reduceAdd, Nat.reduceSub])
    refine adJo 5 rfl (op_store rfl rfl rfl rfl rfl rfl sz3 rfl (bl rfl) rfl) (by kernel_rfl) ⟨rfl, _, rfl⟩ ?_; (simp only [nA, ↓reduceIte])
    refine adPo 6 rfl (fun T' ok => ok.2.elim fun row ok => op_fa_ptr rfl rfl ok fl42_11 (by exact sz40) (by decide) rfl) ⟨rfl, _, rfl⟩ (by kernel_rfl) (by kernel_rfl) ?_; (try simp only [nA, Nat.reduceBEq, Nat.reduceEqDiff, ↓reduceIte, Nat.reduceAdd, Nat.reduceSub])
    refine adJo 7 rfl (op_store rfl rfl rfl rfl rfl rfl sz40 rfl (bl rfl) rfl) (by kernel_rfl) ⟨rfl, _, rfl⟩ ?_; (simp only [nA, ↓reduceIte])
    refine adDoneo (by kernel_rfl) ?_
    (try simp only [thenE, inBlk, Nat.reduceEqDiff, ↓reduceIte])
    exact ⟨(setP 10 x (setP 8 x (ev0 x.kind))), only_of (l := [8, 10]) (by rw [show x.kind = 12 from of_decide_eq_true hc12]; rfl), ⟨rfl, rfl, trivial⟩, (by rfl), (by trivial)⟩
   have hc12 := hc
   (refine AW.seq_k ?_; intro K hK)
   refine AW.region ?_
   (refine awP (op_eql rfl rfl rfl) ?_)
   refine awP (op_assign rfl rfl) ?_
   refine AWL.nil ?_
   (refine hK _ ?_; clear hK K; (simp only [nA]))
   refine AW.cond rfl rfl rfl (fun hc => ?_) (fun hc => ?_)
   ·
    have hc13 := hc
    refine AW.region ?_
    (refine awP (op_fa_ptr rfl rfl rfl fl42_12 (by exact sz33) (by decide) rfl) ?_)
    (refine awR (op_load_ptr rfl rfl rfl rfl ag33 sz33 (bl rfl) rfl) ?_)
    (refine awP (op_fa_ptr rfl rfl rfl fl42_12 (by exact sz33) (by decide) rfl) ?_)
    refine awJ (op_store rfl rfl rfl rfl rfl rfl sz33 rfl (bl rfl) rfl) ?_; (try simp only [nA, Nat.reduceBEq, Nat.reduceEqDiff, ↓reduceIte, Nat.reduceAdd, Nat.reduceSub])
    refine AWL.nil ?_
    (try simp only [thenE, inBlk, Nat.reduceEqDiff, ↓reduceIte])
    exact ⟨(setP 11 x (ev0 x.kind)), only_of (l := [11]) (by rw [show x.kind = 13 from of_decide_eq_true hc13]; rfl), ⟨rfl, rfl, trivial⟩, (by rfl), (by trivial)⟩
   have hc13 := hc
   refine AW.skip ?_
   (try simp only [thenE, inBlk, Nat.reduceEqDiff, ↓reduceIte])
   exact ⟨ev0 x.kind, only_of (l := []) (by have h2 : ¬ (x.kind = 2 ∨ x.kind = 10) := (fun h => by have := hb2.2 h; rw [this] at hc3; cases hc3); have h7 : ¬ (x.kind = 6 ∨ x.kind = 7) := (fun h => by have := hb7.2 h; rw [this] at hc8; cases hc8); simp only [decide_eq_false_iff_not] at hc1 hc4 hc5 hc6 hc9 hc10 hc11 hc12 hc13; unfold fieldsL; repeat rw [if_neg (by omega)]), ⟨rfl, rfl, trivial⟩, (by rfl), (by trivial)⟩
  rintro y ρ rfl; simp only [updL]
  (refine AW.seq_k ?_; intro K hK)
  refine AW.region ?_
  (refine awR (op_load_ptr rfl rfl rfl rfl ag42 sz42 (bl rfl) rfl) ?_)
  refine awJ (op_store rfl rfl rfl rfl rfl rfl sz42 rfl (bl rfl) rfl) ?_; (try simp only [nA, Nat.reduceBEq, Nat.reduceEqDiff, ↓reduceIte, Nat.reduceAdd, Nat.reduceSub])
  refine AWL.nil ?_
  (refine hK _ ?_; clear hK K; (skip))
  skip
  refine AW.ret ?_; (try simp only [thenE, inBlk, Nat.reduceEqDiff, ↓reduceIte]); exact RQ.of0 rfl (.cell (bl rfl) rfl rfl rfl ag42 sz42 (bl rfl) rfl rfl .nil)
end Go.Proofs.YtfmnaigedgmhoaaGreatDoor
