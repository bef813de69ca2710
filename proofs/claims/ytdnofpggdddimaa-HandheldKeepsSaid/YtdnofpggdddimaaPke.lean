import Derived.Test.YtdnofpggdddimaaPkd
import Derived.RangeFuncNested
import Derived.RangeFuncBound
import Derived.RangeFuncCalls
import Derived.RangeFuncLeaves
import Derived.Shelf.Abstract
import Derived.Shelf.RegionOpen
import Derived.OwnWalkIn
import Derived.TacticsInMore
import Derived.LoopNIn
import Derived.LoopIn
namespace Go.Proofs.Ytdnofpggdddimaa
open Go.RowKit
set_option linter.unusedSimpArgs false
set_option linter.unusedVariables false
set_option maxRecDepth 100000
def flightOf (l : List Container) (n : Int) : Flight × Bool := if idxI (fun c : Container => decide (c.number = n)) l < 0 then (default, false) else ((l.getD (idxI (fun c : Container => decide (c.number = n)) l).toNat default).flight, true)
def grantedB (l : List Grant) (p : Piece) (f : Flight) : Bool := decide (idxI (fun x => grEq ⟨p, f⟩ x) l ≥ 0)
def headNeH (a b : Hand) : Bool := (((((!decide (a.number = b.number) || !decide (a.next = b.next)) || !decide (a.last = b.last)) || !decide (a.offline = b.offline)) || !decide ((a.grants.length : Int) = b.grants.length)) || !listEq sameC a.conts b.conts) || !listEq opEq a.log b.log
def sameH (a b : Hand) : Bool := !headNeH a b && (List.range a.grants.length).all fun i => grEq (a.grants.getD i default) (b.grants.getD i default)
theorem headNe_len {a b : Hand} (h : headNeH a b = false) : a.grants.length = b.grants.length := by
  unfold headNeH at h
  simp only [Bool.or_eq_false_iff, Bool.not_eq_false', decide_eq_true_eq] at h
  omega
theorem C15 {a b : Hand} (hs : a.Sm) : Fn Try.prog 15 [] [.agg a.av, .agg b.av] [.v (.bool (sameH a b))] [] := by
  refine Spec.body Try.func15 rfl Try.ntmps15 (by simp) rfl ?_; intro S0 own0 v0 w0
  (refine AW.seq_k ?_; intro K hK)
  refine AW.region ?_
  refine awJ (op_box rfl rfl rfl sz26 rfl) ?_; (try simp only [nA, Nat.reduceBEq, Nat.reduceEqDiff, ↓reduceIte, Nat.reduceAdd, Nat.reduceSub])
  refine awJ (op_box rfl rfl rfl sz26 rfl) ?_; (try simp only [nA, Nat.reduceBEq, Nat.reduceEqDiff, ↓reduceIte, Nat.reduceAdd, Nat.reduceSub])
  refine awP (op_assign rfl rfl) ?_
  refine AWL.nil ?_
  (refine hK _ ?_; clear hK K; (try simp only [nA, Nat.reduceBEq, Nat.reduceEqDiff, ↓reduceIte, Nat.reduceAdd, Nat.reduceSub]))
  (refine AW.seq_k ?_; intro K hK)
  (refine AW.seq_k ?_; intro K hK)
  refine AW.region (AWL.quiet ?_)
  (first | refine aqP (op_fa_ptr rfl rfl rfl fl26_0 (by exact sz3) (by decide) rfl) ?_ | refine aqP (op_fa_rop rfl rfl fl26_0 (by exact sz3) (by decide) (Nat.le_of_ble_eq_true rfl) rfl) ?_)
  (first | refine aqR (op_load_ptr1 rfl rfl rfl rfl ag3 rfl rfl) ?_ | refine aqR (op_load_rop1 rfl rfl ag3) ?_)
  (first | refine aqP (op_fa_ptr rfl rfl rfl fl26_0 (by exact sz3) (by decide) rfl) ?_ | refine aqP (op_fa_rop rfl rfl fl26_0 (by exact sz3) (by decide) (Nat.le_of_ble_eq_true rfl) rfl) ?_)
  (first | refine aqR (op_load_ptr1 rfl rfl rfl rfl ag3 rfl rfl) ?_ | refine aqR (op_load_rop1 rfl rfl ag3) ?_)
  (first | refine aqP (op_neq rfl rfl rfl) ?_ | refine aqP (op_sneq rfl rfl rfl) ?_)
  refine aqP (op_move rfl rfl) ?_
  refine' aqOr' [_, _, _, _, _] [12,13,14,15,16] rfl rfl rfl rfl rfl rfl rfl rfl rfl rfl rfl rfl (fun hb => ?_) ?_; rotate_left
  ·
   (try simp only [hcS] at hb)
   (first | refine aqP (op_fa_ptr rfl rfl rfl fl26_1 (by exact sz3) (by decide) rfl) ?_ | refine aqP (op_fa_rop rfl rfl fl26_1 (by exact sz3) (by decide) (Nat.le_of_ble_eq_true rfl) rfl) ?_)
   (first | refine aqR (op_load_ptr1 rfl rfl rfl rfl ag3 rfl rfl) ?_ | refine aqR (op_load_rop1 rfl rfl ag3) ?_)
   (first | refine aqP (op_fa_ptr rfl rfl rfl fl26_1 (by exact sz3) (by decide) rfl) ?_ | refine aqP (op_fa_rop rfl rfl fl26_1 (by exact sz3) (by decide) (Nat.le_of_ble_eq_true rfl) rfl) ?_)
   (first | refine aqR (op_load_ptr1 rfl rfl rfl rfl ag3 rfl rfl) ?_ | refine aqR (op_load_rop1 rfl rfl ag3) ?_)
   (first | refine aqP (op_neq rfl rfl rfl) ?_ | refine aqP (op_sneq rfl rfl rfl) ?_)
   (refine aqSeg rfl rfl rfl ?_; repeat (first | exact fun _ _ => rfl | refine upd_out rfl ?_ | refine era_out rfl ?_))
  (try simp only [nA, Nat.reduceBEq, Nat.reduceEqDiff, ↓reduceIte, Nat.reduceAdd, Nat.reduceSub])
  refine aqP (op_move rfl rfl) ?_
  refine' aqOr' [_, _, _, _, _] [19,20,21,22,23] rfl rfl rfl rfl rfl rfl rfl rfl rfl rfl rfl rfl (fun hb => ?_) ?_; rotate_left
  ·
   (try simp only [hcS] at hb)
   (first | refine aqP (op_fa_ptr rfl rfl rfl fl26_2 (by exact sz3) (by decide) rfl) ?_ | refine aqP (op_fa_rop rfl rfl fl26_2 (by exact sz3) (by decide) (Nat.le_of_ble_eq_true rfl) rfl) ?_)
   (first | refine aqR (op_load_ptr1 rfl rfl rfl rfl ag3 rfl rfl) ?_ | refine aqR (op_load_rop1 rfl rfl ag3) ?_)
   (first | refine aqP (op_fa_ptr rfl rfl rfl fl26_2 (by exact sz3) (by decide) rfl) ?_ | refine aqP (op_fa_rop rfl rfl fl26_2 (by exact sz3) (by decide) (Nat.le_of_ble_eq_true rfl) rfl) ?_)
   (first | refine aqR (op_load_ptr1 rfl rfl rfl rfl ag3 rfl rfl) ?_ | refine aqR (op_load_rop1 rfl rfl ag3) ?_)
   (first | refine aqP (op_neq rfl rfl rfl) ?_ | refine aqP (op_sneq rfl rfl rfl) ?_)
   (refine aqSeg rfl rfl rfl ?_; repeat (first | exact fun _ _ => rfl | refine upd_out rfl ?_ | refine era_out rfl ?_))
  (try simp only [nA, Nat.reduceBEq, Nat.reduceEqDiff, ↓reduceIte, Nat.reduceAdd, Nat.reduceSub])
  refine aqP (op_move rfl rfl) ?_
  refine' aqOr' [_, _, _, _, _] [26,27,28,29,30] rfl rfl rfl rfl rfl rfl rfl rfl rfl rfl rfl rfl (fun hb => ?_) ?_; rotate_left
  ·
   (try simp only [hcS] at hb)
   (first | refine aqP (op_fa_ptr rfl rfl rfl fl26_3 (by exact sz4) (by decide) rfl) ?_ | refine aqP (op_fa_rop rfl rfl fl26_3 (by exact sz4) (by decide) (Nat.le_of_ble_eq_true rfl) rfl) ?_)
   (first | refine aqR (op_load_ptr1 rfl rfl rfl rfl ag4 rfl rfl) ?_ | refine aqR (op_load_rop1 rfl rfl ag4) ?_)
   (first | refine aqP (op_fa_ptr rfl rfl rfl fl26_3 (by exact sz4) (by decide) rfl) ?_ | refine aqP (op_fa_rop rfl rfl fl26_3 (by exact sz4) (by decide) (Nat.le_of_ble_eq_true rfl) rfl) ?_)
   (first | refine aqR (op_load_ptr1 rfl rfl rfl rfl ag4 rfl rfl) ?_ | refine aqR (op_load_rop1 rfl rfl ag4) ?_)
   (first | refine aqP (op_neq rfl rfl rfl) ?_ | refine aqP (op_sneq rfl rfl rfl) ?_ | refine aqP (op_bneq rfl rfl rfl Try.underlying4) ?_)
   (refine aqSeg rfl rfl rfl ?_; repeat (first | exact fun _ _ => rfl | refine upd_out rfl ?_ | refine era_out rfl ?_))
  (try simp only [nA, Nat.reduceBEq, Nat.reduceEqDiff, ↓reduceIte, Nat.reduceAdd, Nat.reduceSub])
  refine aqP (op_move rfl rfl) ?_
  refine' aqOr' [_, _, _, _, _, _, _] [33,34,35,36,37,38,39] rfl rfl rfl rfl rfl rfl rfl rfl rfl rfl rfl rfl (fun hb => ?_) ?_; rotate_left
  ·
   (try simp only [hcS] at hb)
   (first | refine aqP (op_fa_ptr rfl rfl rfl fl26_4 (by exact sz22) (by decide) rfl) ?_ | refine aqP (op_fa_rop rfl rfl fl26_4 (by exact sz22) (by decide) (Nat.le_of_ble_eq_true rfl) rfl) ?_)
   (first | refine aqR (op_load_ptr1 rfl rfl rfl rfl ag22 rfl rfl) ?_ | refine aqR (op_load_rop1 rfl rfl ag22) ?_)
   refine aqP (op_len_ro (n := a.grants.length) rfl rfl Try.underlying22 (.inr (.inl ⟨_, rfl, by simp⟩))) ?_
   (first | refine aqP (op_fa_ptr rfl rfl rfl fl26_4 (by exact sz22) (by decide) rfl) ?_ | refine aqP (op_fa_rop rfl rfl fl26_4 (by exact sz22) (by decide) (Nat.le_of_ble_eq_true rfl) rfl) ?_)
   (first | refine aqR (op_load_ptr1 rfl rfl rfl rfl ag22 rfl rfl) ?_ | refine aqR (op_load_rop1 rfl rfl ag22) ?_)
   refine aqP (op_len_ro (n := b.grants.length) rfl rfl Try.underlying22 (.inr (.inl ⟨_, rfl, by simp⟩))) ?_
   (first | refine aqP (op_neq rfl rfl rfl) ?_ | refine aqP (op_sneq rfl rfl rfl) ?_)
   (refine aqSeg rfl rfl rfl ?_; repeat (first | exact fun _ _ => rfl | refine upd_out rfl ?_ | refine era_out rfl ?_))
  (try simp only [nA, Nat.reduceBEq, Nat.reduceEqDiff, ↓reduceIte, Nat.reduceAdd, Nat.reduceSub])
  refine aqP (op_move rfl rfl) ?_
  refine' aqOr' [_, _, _, _, _, _] [42,43,44,45,46,47] rfl rfl rfl rfl rfl rfl rfl rfl rfl rfl rfl rfl (fun hb => ?_) ?_; rotate_left
  ·
   (try simp only [hcS] at hb)
   (first | refine aqP (op_fa_ptr rfl rfl rfl fl26_5 (by exact sz23) (by decide) rfl) ?_ | refine aqP (op_fa_rop rfl rfl fl26_5 (by exact sz23) (by decide) (Nat.le_of_ble_eq_true rfl) rfl) ?_)
   (first | refine aqR (op_load_ptr1 rfl rfl rfl rfl ag23 rfl rfl) ?_ | refine aqR (op_load_rop1 rfl rfl ag23) ?_)
   (first | refine aqP (op_fa_ptr rfl rfl rfl fl26_5 (by exact sz23) (by decide) rfl) ?_ | refine aqP (op_fa_rop rfl rfl fl26_5 (by exact sz23) (by decide) (Nat.le_of_ble_eq_true rfl) rfl) ?_)
   (first | refine aqR (op_load_ptr1 rfl rfl rfl rfl ag23 rfl rfl) ?_ | refine aqR (op_load_rop1 rfl rfl ag23) ?_)
   refine aqQ (op_callQ (b := true) rfl en44 (C44 (a := a.conts) (b := b.conts) (by have := hs.c; omega) (fun c hc => Nat.le_trans (hs.p c hc) (by omega))) (RL.cons (by first | exact View.same rfl | exact View.nil | exact View.rof | exact View.src .ro | exact View.src .rof | exact View.src (.sl rfl rfl) | exact View.ptr rfl rfl rfl) (RL.cons (by first | exact View.same rfl | exact View.nil | exact View.rof | exact View.src .ro | exact View.src .rof | exact View.src (.sl rfl rfl) | exact View.ptr rfl rfl rfl) (RL.nil))) rfl) ?_; (try simp only [nA, Nat.reduceBEq, Nat.reduceEqDiff, ↓reduceIte, Nat.reduceAdd, Nat.reduceSub])
   refine aqP (op_not rfl rfl rfl) ?_
   (refine aqSeg rfl rfl rfl ?_; repeat (first | exact fun _ _ => rfl | refine upd_out rfl ?_ | refine era_out rfl ?_))
  (try simp only [nA, Nat.reduceBEq, Nat.reduceEqDiff, ↓reduceIte, Nat.reduceAdd, Nat.reduceSub])
  refine aqP (op_move rfl rfl) ?_
  refine' aqOr' [_, _, _, _, _, _] [50,51,52,53,54,55] rfl rfl rfl rfl rfl rfl rfl rfl rfl rfl rfl rfl (fun hb => ?_) ?_; rotate_left
  ·
   (try simp only [hcS] at hb)
   (first | refine aqP (op_fa_ptr rfl rfl rfl fl26_6 (by exact sz24) (by decide) rfl) ?_ | refine aqP (op_fa_rop rfl rfl fl26_6 (by exact sz24) (by decide) (Nat.le_of_ble_eq_true rfl) rfl) ?_)
   (first | refine aqR (op_load_ptr1 rfl rfl rfl rfl ag24 rfl rfl) ?_ | refine aqR (op_load_rop1 rfl rfl ag24) ?_)
   (first | refine aqP (op_fa_ptr rfl rfl rfl fl26_6 (by exact sz24) (by decide) rfl) ?_ | refine aqP (op_fa_rop rfl rfl fl26_6 (by exact sz24) (by decide) (Nat.le_of_ble_eq_true rfl) rfl) ?_)
   (first | refine aqR (op_load_ptr1 rfl rfl rfl rfl ag24 rfl rfl) ?_ | refine aqR (op_load_rop1 rfl rfl ag24) ?_)
   refine aqQ (op_callQ (b := true) rfl en36 (C36 (a := a.log) (b := b.log) (by have := hs.l; omega)) (RL.cons (by first | exact View.same rfl | exact View.nil | exact View.rof | exact View.src .ro | exact View.src .rof | exact View.src (.sl rfl rfl) | exact View.ptr rfl rfl rfl) (RL.cons (by first | exact View.same rfl | exact View.nil | exact View.rof | exact View.src .ro | exact View.src .rof | exact View.src (.sl rfl rfl) | exact View.ptr rfl rfl rfl) (RL.nil))) rfl) ?_; (try simp only [nA, Nat.reduceBEq, Nat.reduceEqDiff, ↓reduceIte, Nat.reduceAdd, Nat.reduceSub])
   refine aqP (op_not rfl rfl rfl) ?_
   (refine aqSeg rfl rfl rfl ?_; repeat (first | exact fun _ _ => rfl | refine upd_out rfl ?_ | refine era_out rfl ?_))
  (try simp only [nA, Nat.reduceBEq, Nat.reduceEqDiff, ↓reduceIte, Nat.reduceAdd, Nat.reduceSub])
  refine AQ.nil ?_
  (refine hK _ ?_; clear hK K; (try simp only [nA, Nat.reduceBEq, Nat.reduceEqDiff, ↓reduceIte, Nat.reduceAdd, Nat.reduceSub]))
  refine AW.cond rfl rfl rfl (fun hc => ?_) (fun hc => ?_)
  ·
   (skip); have hc1 := hc; skip
   (refine AW.seq_k ?_; intro K hK)
   refine AW.region ?_
   refine awP (op_assign rfl rfl) ?_
   refine AWL.nil ?_
   (refine hK _ ?_; clear hK K; (try simp only [nA, Nat.reduceBEq, Nat.reduceEqDiff, ↓reduceIte, Nat.reduceAdd, Nat.reduceSub]))
   skip
   refine AW.ret ?_; (try simp only [thenE, inBlk, Nat.reduceEqDiff, ↓reduceIte]); rw [show sameH a b = false by unfold sameH; rw [show headNeH a b = true from hc1]; rfl]; exact RQ.of0 rfl (.tmp (Nat.le_of_ble_eq_true rfl) rfl rfl .nil)
  ·
   (skip); have hc1 := hc; have hle := headNe_len (a := a) (b := b) hc1; have hg := hs.g
   refine AW.skip ?_
   (refine hK _ ?_; clear hK K; (try simp only [nA, Nat.reduceBEq, Nat.reduceEqDiff, ↓reduceIte, Nat.reduceAdd, Nat.reduceSub]))
   (refine AW.seq_k ?_; intro K hK)
   (refine AW.seq_k ?_; intro K hK)
   refine AW.region ?_
   refine awP (op_assign rfl rfl) ?_
   refine AWL.nil ?_
   (refine hK _ ?_; clear hK K; (try simp only [nA, Nat.reduceBEq, Nat.reduceEqDiff, ↓reduceIte, Nat.reduceAdd, Nat.reduceSub]))
   refine AW.block ?_
   refine AW.loopI (fun i => [(2, .ptr 0 1 0 0), (3, .ptr 1 2 0 0), (5, .v (.int .i64 (i : Nat)))]) (fun i => ⟨[(1, .own 26 [a.av]), (2, .own 26 [b.av])], 3⟩) (fun i => i ≤ a.grants.length ∧ ∀ k, k < i → grEq (a.grants.getD k default) (b.grants.getD k default) = true) (fun i => a.grants.length - i) 0 (by simp) ⟨rfl, rfl, rfl, trivial⟩ rfl ?_; intro i ρ hi; simp only [updL]; (try simp only [nA, Nat.reduceBEq, Nat.reduceEqDiff, ↓reduceIte, Nat.reduceAdd, Nat.reduceSub])
   (refine AW.seq_k ?_; intro K hK)
   (refine AW.seq_k ?_; intro K hK)
   refine AW.region ?_
   refine awP (op_move rfl rfl) ?_
   (first | refine awP (op_fa_ptr rfl rfl rfl fl26_4 (by exact sz22) (by decide) rfl) ?_ | refine awP (op_fa_rop rfl rfl fl26_4 (by exact sz22) (by decide) (Nat.le_of_ble_eq_true rfl) rfl) ?_)
   (first | refine awR (op_load_ptr1 rfl rfl rfl rfl ag22 rfl rfl) ?_ | refine awR (op_load_rop1 rfl rfl ag22) ?_)
   refine awP (op_len_ro (n := a.grants.length) rfl rfl Try.underlying22 (.inr (.inl ⟨_, rfl, by simp⟩))) ?_
   refine awP (op_lss rfl rfl rfl) ?_
   refine AWL.nil ?_
   (refine hK _ ?_; clear hK K; (try simp only [nA, Nat.reduceBEq, Nat.reduceEqDiff, ↓reduceIte, Nat.reduceAdd, Nat.reduceSub]))
   refine AW.cond rfl rfl rfl (fun hc => ?_) (fun hc => ?_)
   ·
    (skip); have hc2 := hc; have hlt : i < a.grants.length := (by simpa using hc2)
    refine AW.skip ?_
    (refine hK _ ?_; clear hK K; (try simp only [nA, Nat.reduceBEq, Nat.reduceEqDiff, ↓reduceIte, Nat.reduceAdd, Nat.reduceSub]))
    (refine AW.seq_k ?_; intro K hK)
    refine AW.block ?_
    (refine AW.seq_k ?_; intro K hK)
    refine AW.quiet mix (by kernel_rfl) ?_
    (first | refine aqP (op_fa_ptr rfl rfl rfl fl26_4 (by exact sz22) (by decide) rfl) ?_ | refine aqP (op_fa_rop rfl rfl fl26_4 (by exact sz22) (by decide) (Nat.le_of_ble_eq_true rfl) rfl) ?_)
    (first | refine aqR (op_load_ptr1 rfl rfl rfl rfl ag22 rfl rfl) ?_ | refine aqR (op_load_rop1 rfl rfl ag22) ?_)
    refine aqP (op_move rfl rfl) ?_
    refine aqP (op_ia_ro i rfl (.inl rfl) rfl Try.underlying22 rfl (get_mapD (by omega)) (by exact sz75) (Nat.le_of_ble_eq_true rfl)) ?_
    (first | refine aqR (op_load_ptr rfl rfl rfl rfl ag75 sz75 (Nat.le_of_ble_eq_true rfl) rfl) ?_ | refine aqR (op_load_rop rfl rfl ag75 sz75 (Nat.le_of_ble_eq_true rfl) (by decide) rfl) ?_)
    (first | refine aqP (op_fa_ptr rfl rfl rfl fl26_4 (by exact sz22) (by decide) rfl) ?_ | refine aqP (op_fa_rop rfl rfl fl26_4 (by exact sz22) (by decide) (Nat.le_of_ble_eq_true rfl) rfl) ?_)
    (first | refine aqR (op_load_ptr1 rfl rfl rfl rfl ag22 rfl rfl) ?_ | refine aqR (op_load_rop1 rfl rfl ag22) ?_)
    refine aqP (op_move rfl rfl) ?_
    refine aqP (op_ia_ro i rfl (.inl rfl) rfl Try.underlying22 rfl (get_mapD (by omega)) (by exact sz75) (Nat.le_of_ble_eq_true rfl)) ?_
    (first | refine aqR (op_load_ptr rfl rfl rfl rfl ag75 sz75 (Nat.le_of_ble_eq_true rfl) rfl) ?_ | refine aqR (op_load_rop rfl rfl ag75 sz75 (Nat.le_of_ble_eq_true rfl) (by decide) rfl) ?_)
    refine aqP (op_neq75 (p := a.grants.getD i default) (q := b.grants.getD i default) rfl rfl rfl) ?_; (try simp only [nA, Nat.reduceBEq, Nat.reduceEqDiff, ↓reduceIte, Nat.reduceAdd, Nat.reduceSub])
    refine AQ.nil ?_
    (refine hK _ ?_; clear hK K; (try simp only [nA, Nat.reduceBEq, Nat.reduceEqDiff, ↓reduceIte, Nat.reduceAdd, Nat.reduceSub]))
    refine AW.cond rfl rfl rfl (fun hc => ?_) (fun hc => ?_)
    ·
     (skip); have hc3 := hc; skip
     (refine AW.seq_k ?_; intro K hK)
     refine AW.region ?_
     refine awP (op_assign rfl rfl) ?_
     refine AWL.nil ?_
     (refine hK _ ?_; clear hK K; (try simp only [nA, Nat.reduceBEq, Nat.reduceEqDiff, ↓reduceIte, Nat.reduceAdd, Nat.reduceSub]))
     skip
     refine AW.ret ?_; (try simp only [thenE, inBlk, Nat.reduceEqDiff, ↓reduceIte]); rw [show sameH a b = false by unfold sameH; rw [all_range_no hlt (by simpa using hc3), Bool.and_false]]; exact RQ.of0 rfl (.tmp (Nat.le_of_ble_eq_true rfl) rfl rfl .nil)
    ·
     (skip); have hc3 := hc; skip
     refine AW.skip ?_
     (try simp only [thenE, inBlk, Nat.reduceEqDiff, ↓reduceIte])
     (refine hK _ ?_; clear hK K; (try simp only [nA, Nat.reduceBEq, Nat.reduceEqDiff, ↓reduceIte, Nat.reduceAdd, Nat.reduceSub]))
     refine AW.region ?_
     refine awP (op_move rfl rfl) ?_
     (first | refine awP (op_addi rfl rfl rfl (by omega)) ?_ | refine awP (op_add rfl rfl rfl rfl) ?_)
     refine awP (op_assign rfl rfl) ?_
     skip
     refine AWL.nil ?_
     refine ⟨i + 1, ⟨by omega, all_b_step hi.2 (by simpa using hc3)⟩, by omega, ⟨rfl, rfl, rfl, trivial⟩, (by first | rfl | trivial), (by first | rfl | trivial)⟩
   ·
    (skip); have hc2 := hc; have hnl : ¬ i < a.grants.length := (by simpa using hc2)
    refine AW.exit ?_; (try simp only [thenE, inBlk, Nat.reduceEqDiff, ↓reduceIte])
    clear hK K
    (refine hK _ ?_; clear hK K; (try simp only [nA, Nat.reduceBEq, Nat.reduceEqDiff, ↓reduceIte, Nat.reduceAdd, Nat.reduceSub]))
    (refine AW.seq_k ?_; intro K hK)
    refine AW.region ?_
    refine awP (op_assign rfl rfl) ?_
    refine AWL.nil ?_
    (refine hK _ ?_; clear hK K; (try simp only [nA, Nat.reduceBEq, Nat.reduceEqDiff, ↓reduceIte, Nat.reduceAdd, Nat.reduceSub]))
    skip
    refine AW.ret ?_; (try simp only [thenE, inBlk, Nat.reduceEqDiff, ↓reduceIte]); rw [show sameH a b = true by unfold sameH; rw [show headNeH a b = false from hc1, all_range_yes hnl hi.2]; rfl]; exact RQ.of0 rfl (.tmp (Nat.le_of_ble_eq_true rfl) rfl rfl .nil)
end Go.Proofs.Ytdnofpggdddimaa
namespace Go.Proofs.Ytdnofpggdddimaa
open Go.RowKit
set_option linter.unusedSimpArgs false
set_option linter.unusedVariables false
set_option maxRecDepth 100000
theorem ne_of_len {n : Nat} {es : List (List AV)} (h : ∀ x ∈ es, x.length = n + 1) : ∀ r ∈ es, r ≠ [] := fun r hr e => by
  have := h r hr; rw [e] at this; cases this
theorem gav_len (l : List Grant) : ∀ x ∈ l.map Grant.av, x.length = 9 := fun x hx => by obtain ⟨g, _, rfl⟩ := List.mem_map.1 hx; rfl
theorem opv_len (l : List Op) : ∀ x ∈ l.map Op.av, x.length = 10 := fun x hx => by obtain ⟨g, _, rfl⟩ := List.mem_map.1 hx; rfl
theorem gav_flat (l : List Grant) : ∀ r ∈ l.map Grant.av, ∀ c ∈ r, flatA c = true := fun r hr c hc => by
  obtain ⟨g, _, rfl⟩ := List.mem_map.1 hr
  simp only [Grant.av, List.mem_cons, List.not_mem_nil, or_false] at hc
  rcases hc with rfl | rfl | rfl | rfl | rfl | rfl | rfl | rfl | rfl <;> rfl
theorem opv_flat (l : List Op) : ∀ r ∈ l.map Op.av, ∀ c ∈ r, flatA c = true := fun r hr c hc => by
  obtain ⟨g, _, rfl⟩ := List.mem_map.1 hr
  simp only [Op.av, List.mem_cons, List.not_mem_nil, or_false] at hc
  rcases hc with rfl | rfl | rfl | rfl | rfl | rfl | rfl | rfl | rfl | rfl <;> rfl
theorem conv_flat (l : List Container) : ∀ r ∈ l.map Container.av, ∀ c ∈ r, flatA c = true := fun r hr c hc => by
  obtain ⟨g, _, rfl⟩ := List.mem_map.1 hr
  simp only [Container.av, List.mem_cons, List.not_mem_nil, or_false] at hc
  rcases hc with rfl | rfl | rfl | rfl | rfl | rfl | rfl | rfl | rfl | rfl | rfl <;> rfl
theorem C65 {l : List Grant} (hl : l.length ≤ 1000000) : Fn Try.prog 65 [] [.ro (l.map Grant.av)] [.ro (l.map Grant.av)] [] := by
  refine Spec.body Try.func65 rfl Try.ntmps65 (by simp) rfl ?_; intro S0 own0 v0 w0
  (refine AW.seq_k ?_; intro K hK)
  refine AW.region ?_
  refine awP (op_assign rfl rfl) ?_
  refine AWL.nil ?_
  (refine hK _ ?_; clear hK K; (try simp only [nA, Nat.reduceBEq, Nat.reduceEqDiff, ↓reduceIte, Nat.reduceAdd, Nat.reduceSub]))
  (refine AW.seq_k ?_; intro K hK)
  (refine AW.seq_k ?_; intro K hK)
  refine AW.region ?_
  refine awP (op_move rfl rfl) ?_
  refine awE (op_eqnil rfl rfl Try.underlying22 (ne_of_len (gav_len l))) ?_; rintro _ ⟨b, rfl, hb⟩; (try simp only [nA, Nat.reduceBEq, Nat.reduceEqDiff, ↓reduceIte, Nat.reduceAdd, Nat.reduceSub])
  refine AWL.nil ?_
  (refine hK _ ?_; clear hK K; (try simp only [nA, Nat.reduceBEq, Nat.reduceEqDiff, ↓reduceIte, Nat.reduceAdd, Nat.reduceSub]))
  refine AW.cond rfl rfl rfl (fun hc => ?_) (fun hc => ?_)
  ·
   (try simp only [hcS] at hc); have hc1 := hc; obtain rfl : l = [] := (by simpa using hb (by simpa using hc))
   (refine AW.seq_k ?_; intro K hK)
   refine AW.region ?_
   refine awP (op_assign rfl rfl) ?_
   refine AWL.nil ?_
   (refine hK _ ?_; clear hK K; (try simp only [nA, Nat.reduceBEq, Nat.reduceEqDiff, ↓reduceIte, Nat.reduceAdd, Nat.reduceSub]))
   refine AW.gh (Gh.nil (e := 75) 2 (Nat.le_of_ble_eq_true rfl) rfl sz75) ?_; (try simp only [nA, Nat.reduceBEq, Nat.reduceEqDiff, ↓reduceIte, Nat.reduceAdd, Nat.reduceSub]); refine AW.gh (Gh.freeze 2 (Nat.le_of_ble_eq_true rfl) rfl rfl (by simp) (es' := ([] : List Grant).map Grant.av) rfl) ?_; (try simp only [nA, Nat.reduceBEq, Nat.reduceEqDiff, ↓reduceIte, Nat.reduceAdd, Nat.reduceSub])
   refine AW.ret ?_; (try simp only [thenE, inBlk, Nat.reduceEqDiff, ↓reduceIte]); exact RQ.of0 rfl (.tmp (Nat.le_of_ble_eq_true rfl) rfl rfl .nil)
  ·
   (try simp only [hcS] at hc); have hc1 := hc; skip
   refine AW.skip ?_
   (refine hK _ ?_; clear hK K; (try simp only [nA, Nat.reduceBEq, Nat.reduceEqDiff, ↓reduceIte, Nat.reduceAdd, Nat.reduceSub]))
   (refine AW.seq_k ?_; intro K hK)
   refine AW.region ?_
   refine awJ (op_buildSlice rfl [] [] Try.underlying22 ze75 rfl (by simp) rfl (by simp) rfl (Nat.le_of_ble_eq_true rfl) (by simp [maxLen])) ?_; (try simp only [nA, Nat.reduceBEq, Nat.reduceEqDiff, ↓reduceIte, Nat.reduceAdd, Nat.reduceSub]); skip; (try simp only [nA, Nat.reduceBEq, Nat.reduceEqDiff, ↓reduceIte, Nat.reduceAdd, Nat.reduceSub])
   refine awP (op_move rfl rfl) ?_
   refine awJ (op_app rfl rfl rfl rfl rfl .ro Try.underlying22 ze75 (by decide) (gav_len _) (by simp; omega) (by decide) (List.nil_append _) rfl) ?_; (try simp only [nA, Nat.reduceBEq, Nat.reduceEqDiff, ↓reduceIte, Nat.reduceAdd, Nat.reduceSub])
   refine awP (op_assign rfl rfl) ?_
   refine AWL.nil ?_
   (refine hK _ ?_; clear hK K; (try simp only [nA, Nat.reduceBEq, Nat.reduceEqDiff, ↓reduceIte, Nat.reduceAdd, Nat.reduceSub]))
   refine AW.gh (Gh.freeze 2 (Nat.le_of_ble_eq_true rfl) rfl rfl (gav_flat l) (es' := l.map Grant.av) (List.take_of_length_le (by simp))) ?_; (try simp only [nA, Nat.reduceBEq, Nat.reduceEqDiff, ↓reduceIte, Nat.reduceAdd, Nat.reduceSub])
   refine AW.ret ?_; (try simp only [thenE, inBlk, Nat.reduceEqDiff, ↓reduceIte]); exact RQ.of0 rfl (.tmp (Nat.le_of_ble_eq_true rfl) rfl rfl .nil)
theorem C69 {l : List Op} (hl : l.length ≤ 1000000) : Fn Try.prog 69 [] [.ro (l.map Op.av)] [.ro (l.map Op.av)] [] := by
  refine Spec.body Try.func69 rfl Try.ntmps69 (by simp) rfl ?_; intro S0 own0 v0 w0
  (refine AW.seq_k ?_; intro K hK)
  refine AW.region ?_
  refine awP (op_assign rfl rfl) ?_
  refine AWL.nil ?_
  (refine hK _ ?_; clear hK K; (try simp only [nA, Nat.reduceBEq, Nat.reduceEqDiff, ↓reduceIte, Nat.reduceAdd, Nat.reduceSub]))
  (refine AW.seq_k ?_; intro K hK)
  (refine AW.seq_k ?_; intro K hK)
  refine AW.region ?_
  refine awP (op_move rfl rfl) ?_
  refine awE (op_eqnil rfl rfl Try.underlying24 (ne_of_len (opv_len l))) ?_; rintro _ ⟨b, rfl, hb⟩; (try simp only [nA, Nat.reduceBEq, Nat.reduceEqDiff, ↓reduceIte, Nat.reduceAdd, Nat.reduceSub])
  refine AWL.nil ?_
  (refine hK _ ?_; clear hK K; (try simp only [nA, Nat.reduceBEq, Nat.reduceEqDiff, ↓reduceIte, Nat.reduceAdd, Nat.reduceSub]))
  refine AW.cond rfl rfl rfl (fun hc => ?_) (fun hc => ?_)
  ·
   (try simp only [hcS] at hc); have hc1 := hc; obtain rfl : l = [] := (by simpa using hb (by simpa using hc))
   (refine AW.seq_k ?_; intro K hK)
   refine AW.region ?_
   refine awP (op_assign rfl rfl) ?_
   refine AWL.nil ?_
   (refine hK _ ?_; clear hK K; (try simp only [nA, Nat.reduceBEq, Nat.reduceEqDiff, ↓reduceIte, Nat.reduceAdd, Nat.reduceSub]))
   refine AW.gh (Gh.nil (e := 33) 2 (Nat.le_of_ble_eq_true rfl) rfl sz33) ?_; (try simp only [nA, Nat.reduceBEq, Nat.reduceEqDiff, ↓reduceIte, Nat.reduceAdd, Nat.reduceSub]); refine AW.gh (Gh.freeze 2 (Nat.le_of_ble_eq_true rfl) rfl rfl (by simp) (es' := ([] : List Op).map Op.av) rfl) ?_; (try simp only [nA, Nat.reduceBEq, Nat.reduceEqDiff, ↓reduceIte, Nat.reduceAdd, Nat.reduceSub])
   refine AW.ret ?_; (try simp only [thenE, inBlk, Nat.reduceEqDiff, ↓reduceIte]); exact RQ.of0 rfl (.tmp (Nat.le_of_ble_eq_true rfl) rfl rfl .nil)
  ·
   (try simp only [hcS] at hc); have hc1 := hc; skip
   refine AW.skip ?_
   (refine hK _ ?_; clear hK K; (try simp only [nA, Nat.reduceBEq, Nat.reduceEqDiff, ↓reduceIte, Nat.reduceAdd, Nat.reduceSub]))
   (refine AW.seq_k ?_; intro K hK)
   refine AW.region ?_
   refine awJ (op_buildSlice rfl [] [] Try.underlying24 ze33 rfl (by simp) rfl (by simp) rfl (Nat.le_of_ble_eq_true rfl) (by simp [maxLen])) ?_; (try simp only [nA, Nat.reduceBEq, Nat.reduceEqDiff, ↓reduceIte, Nat.reduceAdd, Nat.reduceSub]); skip; (try simp only [nA, Nat.reduceBEq, Nat.reduceEqDiff, ↓reduceIte, Nat.reduceAdd, Nat.reduceSub])
   refine awP (op_move rfl rfl) ?_
   refine awJ (op_app rfl rfl rfl rfl rfl .ro Try.underlying24 ze33 (by decide) (opv_len _) (by simp; omega) (by decide) (List.nil_append _) rfl) ?_; (try simp only [nA, Nat.reduceBEq, Nat.reduceEqDiff, ↓reduceIte, Nat.reduceAdd, Nat.reduceSub])
   refine awP (op_assign rfl rfl) ?_
   refine AWL.nil ?_
   (refine hK _ ?_; clear hK K; (try simp only [nA, Nat.reduceBEq, Nat.reduceEqDiff, ↓reduceIte, Nat.reduceAdd, Nat.reduceSub]))
   refine AW.gh (Gh.freeze 2 (Nat.le_of_ble_eq_true rfl) rfl rfl (opv_flat l) (es' := l.map Op.av) (List.take_of_length_le (by simp))) ?_; (try simp only [nA, Nat.reduceBEq, Nat.reduceEqDiff, ↓reduceIte, Nat.reduceAdd, Nat.reduceSub])
   refine AW.ret ?_; (try simp only [thenE, inBlk, Nat.reduceEqDiff, ↓reduceIte]); exact RQ.of0 rfl (.tmp (Nat.le_of_ble_eq_true rfl) rfl rfl .nil)
theorem conv_len (l : List Container) : ∀ x ∈ l.map Container.av, x.length = 11 := fun x hx => by obtain ⟨g, _, rfl⟩ := List.mem_map.1 hx; rfl
theorem C84 {l : List Container} (hl : l.length ≤ 1000000) : Fn Try.prog 84 [] [.ro (l.map Container.av)] [.own 77 (l.map Container.av)] [] := by
  refine Spec.body Try.func84 rfl Try.ntmps84 (by simp) rfl ?_; intro S0 own0 v0 w0
  (refine AW.seq_k ?_; intro K hK)
  refine AW.region ?_
  refine awP (op_assign rfl rfl) ?_
  refine AWL.nil ?_
  (refine hK _ ?_; clear hK K; (try simp only [nA, Nat.reduceBEq, Nat.reduceEqDiff, ↓reduceIte, Nat.reduceAdd, Nat.reduceSub]))
  (refine AW.seq_k ?_; intro K hK)
  (refine AW.seq_k ?_; intro K hK)
  refine AW.region ?_
  refine awP (op_move rfl rfl) ?_
  refine awE (op_eqnil rfl rfl Try.underlying23 (ne_of_len (conv_len l))) ?_; rintro _ ⟨b, rfl, hb⟩; (try simp only [nA, Nat.reduceBEq, Nat.reduceEqDiff, ↓reduceIte, Nat.reduceAdd, Nat.reduceSub])
  refine AWL.nil ?_
  (refine hK _ ?_; clear hK K; (try simp only [nA, Nat.reduceBEq, Nat.reduceEqDiff, ↓reduceIte, Nat.reduceAdd, Nat.reduceSub]))
  refine AW.cond rfl rfl rfl (fun hc => ?_) (fun hc => ?_)
  ·
   (try simp only [hcS] at hc); have hc1 := hc; obtain rfl : l = [] := (by simpa using hb (by simpa using hc))
   (refine AW.seq_k ?_; intro K hK)
   refine AW.region ?_
   refine awP (op_assign rfl rfl) ?_
   refine AWL.nil ?_
   (refine hK _ ?_; clear hK K; (try simp only [nA, Nat.reduceBEq, Nat.reduceEqDiff, ↓reduceIte, Nat.reduceAdd, Nat.reduceSub]))
   refine AW.gh (Gh.nil (e := 77) 2 (Nat.le_of_ble_eq_true rfl) rfl sz77) ?_; (try simp only [nA, Nat.reduceBEq, Nat.reduceEqDiff, ↓reduceIte, Nat.reduceAdd, Nat.reduceSub])
   refine AW.ret ?_; (try simp only [thenE, inBlk, Nat.reduceEqDiff, ↓reduceIte]); exact RQ.of0 rfl (.own (Nat.le_of_ble_eq_true rfl) rfl rfl rfl (by simp) .nil)
  ·
   (try simp only [hcS] at hc); have hc1 := hc; skip
   refine AW.skip ?_
   (refine hK _ ?_; clear hK K; (try simp only [nA, Nat.reduceBEq, Nat.reduceEqDiff, ↓reduceIte, Nat.reduceAdd, Nat.reduceSub]))
   (refine AW.seq_k ?_; intro K hK)
   refine AW.region ?_
   refine awJ (op_buildSlice rfl [] [] Try.underlying23 ze77 rfl (by simp) rfl (by simp) rfl (Nat.le_of_ble_eq_true rfl) (by simp [maxLen])) ?_; (try simp only [nA, Nat.reduceBEq, Nat.reduceEqDiff, ↓reduceIte, Nat.reduceAdd, Nat.reduceSub]); skip; (try simp only [nA, Nat.reduceBEq, Nat.reduceEqDiff, ↓reduceIte, Nat.reduceAdd, Nat.reduceSub])
   refine awP (op_move rfl rfl) ?_
   refine awJ (op_app rfl rfl rfl rfl rfl .ro Try.underlying23 ze77 (by decide) (conv_len _) (by simp; omega) (by decide) (List.nil_append _) rfl) ?_; (try simp only [nA, Nat.reduceBEq, Nat.reduceEqDiff, ↓reduceIte, Nat.reduceAdd, Nat.reduceSub])
   refine awP (op_assign rfl rfl) ?_
   refine AWL.nil ?_
   (refine hK _ ?_; clear hK K; (try simp only [nA, Nat.reduceBEq, Nat.reduceEqDiff, ↓reduceIte, Nat.reduceAdd, Nat.reduceSub]))
   skip
   refine AW.ret ?_; (try simp only [thenE, inBlk, Nat.reduceEqDiff, ↓reduceIte]); exact RQ.of0 rfl (.own (Nat.le_of_ble_eq_true rfl) rfl rfl (by simp) (by simp) .nil)
end Go.Proofs.Ytdnofpggdddimaa
namespace Go.Proofs.Ytdnofpggdddimaa
open Go.RowKit
set_option linter.unusedSimpArgs false
set_option linter.unusedVariables false
set_option maxRecDepth 100000
def bareC (c : Container) : Container := { c with pieces := [] }
abbrev midB (l : List Container) (i : Nat) : List (List AV) := (l.take i).map (fun c => (bareC c).av) ++ (l.drop i).map Container.av
theorem bare_map (l : List Container) : l.map (fun c => (bareC c).av) = (l.map bareC).map Container.av := by rw [List.map_map]; rfl
theorem midB_get {l : List Container} {i : Nat} {c : Container} (h : l[i]? = some c) : (midB l i)[i]? = some c.av := by
  have hi := (List.getElem?_eq_some_iff.1 h).1
  unfold midB
  rw [List.getElem?_append_right (by simp; omega)]
  have : i - ((l.take i).map (fun c => (bareC c).av)).length = 0 := by simp; omega
  rw [this, drop_cons h]; rfl
abbrev nilC (c : Container) : List AV := c.av.set 10 (.v (.slice none 0 0))
theorem midB_set {l : List Container} {i : Nat} {c : Container} (h : l[i]? = some c) (r : List AV) : (midB l i).set i r = (l.take i).map (fun c => (bareC c).av) ++ r :: (l.drop (i + 1)).map Container.av := by
  have hi := (List.getElem?_eq_some_iff.1 h).1
  unfold midB
  rw [List.set_append_right _ _ (by simp; omega)]
  have : i - ((l.take i).map (fun c => (bareC c).av)).length = 0 := by simp; omega
  rw [this, drop_cons h]; rfl
theorem midB_at {l : List Container} {i : Nat} {c : Container} (h : l[i]? = some c) (r : List AV) : ((l.take i).map (fun c => (bareC c).av) ++ r :: (l.drop (i + 1)).map Container.av)[i]? = some r := by
  have hi := (List.getElem?_eq_some_iff.1 h).1
  rw [List.getElem?_append_right (by simp; omega)]
  have : i - ((l.take i).map (fun c => (bareC c).av)).length = 0 := by simp; omega
  rw [this]; rfl
theorem midB_end {l : List Container} {i : Nat} {c : Container} (h : l[i]? = some c) : ((l.take i).map (fun c => (bareC c).av) ++ nilC c :: (l.drop (i + 1)).map Container.av).set i ((nilC c).set 10 (.ro [])) = midB l (i + 1) := by
  have hi := (List.getElem?_eq_some_iff.1 h).1
  rw [List.set_append_right _ _ (by simp; omega)]
  have : i - ((l.take i).map (fun c => (bareC c).av)).length = 0 := by simp; omega
  unfold midB
  rw [this, List.take_add_one, h, List.map_append, List.append_assoc]
  rfl
theorem C66 {l : List Container} (hl : l.length ≤ 1000000) : Fn Try.prog 66 [] [.ro (l.map Container.av)] [.ro ((l.map bareC).map Container.av)] [] := by
  refine Spec.body Try.func66 rfl Try.ntmps66 (by simp) rfl ?_; intro S0 own0 v0 w0
  (refine AW.seq_k ?_; intro K hK)
  refine AW.region ?_
  refine awP (op_assign rfl rfl) ?_
  refine AWL.nil ?_
  (refine hK _ ?_; clear hK K; (try simp only [nA, Nat.reduceBEq, Nat.reduceEqDiff, ↓reduceIte, Nat.reduceAdd, Nat.reduceSub]))
  (refine AW.seq_k ?_; intro K hK)
  refine AW.region ?_
  refine awP (op_move rfl rfl) ?_
  refine awJ (op_call (b := false) rfl en84 (C84 (l := l) hl) (RL.cons (by first | exact View.same rfl | exact View.nil | exact View.rof | exact View.src .ro | exact View.src .rof | exact View.src (.sl rfl rfl) | exact View.ptr rfl rfl rfl) (RL.nil)) rfl (fun h => by cases h) rfl rfl) ?_; (try simp only [nA, Nat.reduceBEq, Nat.reduceEqDiff, ↓reduceIte, Nat.reduceAdd, Nat.reduceSub])
  refine awP (op_assign rfl rfl) ?_
  refine AWL.nil ?_
  (refine hK _ ?_; clear hK K; (try simp only [nA, Nat.reduceBEq, Nat.reduceEqDiff, ↓reduceIte, Nat.reduceAdd, Nat.reduceSub]))
  (refine AW.seq_k ?_; intro K hK)
  (refine AW.seq_k ?_; intro K hK)
  refine AW.region ?_
  refine awP (op_move rfl rfl) ?_
  (first | refine awP (op_len_ro rfl rfl Try.underlying23 (by first | exact .inr (.inl ⟨_, rfl, rfl⟩) | exact .inl rfl | exact .inr (.inr (.inl ⟨_, rfl, rfl⟩)) | exact .inr (.inr (.inr ⟨rfl, rfl⟩)))) ?_ | refine awP (op_len_sl rfl rfl rfl Try.underlying23) ?_ | refine awP (op_len_str rfl rfl Try.underlying23) ?_)
  refine awP (op_move rfl rfl) ?_
  refine AWL.nil ?_
  (refine hK _ ?_; clear hK K; (try simp only [nA, Nat.reduceBEq, Nat.reduceEqDiff, ↓reduceIte, Nat.reduceAdd, Nat.reduceSub]))
  refine AW.block ?_
  refine AW.loopI (fun (i : Nat) => [(3, .sl 0 1 0 l.length), (8, .v (.int .i64 (l.length : Nat))), (9, .v (.int .i64 (i : Nat)))]) (fun i => ⟨[(1, .own 77 (midB l i))], 2⟩) (fun i => i ≤ l.length) (fun i => l.length - i) 0 (by simp) ⟨rfl, rfl, rfl, trivial⟩ (by simp [midB]) ?_; intro i ρ hi; simp only [updL]; (try simp only [nA, Nat.reduceBEq, Nat.reduceEqDiff, ↓reduceIte, Nat.reduceAdd, Nat.reduceSub])
  (refine AW.seq_k ?_; intro K hK)
  refine AW.region ?_
  refine awP (op_lss rfl rfl rfl) ?_
  refine AWL.nil ?_
  (refine hK _ ?_; clear hK K; (try simp only [nA, Nat.reduceBEq, Nat.reduceEqDiff, ↓reduceIte, Nat.reduceAdd, Nat.reduceSub]))
  (refine AW.seq_k ?_; intro K hK)
  refine AW.cond rfl rfl rfl (fun hc => ?_) (fun hc => ?_)
  ·
   (try simp only [hcS] at hc); have hc1 := hc; have hlt : i < l.length := (by simpa using hc1); obtain ⟨c, hci⟩ : ∃ c, l[i]? = some c := ⟨l[i], List.getElem?_eq_getElem hlt⟩
   refine AW.skip ?_
   (refine hK _ ?_; clear hK K; (try simp only [nA, Nat.reduceBEq, Nat.reduceEqDiff, ↓reduceIte, Nat.reduceAdd, Nat.reduceSub]))
   (refine AW.seq_k ?_; intro K hK)
   refine AW.block ?_
   (refine AW.seq_k ?_; intro K hK)
   refine AW.region ?_
   refine awP (op_move rfl rfl) ?_
   refine awP (op_assign rfl rfl) ?_
   refine AWL.nil ?_
   (refine hK _ ?_; clear hK K; (try simp only [nA, Nat.reduceBEq, Nat.reduceEqDiff, ↓reduceIte, Nat.reduceAdd, Nat.reduceSub]))
   refine AW.region ?_
   refine awP (op_move rfl rfl) ?_
   refine awP (op_move rfl rfl) ?_
   refine awP (op_ia_sl i 11 rfl rfl rfl rfl Try.underlying23 rfl hlt (by exact sz77) (Nat.zero_add _)) ?_
   (first | refine awP (op_fa_ptr rfl rfl rfl fl77_7 (by exact sz53) (by decide) rfl) ?_ | refine awP (op_fa_rop rfl rfl fl77_7 (by exact sz53) (by decide) (Nat.le_of_ble_eq_true rfl) rfl) ?_)
   refine awJ (op_store (r := 0) rfl rfl rfl rfl (midB_get hci) rfl sz53 rfl (Nat.le_of_ble_eq_true rfl) (by exact midB_set hci (nilC c))) ?_; (try simp only [nA, Nat.reduceBEq, Nat.reduceEqDiff, ↓reduceIte, Nat.reduceAdd, Nat.reduceSub])
   refine AWL.nil ?_
   (try simp only [thenE, inBlk, Nat.reduceEqDiff, ↓reduceIte])
   (refine hK _ ?_; clear hK K; (try simp only [nA, Nat.reduceBEq, Nat.reduceEqDiff, ↓reduceIte, Nat.reduceAdd, Nat.reduceSub]))
   refine AW.region ?_
   (first | refine awP (op_addi rfl rfl rfl (by omega)) ?_ | refine awP (op_add rfl rfl rfl rfl) ?_)
   refine awP (op_move rfl rfl) ?_
   refine AWL.gh (Gh.cell0 (r := 0) (A := none) (c := 0) i 10 rfl (midB_at hci (nilC c)) rfl (by decide) (midB_end hci)) ?_; (try simp only [nA, Nat.reduceBEq, Nat.reduceEqDiff, ↓reduceIte, Nat.reduceAdd, Nat.reduceSub])
   refine AWL.nil ?_
   refine ⟨i + 1, by omega, by omega, ⟨rfl, rfl, rfl, trivial⟩, (by first | rfl | trivial), (by first | rfl | trivial)⟩
  ·
   (try simp only [hcS] at hc); have hc1 := hc; obtain rfl : i = l.length := (by simp at hc1; omega); simp only [midB, List.take_length, List.drop_length, List.map_nil, List.append_nil]
   refine AW.exit ?_; (try simp only [thenE, inBlk, Nat.reduceEqDiff, ↓reduceIte])
   clear hK K
   (refine hK _ ?_; clear hK K; (try simp only [nA, Nat.reduceBEq, Nat.reduceEqDiff, ↓reduceIte, Nat.reduceAdd, Nat.reduceSub]))
   (refine AW.seq_k ?_; intro K hK)
   refine AW.region ?_
   refine awP (op_move rfl rfl) ?_
   refine awP (op_assign rfl rfl) ?_
   refine AWL.nil ?_
   (refine hK _ ?_; clear hK K; (try simp only [nA, Nat.reduceBEq, Nat.reduceEqDiff, ↓reduceIte, Nat.reduceAdd, Nat.reduceSub]))
   refine AW.gh (Gh.freeze 2 (Nat.le_of_ble_eq_true rfl) rfl rfl (by rw [bare_map]; exact conv_flat _) (es' := (l.map bareC).map Container.av) (by rw [bare_map]; exact List.take_of_length_le (by simp))) ?_; (try simp only [nA, Nat.reduceBEq, Nat.reduceEqDiff, ↓reduceIte, Nat.reduceAdd, Nat.reduceSub])
   refine AW.ret ?_; (try simp only [thenE, inBlk, Nat.reduceEqDiff, ↓reduceIte]); exact RQ.of0 rfl (.tmp (Nat.le_of_ble_eq_true rfl) rfl rfl .nil)
def copyH (h : Hand) : Hand := { h with conts := h.conts.map bareC }
theorem C60 {h : Hand} (hs : h.Sm) : Fn Try.prog 60 [] [.agg h.av] [.agg (copyH h).av] [] := by
  refine Spec.body Try.func60 rfl Try.ntmps60 (by simp) rfl ?_; intro S0 own0 v0 w0
  (refine AW.seq_k ?_; intro K hK)
  refine AW.region ?_
  refine awJ (op_box rfl rfl rfl sz26 rfl) ?_; (try simp only [nA, Nat.reduceBEq, Nat.reduceEqDiff, ↓reduceIte, Nat.reduceAdd, Nat.reduceSub])
  refine awJ (op_alloc rfl ze26 rfl) ?_; (try simp only [nA, Nat.reduceBEq, Nat.reduceEqDiff, ↓reduceIte, Nat.reduceAdd, Nat.reduceSub])
  refine AWL.nil ?_
  (refine hK _ ?_; clear hK K; (try simp only [nA, Nat.reduceBEq, Nat.reduceEqDiff, ↓reduceIte, Nat.reduceAdd, Nat.reduceSub]))
  (refine AW.seq_k ?_; intro K hK)
  refine AW.adk 10 (FixL [(0, 1, .own 26 [h.av])]) mix rfl ?_
  (first | refine akP 0 rfl (fun T' ok => op_fa_ptr rfl rfl (by first | exact ok.1 | exact ok.2.1 | exact ok.2.2.1 | exact ok.2.2.2.1) fl26_4 (by exact sz22) (by decide) rfl) (by first | exact trivial | exact ⟨rfl, trivial⟩ | exact ⟨rfl, rfl, trivial⟩ | exact ⟨rfl, rfl, rfl, trivial⟩) (by kernel_rfl) (by kernel_rfl) (by kernel_rfl) ?_ | refine akP 0 rfl (fun T' ok => op_fa_rop rfl rfl fl26_4 (by exact sz22) (by decide) (Nat.le_of_ble_eq_true rfl) rfl) (by first | exact trivial | exact ⟨rfl, trivial⟩ | exact ⟨rfl, rfl, trivial⟩ | exact ⟨rfl, rfl, rfl, trivial⟩) (by kernel_rfl) (by kernel_rfl) (by kernel_rfl) ?_); (try simp only [nA, Nat.reduceBEq, Nat.reduceEqDiff, ↓reduceIte, Nat.reduceAdd, Nat.reduceSub])
  (first | refine akR 1 rfl (fun T' ok => op_load_ptr1 rfl rfl (by first | exact ok.1 | exact ok.2.1 | exact ok.2.2.1 | exact ok.2.2.2.1) rfl ag22 rfl rfl) (by first | exact trivial | exact ⟨rfl, trivial⟩ | exact ⟨rfl, rfl, trivial⟩ | exact ⟨rfl, rfl, rfl, trivial⟩) (by kernel_rfl) (by kernel_rfl) (by kernel_rfl) ?_ | refine akR 1 rfl (fun T' ok => op_load_rop1 rfl rfl ag22) (by first | exact trivial | exact ⟨rfl, trivial⟩ | exact ⟨rfl, rfl, trivial⟩ | exact ⟨rfl, rfl, rfl, trivial⟩) (by kernel_rfl) (by kernel_rfl) (by kernel_rfl) ?_); (try simp only [nA, Nat.reduceBEq, Nat.reduceEqDiff, ↓reduceIte, Nat.reduceAdd, Nat.reduceSub])
  (first | refine akP 3 rfl (fun T' ok => op_fa_ptr rfl rfl (by first | exact ok.1 | exact ok.2.1 | exact ok.2.2.1 | exact ok.2.2.2.1) fl26_5 (by exact sz23) (by decide) rfl) (by first | exact trivial | exact ⟨rfl, trivial⟩ | exact ⟨rfl, rfl, trivial⟩ | exact ⟨rfl, rfl, rfl, trivial⟩) (by kernel_rfl) (by kernel_rfl) (by kernel_rfl) ?_ | refine akP 3 rfl (fun T' ok => op_fa_rop rfl rfl fl26_5 (by exact sz23) (by decide) (Nat.le_of_ble_eq_true rfl) rfl) (by first | exact trivial | exact ⟨rfl, trivial⟩ | exact ⟨rfl, rfl, trivial⟩ | exact ⟨rfl, rfl, rfl, trivial⟩) (by kernel_rfl) (by kernel_rfl) (by kernel_rfl) ?_); (try simp only [nA, Nat.reduceBEq, Nat.reduceEqDiff, ↓reduceIte, Nat.reduceAdd, Nat.reduceSub])
  (first | refine akR 4 rfl (fun T' ok => op_load_ptr1 rfl rfl (by first | exact ok.1 | exact ok.2.1 | exact ok.2.2.1 | exact ok.2.2.2.1) rfl ag23 rfl rfl) (by first | exact trivial | exact ⟨rfl, trivial⟩ | exact ⟨rfl, rfl, trivial⟩ | exact ⟨rfl, rfl, rfl, trivial⟩) (by kernel_rfl) (by kernel_rfl) (by kernel_rfl) ?_ | refine akR 4 rfl (fun T' ok => op_load_rop1 rfl rfl ag23) (by first | exact trivial | exact ⟨rfl, trivial⟩ | exact ⟨rfl, rfl, trivial⟩ | exact ⟨rfl, rfl, rfl, trivial⟩) (by kernel_rfl) (by kernel_rfl) (by kernel_rfl) ?_); (try simp only [nA, Nat.reduceBEq, Nat.reduceEqDiff, ↓reduceIte, Nat.reduceAdd, Nat.reduceSub])
  (first | refine akP 6 rfl (fun T' ok => op_fa_ptr rfl rfl (by first | exact ok.1 | exact ok.2.1 | exact ok.2.2.1 | exact ok.2.2.2.1) fl26_6 (by exact sz24) (by decide) rfl) (by first | exact trivial | exact ⟨rfl, trivial⟩ | exact ⟨rfl, rfl, trivial⟩ | exact ⟨rfl, rfl, rfl, trivial⟩) (by kernel_rfl) (by kernel_rfl) (by kernel_rfl) ?_ | refine akP 6 rfl (fun T' ok => op_fa_rop rfl rfl fl26_6 (by exact sz24) (by decide) (Nat.le_of_ble_eq_true rfl) rfl) (by first | exact trivial | exact ⟨rfl, trivial⟩ | exact ⟨rfl, rfl, trivial⟩ | exact ⟨rfl, rfl, rfl, trivial⟩) (by kernel_rfl) (by kernel_rfl) (by kernel_rfl) ?_); (try simp only [nA, Nat.reduceBEq, Nat.reduceEqDiff, ↓reduceIte, Nat.reduceAdd, Nat.reduceSub])
  (first | refine akR 7 rfl (fun T' ok => op_load_ptr1 rfl rfl (by first | exact ok.1 | exact ok.2.1 | exact ok.2.2.1 | exact ok.2.2.2.1) rfl ag24 rfl rfl) (by first | exact trivial | exact ⟨rfl, trivial⟩ | exact ⟨rfl, rfl, trivial⟩ | exact ⟨rfl, rfl, rfl, trivial⟩) (by kernel_rfl) (by kernel_rfl) (by kernel_rfl) ?_ | refine akR 7 rfl (fun T' ok => op_load_rop1 rfl rfl ag24) (by first | exact trivial | exact ⟨rfl, trivial⟩ | exact ⟨rfl, rfl, trivial⟩ | exact ⟨rfl, rfl, rfl, trivial⟩) (by kernel_rfl) (by kernel_rfl) (by kernel_rfl) ?_); (try simp only [nA, Nat.reduceBEq, Nat.reduceEqDiff, ↓reduceIte, Nat.reduceAdd, Nat.reduceSub])
  refine akF 2 rfl (fun T' ok => op_callS rfl en65 (C65 (l := h.grants) (by have := hs.g; omega)) (RL.cons (by first | exact View.same rfl | exact View.nil | exact View.rof | exact View.src .ro | exact View.src .rof | exact View.src (.sl rfl rfl) | exact View.ptr rfl rfl rfl) (RL.nil)) rfl rfl rfl) (by first | exact trivial | exact ⟨rfl, trivial⟩ | exact ⟨rfl, rfl, trivial⟩ | exact ⟨rfl, rfl, rfl, trivial⟩) (by kernel_rfl) (by kernel_rfl) (by kernel_rfl) ?_; (try simp only [nA, Nat.reduceBEq, Nat.reduceEqDiff, ↓reduceIte, Nat.reduceAdd, Nat.reduceSub])
  (first | refine akP 9 rfl (fun T' ok => op_fa_ptr rfl rfl (by first | exact ok.1 | exact ok.2.1 | exact ok.2.2.1 | exact ok.2.2.2.1) fl26_4 (by exact sz22) (by decide) rfl) (by first | exact trivial | exact ⟨rfl, trivial⟩ | exact ⟨rfl, rfl, trivial⟩ | exact ⟨rfl, rfl, rfl, trivial⟩) (by kernel_rfl) (by kernel_rfl) (by kernel_rfl) ?_ | refine akP 9 rfl (fun T' ok => op_fa_rop rfl rfl fl26_4 (by exact sz22) (by decide) (Nat.le_of_ble_eq_true rfl) rfl) (by first | exact trivial | exact ⟨rfl, trivial⟩ | exact ⟨rfl, rfl, trivial⟩ | exact ⟨rfl, rfl, rfl, trivial⟩) (by kernel_rfl) (by kernel_rfl) (by kernel_rfl) ?_); (try simp only [nA, Nat.reduceBEq, Nat.reduceEqDiff, ↓reduceIte, Nat.reduceAdd, Nat.reduceSub])
  refine akF 5 rfl (fun T' ok => op_callS rfl en66 (C66 (l := h.conts) (by have := hs.c; omega)) (RL.cons (by first | exact View.same rfl | exact View.nil | exact View.rof | exact View.src .ro | exact View.src .rof | exact View.src (.sl rfl rfl) | exact View.ptr rfl rfl rfl) (RL.nil)) rfl rfl rfl) (by first | exact trivial | exact ⟨rfl, trivial⟩ | exact ⟨rfl, rfl, trivial⟩ | exact ⟨rfl, rfl, rfl, trivial⟩) (by kernel_rfl) (by kernel_rfl) (by kernel_rfl) ?_; (try simp only [nA, Nat.reduceBEq, Nat.reduceEqDiff, ↓reduceIte, Nat.reduceAdd, Nat.reduceSub])
  refine akF 8 rfl (fun T' ok => op_callS rfl en69 (C69 (l := h.log) (by have := hs.l; omega)) (RL.cons (by first | exact View.same rfl | exact View.nil | exact View.rof | exact View.src .ro | exact View.src .rof | exact View.src (.sl rfl rfl) | exact View.ptr rfl rfl rfl) (RL.nil)) rfl rfl rfl) (by first | exact trivial | exact ⟨rfl, trivial⟩ | exact ⟨rfl, rfl, trivial⟩ | exact ⟨rfl, rfl, rfl, trivial⟩) (by kernel_rfl) (by kernel_rfl) (by kernel_rfl) ?_; (try simp only [nA, Nat.reduceBEq, Nat.reduceEqDiff, ↓reduceIte, Nat.reduceAdd, Nat.reduceSub])
  refine akL 10 rfl (op_store rfl rfl rfl rfl rfl rfl sz22 rfl (Nat.le_of_ble_eq_true rfl) rfl) (by kernel_rfl) (by decide) ?_; (try simp only [nA, Nat.reduceBEq, Nat.reduceEqDiff, ↓reduceIte, Nat.reduceAdd, Nat.reduceSub])
  (first | refine akL 11 rfl (OpP.j (op_fa_ptr rfl rfl rfl fl26_5 (by exact sz23) (by decide) rfl)) (by kernel_rfl) (by decide) ?_ | refine akL 11 rfl (OpP.j (op_fa_rop rfl rfl fl26_5 (by exact sz23) (by decide) (Nat.le_of_ble_eq_true rfl) rfl)) (by kernel_rfl) (by decide) ?_); (try simp only [nA, Nat.reduceBEq, Nat.reduceEqDiff, ↓reduceIte, Nat.reduceAdd, Nat.reduceSub])
  refine akL 12 rfl (op_store rfl rfl rfl rfl rfl rfl sz23 rfl (Nat.le_of_ble_eq_true rfl) rfl) (by kernel_rfl) (by decide) ?_; (try simp only [nA, Nat.reduceBEq, Nat.reduceEqDiff, ↓reduceIte, Nat.reduceAdd, Nat.reduceSub])
  (first | refine akL 13 rfl (OpP.j (op_fa_ptr rfl rfl rfl fl26_6 (by exact sz24) (by decide) rfl)) (by kernel_rfl) (by decide) ?_ | refine akL 13 rfl (OpP.j (op_fa_rop rfl rfl fl26_6 (by exact sz24) (by decide) (Nat.le_of_ble_eq_true rfl) rfl)) (by kernel_rfl) (by decide) ?_); (try simp only [nA, Nat.reduceBEq, Nat.reduceEqDiff, ↓reduceIte, Nat.reduceAdd, Nat.reduceSub])
  refine akL 14 rfl (op_store rfl rfl rfl rfl rfl rfl sz24 rfl (Nat.le_of_ble_eq_true rfl) rfl) (by kernel_rfl) (by decide) ?_; (try simp only [nA, Nat.reduceBEq, Nat.reduceEqDiff, ↓reduceIte, Nat.reduceAdd, Nat.reduceSub])
  refine akDone (by kernel_rfl) ?_
  (refine hK _ ?_; clear hK K; (try simp only [nA, Nat.reduceBEq, Nat.reduceEqDiff, ↓reduceIte, Nat.reduceAdd, Nat.reduceSub]))
  (refine AW.seq_k ?_; intro K hK)
  refine AW.region ?_
  (first | refine awR (op_load_ptr rfl rfl rfl rfl ag26 sz26 (Nat.le_of_ble_eq_true rfl) rfl) ?_ | refine awR (op_load_rop rfl rfl ag26 sz26 (Nat.le_of_ble_eq_true rfl) (by decide) rfl) ?_)
  refine awJ (op_store rfl rfl rfl rfl rfl rfl sz26 rfl (Nat.le_of_ble_eq_true rfl) rfl) ?_; (try simp only [nA, Nat.reduceBEq, Nat.reduceEqDiff, ↓reduceIte, Nat.reduceAdd, Nat.reduceSub])
  refine AWL.nil ?_
  (refine hK _ ?_; clear hK K; (try simp only [nA, Nat.reduceBEq, Nat.reduceEqDiff, ↓reduceIte, Nat.reduceAdd, Nat.reduceSub]))
  skip
  refine AW.ret ?_; (try simp only [thenE, inBlk, Nat.reduceEqDiff, ↓reduceIte]); exact RQ.of0 rfl (.cell (Nat.le_of_ble_eq_true rfl) rfl rfl rfl ag26 sz26 (Nat.le_of_ble_eq_true rfl) rfl rfl .nil)
end Go.Proofs.Ytdnofpggdddimaa
namespace Go.Proofs.Ytdnofpggdddimaa
open Go.RowKit
set_option linter.unusedSimpArgs false
set_option linter.unusedVariables false
set_option maxRecDepth 100000
open Go.Shelf
attribute [local go_sem] Oper.semAt_some
theorem C77 {l : List Op} : Fn Try.prog 77 [] [.ro (l.map Op.av)] [.clo 90 [.rop [.ro (l.map Op.av)]]] [] := by
  refine Spec.body Try.func77 rfl Try.ntmps77 (by simp) rfl ?_; intro S0 own0 v0 w0
  (refine AW.seq_k ?_; intro K hK)
  refine AW.region ?_
  refine awJ (OpJ.frzP (op_box rfl rfl rfl sz24 rfl) (row := [.ro (l.map Op.av)]) (fun c hc => by rw [List.mem_singleton.1 hc]; rfl)) ?_; (try simp only [nA, Nat.reduceBEq, Nat.reduceEqDiff, ↓reduceIte, Nat.reduceAdd, Nat.reduceSub])
  refine awP (op_assign rfl rfl) ?_
  refine AWL.nil ?_
  (refine hK _ ?_; clear hK K; (try simp only [nA, Nat.reduceBEq, Nat.reduceEqDiff, ↓reduceIte, Nat.reduceAdd, Nat.reduceSub]))
  (refine AW.seq_k ?_; intro K hK)
  refine AW.region ?_
  refine awP (op_makeFunc rfl rfl rfl) ?_
  refine awP (op_assign rfl rfl) ?_
  refine AWL.nil ?_
  (refine hK _ ?_; clear hK K; (try simp only [nA, Nat.reduceBEq, Nat.reduceEqDiff, ↓reduceIte, Nat.reduceAdd, Nat.reduceSub]))
  skip
  refine AW.ret ?_; (try simp only [thenE, inBlk, Nat.reduceEqDiff, ↓reduceIte]); exact RQ.of0 rfl (.tmp (Nat.le_of_ble_eq_true rfl) rfl rfl .nil)
def uptoL {α : Type} (f : Nat → α) (k : Nat) : List α := (List.range k).map f
theorem uptoL_succ {α : Type} (f : Nat → α) (k : Nat) : uptoL f (k + 1) = uptoL f k ++ [f k] := by simp [uptoL, List.range_succ]
theorem uptoL_length {α : Type} (f : Nat → α) (k : Nat) : (uptoL f k).length = k := by simp [uptoL]
def bkw (xs : List Op) (j : Nat) : Int × Op := ((xs.length : Int) - 1 - j, xs.getD (xs.length - 1 - j) default)
abbrev bkv (x : Int × Op) : Array Value := #[.int .i64 x.1, .agg x.2.vs.toArray]
/-- The elements lie in blocks that nobody turns. -/
def LiesAt (n₀ : Nat) (W : World) (A : Option Addr) (xs : List Op) : Prop := ∀ j, j < xs.length → ∃ b o, A = some ⟨b, o, none⟩ ∧ b < n₀ ∧ ∀ (q : Nat) (u : Value), (xs.getD j default).vs[q]? = some u → W.cell? ⟨b, o + (j * 10 + q), none⟩ = some u
theorem LiesAt.below {n₀ : Nat} {W W' : World} {A : Option Addr} {xs : List Op} (h : LiesAt n₀ W A xs) (hb : Below n₀ W W') : LiesAt n₀ W' A xs := fun j hj => by
  obtain ⟨b, o, e, h1, h2⟩ := h j hj
  exact ⟨b, o, e, h1, fun q u hu => (hb.cell (p := ⟨b, o + (j * 10 + q), none⟩) h1).trans (h2 q u hu)⟩
set_option maxHeartbeats 2000000 in
theorem C90in (F : Fence) (n : Nat) (h90 : F.fn 90) (hro : F.round = none) (hn : 1 ≤ n) (l Bs Bo n₀ c : Nat) (A : Option Addr) (xs : List Op) (hlen : xs.length ≤ 1000) (hBn : Bs < n₀) (J Jx : List (Int × Op) → World → Prop)
    (hY : ∀ pre x W, J pre W → pre.length < xs.length → YieldAt F (n - 1) Try.prog l (bkv x) W fun e W' =>
      (e = .returned (.bool true) ∧ J (pre ++ [x]) W' ∧ Below n₀ W W') ∨ (e = .returned (.bool false) ∧ Jx (pre ++ [x]) W'))
    (W : World) (hBs : W.cell? ⟨Bs, Bo, none⟩ = some (.slice A xs.length c)) (hL : LiesAt n₀ W A xs) (h0 : J [] W) :
    CallsIn F n Try.prog 90 #[.func (.yield l) #[] #[], .pointer (some ⟨Bs, Bo, none⟩)] W fun e W' => (∃ v, e = .returned v) ∧
      ((∃ ys, ys = uptoL (bkw xs) xs.length ∧ J ys W') ∨ (∃ pre, (∃ k, k ≤ xs.length ∧ pre = uptoL (bkw xs) k) ∧ Jx pre W')) := by
  refine callsIn_of_wp Try.func90 rfl h90 ?_ hro
  simp only [Try.ntmps90, List.size_toArray, List.length_cons, List.length_nil, Nat.reduceAdd, Nat.reduceSub, Array.replicate_succ, Array.replicate_zero, List.push_toArray, List.append_toArray, List.nil_append, List.cons_append]
  gi_wp2
  gi_loopw [3] (fun i wr => ∃ k : Nat, k ≤ xs.length ∧ i = .int .i64 ((xs.length : Int) - 1 - k) ∧ J (uptoL (bkw xs) k) wr ∧ Below n₀ W wr)
    (fun i _ => (intOf i + 1).toNat)
  case atStart => exact ⟨0, Nat.zero_le _, by simp, h0, Below.refl _ _⟩
  case round =>
    obtain ⟨k, hk, rfl, hJs, hnx⟩ := hrel
    have hB2 : wr.cell? ⟨Bs, Bo, none⟩ = some (.slice A xs.length c) := (hnx.cell (p := ⟨Bs, Bo, none⟩) hBn).trans hBs
    by_cases hlt : k < xs.length
    · obtain ⟨fn, tmps, assign, body, hy, hR⟩ := hY _ (bkw xs k) wr hJs (by rw [uptoL_length]; exact hlt)
      dsimp only [bkv, bkw] at hy
      obtain ⟨b, o, rfl, hb, hc⟩ := (hL.below hnx) (xs.length - 1 - k) (by omega)
      obtain ⟨op, hop⟩ : ∃ op, xs.getD (xs.length - 1 - k) default = op := ⟨_, rfl⟩
      rw [hop] at hy hc
      have c0 : wr.cell? ⟨b, o + (xs.length - 1 - k) * 10, none⟩ = some (.int .i64 op.time) := hc 0 _ rfl
      have c1 : wr.cell? ⟨b, o + (xs.length - 1 - k) * 10 + 1, none⟩ = some (.int .i64 op.device) := hc 1 _ rfl
      have c2 : wr.cell? ⟨b, o + (xs.length - 1 - k) * 10 + 2, none⟩ = some (.int .i64 op.seq) := hc 2 _ rfl
      have c3 : wr.cell? ⟨b, o + (xs.length - 1 - k) * 10 + 3, none⟩ = some (.int .i64 op.kind) := hc 3 _ rfl
      have c4 : wr.cell? ⟨b, o + (xs.length - 1 - k) * 10 + 4, none⟩ = some (.int .i64 op.cont) := hc 4 _ rfl
      have c5 : wr.cell? ⟨b, o + (xs.length - 1 - k) * 10 + 5, none⟩ = some (.int .i64 op.piece.plate.lead) := hc 5 _ rfl
      have c6 : wr.cell? ⟨b, o + (xs.length - 1 - k) * 10 + 6, none⟩ = some (.int .i64 op.piece.plate.airline) := hc 6 _ rfl
      have c7 : wr.cell? ⟨b, o + (xs.length - 1 - k) * 10 + 7, none⟩ = some (.int .i64 op.piece.plate.serial) := hc 7 _ rfl
      have c8 : wr.cell? ⟨b, o + (xs.length - 1 - k) * 10 + 8, none⟩ = some (.int .i64 op.piece.weight) := hc 8 _ rfl
      have c9 : wr.cell? ⟨b, o + (xs.length - 1 - k) * 10 + 9, none⟩ = some (.int .i64 op.piece.category) := hc 9 _ rfl
      clear hc hop
      gi_wp2
      refine hR.mono ?_
      rintro e W3 (⟨rfl, hJ3, hk3⟩ | ⟨rfl, hJx3⟩)
      · gi_wp2
        go_roundw
        case rel => exact ⟨k + 1, by omega, by simp; omega, by rw [uptoL_succ]; exact hJ3, hnx.trans hk3⟩
        case measure => simp [intOf]; omega
      · gi_wp2
        refine bodyPost_ret (results_none rfl _ _ _) rfl ?_
        exact ⟨⟨_, rfl⟩, .inr ⟨_, ⟨k + 1, by omega, (uptoL_succ _ _).symm⟩, hJx3⟩⟩
    · obtain rfl : k = xs.length := by omega
      gi_wp2
      go_end0
      exact ⟨⟨_, rfl⟩, .inl ⟨_, rfl, hJs⟩⟩
theorem C90s (F : Fence) (n : Nat) (h90 : F.fn 90) (hro : F.round = none) (hn : 1 ≤ n) (Bs Bo n₀ c : Nat) (A : Option Addr) (xs : List Op) (hlen : xs.length ≤ 1000) (hBn : Bs < n₀) (w : World) (hw : n₀ ≤ w.heap.size) (hBs : w.cell? ⟨Bs, Bo, none⟩ = some (.slice A xs.length c)) (hL : LiesAt n₀ w A xs) :
    SeqStopsK F n Try.prog 90 #[.pointer (some ⟨Bs, Bo, none⟩)] bkv (Below n₀) (fun ys => ys = uptoL (bkw xs) xs.length) (fun pre => ∃ k, k ≤ xs.length ∧ pre = uptoL (bkw xs) k) xs.length w := fun l J Jx W hW _ _ hY h0 =>
  C90in F n h90 hro hn l Bs Bo n₀ c A xs hlen hBn J Jx hY W ((hW.cell (p := ⟨Bs, Bo, none⟩) (Nat.lt_of_lt_of_le hBn hw)).trans hBs) (hL.below (hW.mono hw)) h0
theorem rev_bkw (xs : List Op) : xs.reverse = (List.range xs.length).map fun j => (bkw xs j).2 := by
  apply List.ext_getElem
  · simp
  · intro i h1 h2
    simp only [List.length_reverse] at h1
    rw [List.getElem_reverse, List.getElem_map, List.getElem_range]
    unfold bkw
    rw [getD_of (by omega)]
theorem loaded_none {xs : List Op} {p : Plate} (h : ∀ j, j < xs.length → (bkw xs j).2.piece.plate ≠ p) : loadedB xs p = false := by
  unfold loadedB
  rw [rev_bkw, List.find?_eq_none.2]
  · rfl
  · intro x hx
    obtain ⟨j, hj, rfl⟩ := List.mem_map.1 hx
    simp [h j (List.mem_range.1 hj)]
theorem loaded_at {xs : List Op} {p : Plate} {k : Nat} (hk : k < xs.length) (h : ∀ j, j < k → (bkw xs j).2.piece.plate ≠ p) (he : (bkw xs k).2.piece.plate = p) : loadedB xs p = decide ((bkw xs k).2.kind = 1) := by
  unfold loadedB
  rw [rev_bkw, List.find?_map, (List.find?_range_eq_some (i := k)).2]
  · rfl
  · refine ⟨by simp [he], List.mem_range.2 hk, fun j hj => by simp [h j hj]⟩
theorem uptoL_snoc {α : Type} {f : Nat → α} {k : Nat} {pre : List α} {x : α} (h : pre ++ [x] = uptoL f k) : ∃ m, k = m + 1 ∧ pre = uptoL f m ∧ x = f m := by
  cases k with
  | zero => simp [uptoL] at h
  | succ m =>
    rw [uptoL_succ] at h
    have := List.append_inj' h rfl
    exact ⟨m, rfl, this.1, by simpa using this.2⟩
theorem uptoL_mem {α : Type} {f : Nat → α} {k j : Nat} (h : j < k) : f j ∈ uptoL f k := List.mem_map.2 ⟨j, List.mem_range.2 h, rfl⟩
end Go.Proofs.Ytdnofpggdddimaa
namespace Go.Proofs.Ytdnofpggdddimaa
open Go.RowKit
set_option linter.unusedSimpArgs false
set_option linter.unusedVariables false
set_option maxRecDepth 100000
open Go.Shelf
section
variable {C : Cx} {Q : Exit → Act → World → Prop} {σ : Sta}
def AWR (C : Cx) (c : Code) (Q : Exit → Act → World → Prop) (σ : Sta) : Prop := ∀ a w, St C σ a w → c.wp C.P Q a w
def RawE (C : Cx) (Q : Exit → Act → World → Prop) : Exit → Sta → Prop := fun e σ => ∀ a w, St C σ a w → Q e a w
theorem AWR.seq_k {x y : Code} (h : ∀ K : Sta → Prop, (∀ σ, AWR C y Q σ → K σ) → AW C x (thenE K (RawE C Q)) σ) : AWR C (.seq x y) Q σ := fun a w hs =>
  wp_seq (wp_mono (h _ (fun _ h => h) a w hs) fun e a w ⟨σ, h1, h2⟩ => by
    cases e with
    | normal => exact h2 a w h1
    | _ => exact h2 a w h1)
theorem AWR.assoc {x y : Code} (h : AWR C x (Exit.then (y.wp C.P Q) Q) σ) : AWR C (.seq x y) Q σ := fun a w hs => wp_seq (h a w hs)
theorem AWR.block {i : Nat} {c : Code} (h : AWR C c (Exit.inBlock i Q) σ) : AWR C (.block i c) Q σ := fun a w hs => wp_block (h a w hs)
theorem AWR.gh {c : Code} {σ' : Sta} (hg : Gh C σ σ') (h : AWR C c Q σ') : AWR C c Q σ := fun a w hs => h a w (hg a w hs)
end
theorem st_start {P : Program} {xs : List AV} {w : World} {S : Nat → Prop} {vals : List Value} {bss : List (List Nat)} {vs : List Value} {n : Nat} (came : Came P [] xs w S vals bss vs) (hn : xs.length ≤ n) :
    St ⟨P, S, [], [], w⟩ ⟨fun t => xs.getD t .any, ⟨[], 1⟩, n⟩ { tmps := vs.toArray ++ Array.replicate (n - vs.toArray.size) undef, defers := [] } w := by
  have hvl : vs.length = xs.length := came.args.1
  obtain rfl : vals = [] := List.eq_nil_of_length_eq_zero came.nv
  obtain rfl : bss = [] := List.eq_nil_of_length_eq_zero came.nb
  refine ⟨rfl, by simp; omega, S, [], [], ⟨Kept.refl _ _, fun _ h => h, fun _ h => .inl h, came.lt, rfl, rfl, fun r k x v bs q1 => by simp at q1, fun r bs q => by simp at q, fun r r' b1 b2 _ q => by simp at q, fun r bs q => by simp at q, fun r bs q => by simp at q, fun r x q => by simp at q, fun r k x q => by simp at q, Nat.one_pos⟩, fun t ht => ?_⟩
  by_cases hlt : t < xs.length
  · have hx := List.getElem?_eq_getElem hlt
    obtain ⟨u, hu, hr⟩ := came.args.at_ hx
    have e1 : (vs.toArray ++ Array.replicate (n - vs.toArray.size) undef).getD t undef = u := by
      have hu' : vs.toArray[t]? = some u := by simpa using hu
      rw [Array.getD_eq_getD_getElem?, Array.getElem?_append_left (by simp; omega), hu']
      rfl
    show TmpOK P S w ⟨[], 1⟩ [] ((vs.toArray ++ Array.replicate (n - vs.toArray.size) undef).getD t undef) (xs.getD t .any)
    rw [e1, List.getD_eq_getElem?_getD, hx]
    exact hr.tmp
  · show TmpOK P S w ⟨[], 1⟩ [] ((vs.toArray ++ Array.replicate (n - vs.toArray.size) undef).getD t undef) (xs.getD t .any)
    rw [List.getD_eq_getElem?_getD, List.getElem?_eq_none (by omega)]
    trivial
/-- A call that hands back a scalar and leaves all as it lay. -/
theorem went_v {P : Program} {w w' : World} {S : Nat → Prop} {x : Value} (hk : Kept (fun _ => True) w w') (hx : x.oneCell' = true) : Went P w S [] [] w' [x] [.v x] [] [[]] [] := by
  refine ⟨hk.mono fun _ _ _ => trivial, rfl, rfl, rfl, rfl, fun i u y bs h1 h2 h3 => ?_, fun r x v bs h => by simp at h, ⟨fun r bs h => ?_, fun r r' b1 b2 hne h1 h2 => ?_⟩, fun b ⟨r, bs, h1, h2⟩ => ?_⟩
  · cases i with
    | zero => simp at h1 h2 h3; subst h1; subst h2; subst h3; exact .inl (.v hx)
    | succ i => simp at h1
  · cases r with
    | zero => simp at h; subst h; exact List.nodup_nil
    | succ r => simp at h
  · cases r with
    | zero => simp at h1; subst h1; exact fun b hb => by cases hb
    | succ r => simp at h1
  · cases r with
    | zero => simp at h1; subst h1; cases h2
    | succ r => simp at h1
/-- What a box of one cell is. -/
theorem slot_box {C : Cx} {T : Sl} {S : Nat → Prop} {vals : List Value} {bss : List (List Nat)} {w : World} {u x : Value} {r k : Nat} {e : TypeId} (hm : Mem C T S vals bss w) (h0 : C.own0 = []) (hT : T.slots[r]? = some (k, .own e [[.v x]])) (hu : TmpOK C.P S w T vals u (.ptr r k 0 0)) :
    ∃ B, u = .pointer (some ⟨B, 0, none⟩) ∧ w.cell? ⟨B, 0, none⟩ = some x ∧ w.frozen? ⟨B, 0, none⟩ = false ∧ C.w0.heap.size ≤ B ∧ ¬ S B := by
  obtain ⟨v, bs, hv, hb, hrep⟩ := hm.slot hT
  obtain ⟨g, c, rfl, rfl⟩ := ptr_first hT hv hrep hu
  obtain ⟨us, sz, bss1, hbs, hi, hsz, hown, hul, hbl, hc⟩ := hrep.own_inv
  have hgb : g ∈ bs := by rw [hbs]; simp [slv, Value.ownBlock]
  rcases hown.2 with ⟨h, _⟩ | ⟨g', cap, cur, he, _, hg, h1, h2, h3, h4⟩
  · cases h
  · injection he with e1 e2 e3
    injection e1 with e1
    injection e1 with e1
    subst e1
    have hus : us.length = 1 := by rw [hul]; rfl
    obtain ⟨y, rfl⟩ : ∃ y, us = [y] := by match us, hus with | [y], _ => exact ⟨y, rfl⟩
    have hy := hc 0 y (.v x) (bss1[0]'(by rw [hbl]; exact Nat.one_pos)) rfl rfl (List.getElem?_eq_getElem _)
    have hyx := hy.v_inv.1
    subst hyx
    have hcell := hown.cells (g := g) rfl 0 y rfl
    refine ⟨g, rfl, by simpa [Addr.add] using hcell, by simp [World.frozen?, hg], ?_, hm.apart r bs hb g hgb⟩
    rcases hm.mine r bs hb g hgb with h | h
    · rw [h0] at h; cases h
    · exact h
end Go.Proofs.Ytdnofpggdddimaa
namespace Go.Proofs.Ytdnofpggdddimaa
open Go.RowKit
set_option linter.unusedSimpArgs false
set_option linter.unusedVariables false
set_option maxRecDepth 100000
open Go.Shelf
attribute [local go_sem] Oper.semAt_some
theorem pl75 : plIs Try.prog 75 [(0, 5), (5, 4)] := ⟨_, Try.underlying75, by kernel_rfl⟩
theorem pl33 : plIs Try.prog 33 [(0, 1), (1, 1), (2, 1), (3, 1), (4, 1), (5, 5)] := ⟨_, Try.underlying33, by kernel_rfl⟩
theorem pl26 : plIs Try.prog 26 [(0, 1), (1, 1), (2, 1), (3, 1), (4, 1), (5, 1), (6, 1)] := ⟨_, Try.underlying26, by kernel_rfl⟩
def loadErr (h : Hand) (p : Piece) (n : Int) : Int :=
  if idxI (fun c : Container => decide (c.number = n)) h.conts < 0 then 6
  else if grantedB h.grants p (h.conts.getD (idxI (fun c : Container => decide (c.number = n)) h.conts).toNat default).flight = false then 10
  else if loadedB h.log p.plate then 5 else 0
theorem idx_lt {α : Type} {p : α → Bool} {l : List α} (h : ¬ idxI p l < 0) : (idxI p l).toNat < l.length ∧ ((idxI p l).toNat : Int) = idxI p l := by
  unfold idxI at h ⊢
  by_cases hl : l.findIdx p < l.length
  · rw [if_pos hl] at h ⊢
    exact ⟨by omega, by omega⟩
  · rw [if_neg hl] at h; omega
/-- Between two rounds; where a round has left. -/
def ldI (B : Nat) (wl : World) (p : Plate) (pre : List (Int × Op)) (W : World) : Prop := Kept (fun k => k ≠ B) wl W ∧ W.cell? ⟨B, 0, none⟩ = some (.int .i64 0) ∧ W.frozen? ⟨B, 0, none⟩ = false ∧ ∀ x ∈ pre, x.2.piece.plate ≠ p
def ldX (B : Nat) (wl : World) (p : Plate) (c : Code) (pre : List (Int × Op)) (W : World) : Prop := Kept (fun k => k ≠ B) wl W ∧ W.frozen? ⟨B, 0, none⟩ = false ∧ ∃ pre0 x, pre = pre0 ++ [x] ∧ (∀ y ∈ pre0, y.2.piece.plate ≠ p) ∧ x.2.piece.plate = p ∧ ((c = .ret ∧ x.2.kind = 1 ∧ W.cell? ⟨B, 0, none⟩ = some (.int .i64 5)) ∨ (c = .exit 0 ∧ x.2.kind ≠ 1 ∧ W.cell? ⟨B, 0, none⟩ = some (.int .i64 0)))
theorem list42 {α : Type} (l : List α) (h : l.length = 42) : ∃ z0 z1 z2 z3 z4 z5 z6 z7 z8 z9 z10 z11 z12 z13 z14 z15 z16 z17 z18 z19 z20 z21 z22 z23 z24 z25 z26 z27 z28 z29 z30 z31 z32 z33 z34 z35 z36 z37 z38 z39 z40 z41 : α, l = [z0, z1, z2, z3, z4, z5, z6, z7, z8, z9, z10, z11, z12, z13, z14, z15, z16, z17, z18, z19, z20, z21, z22, z23, z24, z25, z26, z27, z28, z29, z30, z31, z32, z33, z34, z35, z36, z37, z38, z39, z40, z41] := by
  match l, h with
  | z0 :: z1 :: z2 :: z3 :: z4 :: z5 :: z6 :: z7 :: z8 :: z9 :: z10 :: z11 :: z12 :: z13 :: z14 :: z15 :: z16 :: z17 :: z18 :: z19 :: z20 :: z21 :: z22 :: z23 :: z24 :: z25 :: z26 :: z27 :: z28 :: z29 :: z30 :: z31 :: z32 :: z33 :: z34 :: z35 :: z36 :: z37 :: z38 :: z39 :: z40 :: z41 :: [], _ => exact ⟨z0, z1, z2, z3, z4, z5, z6, z7, z8, z9, z10, z11, z12, z13, z14, z15, z16, z17, z18, z19, z20, z21, z22, z23, z24, z25, z26, z27, z28, z29, z30, z31, z32, z33, z34, z35, z36, z37, z38, z39, z40, z41, rfl⟩
/-- The cells of a list of operations. -/
theorem ro_lies {P : Program} {S : Nat → Prop} {w : World} {A : Option Addr} {xs : List Op} {us : List Value} (hS : ∀ k, S k → k < w.heap.size) (hr : Rd S w A us) (hl : us.length = (xs.map Op.av).flatten.length) (hc : ∀ (i : Nat) (u : Value) (x : AV), us[i]? = some u → (xs.map Op.av).flatten[i]? = some x → Rep P S w [] u x) : LiesAt w.heap.size w A xs := fun j hj => by
  have hrow : (xs.map Op.av)[j]? = some (xs.getD j default).av := get_mapD hj
  have key : ∀ (q : Nat) (u : Value), (xs.getD j default).vs[q]? = some u → us[j * 10 + q]? = some u := fun q u hu => by
    have hx : (xs.getD j default).av[q]? = some (.v u) := by
      have e : (xs.getD j default).av = (xs.getD j default).vs.map AV.v := rfl
      rw [e, List.getElem?_map, hu]; rfl
    have hf := flat_at (opv_len xs) hrow hx
    have hlt : j * 10 + q < us.length := by rw [hl]; exact (List.getElem?_eq_some_iff.1 hf).1
    have := hc _ _ _ (List.getElem?_eq_getElem hlt) hf
    rw [List.getElem?_eq_getElem hlt, this.v_inv.1]
  have h0 := key 0 _ rfl
  obtain ⟨g, o, e, hSg, hcell⟩ := hr (by have := (List.getElem?_eq_some_iff.1 h0).1; omega)
  exact ⟨g, o, e, hS g hSg, fun q u hu => hcell _ _ (key q u hu)⟩
theorem load_fin {v : Int} {w W1 : World} {S : Nat → Prop} {B D : Nat} {tm : Array Value} (ht : tm.getD 6 undef = .pointer (some ⟨B, 0, none⟩)) (hk : Kept (fun _ => True) w W1) (hD : w.heap.size ≤ D) (hK : W1.heap[D]? = some (.deferred (some []))) (hc : W1.cell? ⟨B, 0, none⟩ = some (.int .i64 v)) :
    (results Try.f59 tm).run Try.prog (W1.putObj D (.deferred none)) = .ok (.int .i64 v) (W1.putObj D (.deferred none)) ∧ Went Try.prog w S [] [] (W1.putObj D (.deferred none)) [.int .i64 v] [.v (.int .i64 v)] [] [[]] [] := by
  have hcell : (W1.putObj D (.deferred none)).cell? ⟨B, 0, none⟩ = some (.int .i64 v) := cell_kept hc (grownBy_putObj' W1 D _) (fun r e => by cases e; exact ⟨_, hK, rfl⟩)
  have hl := run_loadOne (P := Try.prog) ag39 ⟨B, 0, none⟩ _ _ hcell
  refine ⟨retV_run (us := [.int .i64 v]) ?_, went_v (hk.grown (grownBy_putObj' W1 D _) fun k e => by cases e; exact .inr hD) rfl⟩
  show ([ResultVar.cell 6 39].mapM (resOf tm)).run Try.prog _ = _
  exact mapM_run (by simp only [resOf, Sem.run_bind, ht, asAddr, Sem.run_pure, Result.andThen_ok, hl]) (by simp)
theorem C59 {h : Hand} {p : Piece} {n : Int} (hs : h.Sm) : Fn Try.prog 59 [] [.agg h.av, .agg p.av, .v (.int .i64 n)] [.v (.int .i64 (loadErr h p n))] [] := by
  intro w S vals bss vs came
  have hst := st_start (n := 42) came (by simp)
  obtain rfl : vals = [] := List.eq_nil_of_length_eq_zero came.nv
  obtain rfl : bss = [] := List.eq_nil_of_length_eq_zero came.nb
  refine callsIn_wide.1 (callsIn_of_wp_marks (F := Fence.wide) (n := 5) Try.func59 rfl trivial (wpIn_wide.2 ?_) rfl)
  rw [Try.ntmps59]
  refine (?_ : AWR ⟨Try.prog, S, [], [], w⟩ _ _ _) _ _ hst
  clear hst
  have hraw : ∀ (x : Value) (σ : Sta), x = .int .i64 (loadErr h p n) → RL (ResIs Try.prog σ) Try.f59.results.toList [.v x] → RawE ⟨Try.prog, S, [], [], w⟩ (bodyPostM Fence.wide 5 Try.prog Try.f59 fun e w' => ∃ us ys outs bsr bss', e = .returned (retV us) ∧ Went Try.prog w S [] [] w' us ys outs bsr bss' ∧ ys = [.v (.int .i64 (loadErr h p n))] ∧ outs = []) .ret σ := by
    intro x σ hx hres a w' hst
    subst hx
    obtain ⟨hd, hn, S', vals', bss', hm, he⟩ := hst
    obtain ⟨us, h1, h2⟩ := res_run (C := ⟨Try.prog, S, [], [], w⟩) ⟨hd, hn, hm, he⟩ _ _ hres
    obtain ⟨u, us', rfl, hu, h'⟩ := h2.cons_inv
    obtain rfl : us' = [] := List.eq_nil_of_length_eq_zero h'.1
    have hux := (show TmpOK Try.prog S' w' σ.T vals' u (.v (.int .i64 (loadErr h p n))) from hu).v
    subst hux
    show LeavesInM _ _ _ _ _ _ a.defers .returning w'
    rw [hd]
    exact ⟨_, retV_run h1, [_], _, _, _, _, rfl, went_v (hm.kept.mono fun _ _ _ => List.not_mem_nil) rfl, rfl, rfl⟩
  (refine AWR.seq_k ?_; intro K hK)
  refine AW.region ?_
  refine awJ (op_box rfl rfl rfl sz26 rfl) ?_; (try simp only [nA, Nat.reduceBEq, Nat.reduceEqDiff, ↓reduceIte, Nat.reduceAdd, Nat.reduceSub])
  refine awJ (op_box rfl rfl rfl sz31 rfl) ?_; (try simp only [nA, Nat.reduceBEq, Nat.reduceEqDiff, ↓reduceIte, Nat.reduceAdd, Nat.reduceSub])
  refine awJ (OpJ.frzP (op_box rfl rfl rfl sz3 rfl) (row := [.v (.int .i64 n)]) (fun c hc => by rw [List.mem_singleton.1 hc]; rfl)) ?_; (try simp only [nA, Nat.reduceBEq, Nat.reduceEqDiff, ↓reduceIte, Nat.reduceAdd, Nat.reduceSub])
  refine awJ (op_alloc rfl ze39 rfl) ?_; (try simp only [nA, Nat.reduceBEq, Nat.reduceEqDiff, ↓reduceIte, Nat.reduceAdd, Nat.reduceSub])
  refine AWL.nil ?_
  (refine hK _ ?_; clear hK K; (try simp only [nA, Nat.reduceBEq, Nat.reduceEqDiff, ↓reduceIte, Nat.reduceAdd, Nat.reduceSub]))
  (refine AWR.seq_k ?_; intro K hK)
  refine AW.region ?_
  (first | refine awP (op_fa_ptr rfl rfl rfl fl26_5 (by exact sz23) (by decide) rfl) ?_ | refine awP (op_fa_rop rfl rfl fl26_5 (by exact sz23) (by decide) (Nat.le_of_ble_eq_true rfl) rfl) ?_)
  (first | refine awR (op_load_ptr1 rfl rfl rfl rfl ag23 rfl rfl) ?_ | refine awR (op_load_rop1 rfl rfl ag23) ?_)
  refine awP (op_makeFunc rfl rfl rfl) ?_
  refine awJ (OpQ.j (op_callQ (b := true) rfl en74 (C74 (l := h.conts) (n := n) hs.c) (RL.cons (by first | exact View.same rfl | exact View.nil | exact View.rof | exact View.src .ro | exact View.src .rof | exact View.src (.sl rfl rfl) | exact View.ptr rfl rfl rfl) (RL.cons (by first | exact View.same rfl | exact View.nil | exact View.rof | exact View.src .ro | exact View.src .rof | exact View.src (.sl rfl rfl) | exact View.ptr rfl rfl rfl) (RL.nil))) rfl)) ?_; (try simp only [nA, Nat.reduceBEq, Nat.reduceEqDiff, ↓reduceIte, Nat.reduceAdd, Nat.reduceSub])
  refine awP (op_assign rfl rfl) ?_
  refine AWL.nil ?_
  (refine hK _ ?_; clear hK K; (try simp only [nA, Nat.reduceBEq, Nat.reduceEqDiff, ↓reduceIte, Nat.reduceAdd, Nat.reduceSub]))
  (refine AWR.seq_k ?_; intro K hK)
  (refine AW.seq_k ?_; intro K hK)
  refine AW.region ?_
  refine awP (op_move rfl rfl) ?_
  refine awP (op_lss rfl rfl rfl) ?_
  refine AWL.nil ?_
  (refine hK _ ?_; clear hK K; (try simp only [nA, Nat.reduceBEq, Nat.reduceEqDiff, ↓reduceIte, Nat.reduceAdd, Nat.reduceSub]))
  refine AW.cond rfl rfl rfl (fun hc => ?_) (fun hc => ?_)
  ·
   (skip); have hc1 := hc; have hi := (show idxI (fun c : Container => decide (c.number = n)) h.conts < 0 by simpa using hc1)
   (refine AW.seq_k ?_; intro K hK)
   refine AW.region ?_
   refine awJ (op_store rfl rfl rfl rfl rfl rfl sz39 rfl (Nat.le_of_ble_eq_true rfl) rfl) ?_; (try simp only [nA, Nat.reduceBEq, Nat.reduceEqDiff, ↓reduceIte, Nat.reduceAdd, Nat.reduceSub])
   refine AWL.nil ?_
   (refine hK _ ?_; clear hK K; (try simp only [nA, Nat.reduceBEq, Nat.reduceEqDiff, ↓reduceIte, Nat.reduceAdd, Nat.reduceSub]))
   skip
   refine AW.ret ?_; (try simp only [thenE, inBlk, Nat.reduceEqDiff, ↓reduceIte]); exact hraw (.int .i64 6) _ (by unfold loadErr; rw [if_pos hi]) (RL.cons ⟨(Nat.le_of_ble_eq_true rfl), 2, 3, 0, 0, 39, _, _, rfl, rfl, rfl, .inr ⟨ag39, _, rfl, rfl⟩⟩ RL.nil)
  ·
   (skip); have hc1 := hc; have hi := (show ¬ idxI (fun c : Container => decide (c.number = n)) h.conts < 0 by simpa using hc1); obtain ⟨hil, hie⟩ := idx_lt hi
   refine AW.skip ?_
   (refine hK _ ?_; clear hK K; (try simp only [nA, Nat.reduceBEq, Nat.reduceEqDiff, ↓reduceIte, Nat.reduceAdd, Nat.reduceSub]))
   (refine AWR.seq_k ?_; intro K hK)
   (refine AW.seq_k ?_; intro K hK)
   refine AW.quiet mix (by kernel_rfl) ?_
   (first | refine aqP (op_fa_ptr rfl rfl rfl fl26_4 (by exact sz22) (by decide) rfl) ?_ | refine aqP (op_fa_rop rfl rfl fl26_4 (by exact sz22) (by decide) (Nat.le_of_ble_eq_true rfl) rfl) ?_)
   (first | refine aqR (op_load_ptr1 rfl rfl rfl rfl ag22 rfl rfl) ?_ | refine aqR (op_load_rop1 rfl rfl ag22) ?_)
   (first | refine aqR (op_load_ptr rfl rfl rfl rfl ag31 sz31 (Nat.le_of_ble_eq_true rfl) rfl) ?_ | refine aqR (op_load_rop rfl rfl ag31 sz31 (Nat.le_of_ble_eq_true rfl) (by decide) rfl) ?_)
   (first | refine aqP (op_fa_ptr rfl rfl rfl fl26_5 (by exact sz23) (by decide) rfl) ?_ | refine aqP (op_fa_rop rfl rfl fl26_5 (by exact sz23) (by decide) (Nat.le_of_ble_eq_true rfl) rfl) ?_)
   (first | refine aqR (op_load_ptr1 rfl rfl rfl rfl ag23 rfl rfl) ?_ | refine aqR (op_load_rop1 rfl rfl ag23) ?_)
   refine aqP (op_move rfl rfl) ?_
   (first | refine aqP (op_ia_ro (idxI (fun c : Container => decide (c.number = n)) h.conts).toNat rfl (.inl rfl) rfl Try.underlying23 (by omega) (get_mapD (by omega)) (by exact sz77) (Nat.le_of_ble_eq_true rfl)) ?_ | refine aqP (op_ia_sl _ _ rfl rfl rfl rfl Try.underlying23 rfl (by omega) (by exact sz77) rfl) ?_)
   (first | refine aqP (op_fa_ptr rfl rfl rfl fl77_1 (by exact sz73) (by decide) rfl) ?_ | refine aqP (op_fa_rop rfl rfl fl77_1 (by exact sz73) (by decide) (Nat.le_of_ble_eq_true rfl) rfl) ?_)
   (first | refine aqR (op_load_ptr rfl rfl rfl rfl ag73 sz73 (Nat.le_of_ble_eq_true rfl) rfl) ?_ | refine aqR (op_load_rop rfl rfl ag73 sz73 (Nat.le_of_ble_eq_true rfl) (by decide) rfl) ?_)
   refine aqP (op_build2 (xs := [_, _, _, _, _, _, _, _, _]) rfl pl75 ze75 [(0, [_, _, _, _, _]), (1, [_, _, _, _])] rfl rfl rfl) ?_
   refine aqQ (op_callQ (b := true) rfl en76 (C76 (l := h.grants) (g := ⟨p, (h.conts.getD (idxI (fun c : Container => decide (c.number = n)) h.conts).toNat default).flight⟩) hs.g) (RL.cons (by first | exact View.same rfl | exact View.nil | exact View.rof | exact View.src .ro | exact View.src .rof | exact View.src (.sl rfl rfl) | exact View.ptr rfl rfl rfl) (RL.cons (by first | exact View.same rfl | exact View.nil | exact View.rof | exact View.src .ro | exact View.src .rof | exact View.src (.sl rfl rfl) | exact View.ptr rfl rfl rfl) (RL.nil))) rfl) ?_; (try simp only [nA, Nat.reduceBEq, Nat.reduceEqDiff, ↓reduceIte, Nat.reduceAdd, Nat.reduceSub])
   refine aqP (op_not rfl rfl rfl) ?_
   refine AQ.nil ?_
   (refine hK _ ?_; clear hK K; (try simp only [nA, Nat.reduceBEq, Nat.reduceEqDiff, ↓reduceIte, Nat.reduceAdd, Nat.reduceSub]))
   refine AW.cond rfl rfl rfl (fun hc => ?_) (fun hc => ?_)
   ·
    (skip); have hc2 := hc; have hg := hc2
    (refine AW.seq_k ?_; intro K hK)
    refine AW.region ?_
    refine awJ (op_store rfl rfl rfl rfl rfl rfl sz39 rfl (Nat.le_of_ble_eq_true rfl) rfl) ?_; (try simp only [nA, Nat.reduceBEq, Nat.reduceEqDiff, ↓reduceIte, Nat.reduceAdd, Nat.reduceSub])
    refine AWL.nil ?_
    (refine hK _ ?_; clear hK K; (try simp only [nA, Nat.reduceBEq, Nat.reduceEqDiff, ↓reduceIte, Nat.reduceAdd, Nat.reduceSub]))
    skip
    refine AW.ret ?_; (try simp only [thenE, inBlk, Nat.reduceEqDiff, ↓reduceIte]); exact hraw (.int .i64 10) _ (by unfold loadErr; rw [if_neg hi, if_pos (by simpa [grantedB] using hg)]) (RL.cons ⟨(Nat.le_of_ble_eq_true rfl), 2, 3, 0, 0, 39, _, _, rfl, rfl, rfl, .inr ⟨ag39, _, rfl, rfl⟩⟩ RL.nil)
   ·
    (skip); have hc2 := hc; have hg := hc2
    refine AW.skip ?_
    (refine hK _ ?_; clear hK K; (try simp only [nA, Nat.reduceBEq, Nat.reduceEqDiff, ↓reduceIte, Nat.reduceAdd, Nat.reduceSub]))
    refine AWR.assoc ?_
    (refine AWR.seq_k ?_; intro K hK)
    refine AW.region ?_
    (first | refine awP (op_fa_ptr rfl rfl rfl fl26_6 (by exact sz24) (by decide) rfl) ?_ | refine awP (op_fa_rop rfl rfl fl26_6 (by exact sz24) (by decide) (Nat.le_of_ble_eq_true rfl) rfl) ?_)
    (first | refine awR (op_load_ptr1 rfl rfl rfl rfl ag24 rfl rfl) ?_ | refine awR (op_load_rop1 rfl rfl ag24) ?_)
    refine awJ (op_callS rfl en77 (C77 (l := h.log)) (RL.cons (by first | exact View.same rfl | exact View.nil | exact View.rof | exact View.src .ro | exact View.src .rof | exact View.src (.sl rfl rfl) | exact View.ptr rfl rfl rfl) (RL.nil)) rfl rfl rfl) ?_; (try simp only [nA, Nat.reduceBEq, Nat.reduceEqDiff, ↓reduceIte, Nat.reduceAdd, Nat.reduceSub])
    refine AWL.nil ?_
    (refine hK _ ?_; clear hK K; (try simp only [nA, Nat.reduceBEq, Nat.reduceEqDiff, ↓reduceIte, Nat.reduceAdd, Nat.reduceSub]))
    refine AWR.gh (Gh.freezeP (r := 1) 4 (Nat.le_of_ble_eq_true rfl) rfl rfl (fun c hc => by simp only [List.mem_cons, List.not_mem_nil, or_false] at hc; rcases hc with rfl | rfl | rfl | rfl | rfl <;> rfl)) ?_; (try simp only [nA, Nat.reduceBEq, Nat.reduceEqDiff, ↓reduceIte, Nat.reduceAdd, Nat.reduceSub])
    refine AWR.block ?_
    rintro ⟨tmps, df⟩ wl ⟨hd, hn, S', vals', bss', hm, he⟩
    obtain rfl : df = [] := hd
    obtain ⟨tl⟩ := tmps
    obtain ⟨z0, z1, z2, z3, z4, z5, z6, z7, z8, z9, z10, z11, z12, z13, z14, z15, z16, z17, z18, z19, z20, z21, z22, z23, z24, z25, z26, z27, z28, z29, z30, z31, z32, z33, z34, z35, z36, z37, z38, z39, z40, z41, rfl⟩ := list42 tl hn
    have e30 : Rep Try.prog S' wl [] z30 (.clo 90 [.rop [.ro (h.log.map Op.av)]]) := he 30 (Nat.le_of_ble_eq_true rfl)
    have e4 : Rep Try.prog S' wl [] z4 (.rop p.av) := he 4 (Nat.le_of_ble_eq_true rfl)
    have e6 := he 6 (Nat.le_of_ble_eq_true rfl)
    obtain ⟨B, hB, hB1, hB2, hB3, hB4⟩ := slot_box (x := .int .i64 0) (r := 2) (k := 3) (e := 39) hm rfl rfl e6
    obtain rfl : z6 = _ := hB
    obtain ⟨cu, rfl, hcl, hcr⟩ := e30.clo_inv
    obtain ⟨c1, rfl⟩ : ∃ c1, cu = [c1] := by match cu, hcl with | [c1], _ => exact ⟨c1, rfl⟩
    obtain ⟨-, A1, us1, rfl, hrd1, hl1, hr1⟩ := (hcr 0 c1 _ rfl rfl).rop_inv
    obtain ⟨s1, rfl⟩ : ∃ s1, us1 = [s1] := by match us1, hl1 with | [s1], _ => exact ⟨s1, rfl⟩
    obtain ⟨g1, o1, eA, hS1, hcell1⟩ := hrd1 Nat.one_pos
    obtain rfl : A1 = _ := Option.some.inj eA
    have hc1' := hcell1 0 s1 rfl
    obtain ⟨-, A2, c2, sz2, us2, rfl, -, -, -, hrd2, hl2, hr2⟩ := (hr1 0 s1 _ rfl rfl).ro_inv
    have hlies := ro_lies hm.lt hrd2 hl2 hr2
    obtain ⟨-, A4, us4, rfl, hrd4, hl4, hr4⟩ := e4.rop_inv
    obtain ⟨g4, o4, eA4, hS4, hcell4⟩ := hrd4 (by rw [hl4]; exact Nat.succ_pos _)
    obtain rfl : A4 = _ := Option.some.inj eA4
    obtain ⟨y0, y1, y2, y3, y4, rfl⟩ : ∃ y0 y1 y2 y3 y4, us4 = [y0, y1, y2, y3, y4] := by match us4, hl4 with | [y0, y1, y2, y3, y4], _ => exact ⟨y0, y1, y2, y3, y4, rfl⟩
    obtain rfl : y0 = _ := (hr4 0 y0 _ rfl rfl).v_inv.1
    obtain rfl : y1 = _ := (hr4 1 y1 _ rfl rfl).v_inv.1
    obtain rfl : y2 = _ := (hr4 2 y2 _ rfl rfl).v_inv.1
    have p0 : wl.cell? ⟨g4, o4, none⟩ = some (.int .i64 p.plate.lead) := hcell4 0 _ rfl
    have p1 : wl.cell? ⟨g4, o4 + 1, none⟩ = some (.int .i64 p.plate.airline) := hcell4 1 _ rfl
    have p2 : wl.cell? ⟨g4, o4 + 2, none⟩ = some (.int .i64 p.plate.serial) := hcell4 2 _ rfl
    have hg4 : g4 < wl.heap.size := hm.lt _ hS4
    have hg4B : g4 ≠ B := fun e => hB4 (e ▸ hS4)
    have hg1 : g1 < wl.heap.size := hm.lt _ hS1
    have hkw : Kept (fun _ => True) w wl := hm.kept.mono fun _ _ _ => List.not_mem_nil
    have hBl : B < wl.heap.size := World.block_lt_of_cell? wl _ hB1
    rw [List.length_map] at hc1'
    have hll : h.log.length ≤ 1000 := hs.l
    have hle : ∀ x : Int, loadedB h.log p.plate = decide (x = 1) → loadErr h p n = if x = 1 then 5 else 0 := fun x hx => by
      unfold loadErr
      rw [if_neg hi, if_neg (by simpa [grantedB] using hg), hx]
      by_cases h1 : x = 1 <;> simp [h1]
    clear hn; clear hm he e6 e4 e30 hcr hr1 hr2 hr4 hl4 hcell4 hcell1 hrd1 hrd2 hrd4 hraw hl2 hl1 hcl hg hc2 hc1 hc hil hie hi
    refine (wpIn_wide (n := 5)).1 ?_
    refine wpIn_rangeFunc_ownH (F := Fence.wide) (n := 5) (α := Int × Op) rfl (by decide) (gf := 90) (lb := #[.pointer (some ⟨g1, o1, none⟩)]) rfl trivial en90 (C90s Fence.wide 4 trivial rfl (by decide) g1 o1 wl.heap.size c2 A2 h.log hll hg1 wl (Nat.le_refl _) hc1' hlies) belowK_t (belowK_b (Nat.le_refl _)) (Below.refl _ _) (fun _ => rfl)
      (ldI B wl p.plate)
      (ldX B wl p.plate)
      ?hI ?hIx ⟨Kept.refl _ _, hB1, hB2, fun x hx => by cases hx⟩
      (fun x a' W => ∃ Bx, wl.heap.size ≤ Bx ∧ W.heap[Bx]? = some (.cells x.2.vs.toArray 33 (0, 0)) ∧ a' = { tmps := #[z0, z1, z2, z3, .pointer (some ⟨g4, o4, none⟩), z5, .pointer (some ⟨B, 0, none⟩), z7, z8, .pointer (some ⟨Bx, 0, none⟩), z10, z11, z12, z13, z14, z15, z16, z17, z18, z19, z20, z21, z22, z23, z24, z25, z26, z27, z28, z29, .func (.func 90) #[] #[.pointer (some ⟨g1, o1, none⟩)], .int .i64 x.1, .agg x.2.vs.toArray, z33, z34, z35, z36, z37, z38, z39, z40, z41], defers := [] })
      ?hAx ?assign ?body ?done ?stop
    case hI =>
      rintro s W W' row ⟨h1, h2, h3, h4⟩ hgr hr
      exact ⟨h1.grown hgr fun k e => .inr (hr k e).1, cell_kept h2 hgr fun k e => (hr k e).2, (frozen_kept h2 hgr fun k e => (hr k e).2).trans h3, h4⟩
    case hIx =>
      rintro c s W W' row ⟨h1, h3, pre0, x, e1, e2, e3, h4⟩ hgr hr
      have key : ∀ v, W.cell? ⟨B, 0, none⟩ = some v → W'.cell? ⟨B, 0, none⟩ = some v ∧ W'.frozen? ⟨B, 0, none⟩ = false := fun v hv => ⟨cell_kept hv hgr fun k e => (hr k e).2, (frozen_kept hv hgr fun k e => (hr k e).2).trans h3⟩
      refine ⟨h1.grown hgr fun k e => .inr (hr k e).1, ?_, pre0, x, e1, e2, e3, ?_⟩
      · rcases h4 with ⟨_, _, h4⟩ | ⟨_, _, h4⟩ <;> exact (key _ h4).2
      · rcases h4 with ⟨q1, q2, h4⟩ | ⟨q1, q2, h4⟩
        · exact .inl ⟨q1, q2, (key _ h4).1⟩
        · exact .inr ⟨q1, q2, (key _ h4).1⟩
    case hAx =>
      rintro x a' s W W' row ⟨Bx, h1, h2, h3⟩ hgr hr
      exact ⟨Bx, h1, (grownBy_keeps_cells hgr (fun k e => (hr k e).2) h2 rfl).trans h2, h3⟩
    case assign =>
      rintro l pre x W K hI hK
      obtain ⟨k1, k2, k3, k4⟩ := hI
      gi_wp2
      exact hK _ _ ((KeepsOthers.alloc _ _).from _) ((Below.refl _ W).alloc k1.size _) ⟨k1.alloc _, cell_kept k2 (World.grownBy_alloc W _ none) (fun r e => by cases e), (frozen_kept k2 (World.grownBy_alloc W _ none) (fun r e => by cases e)).trans k3, k4⟩ ⟨W.heap.size, k1.size, World.alloc_heap_new W _, rfl⟩
    case body =>
      rintro l pre x a' W hl ⟨r, hr⟩ ⟨k1, k2, k3, k4⟩ ⟨Bx, hBx, bX, rfl⟩ hlt
      have q0 := k1.cell (p := ⟨g4, o4, none⟩) p0 hg4B
      have q1 := k1.cell (p := ⟨g4, o4 + 1, none⟩) p1 hg4B
      have q2 := k1.cell (p := ⟨g4, o4 + 2, none⟩) p2 hg4B
      have b3 : W.cell? ⟨Bx, 3, none⟩ = some (.int .i64 x.2.kind) := by simp [World.cell?, bX]
      have b5 : W.cell? ⟨Bx, 5, none⟩ = some (.int .i64 x.2.piece.plate.lead) := by simp [World.cell?, bX]
      have b6 : W.cell? ⟨Bx, 6, none⟩ = some (.int .i64 x.2.piece.plate.airline) := by simp [World.cell?, bX]
      have b7 : W.cell? ⟨Bx, 7, none⟩ = some (.int .i64 x.2.piece.plate.serial) := by simp [World.cell?, bX]
      clear hr bX hlies p0 p1 p2 hc1'
      have hpl : x.2.piece.plate = p.plate ↔ x.2.piece.plate.lead = p.plate.lead ∧ x.2.piece.plate.airline = p.plate.airline ∧ x.2.piece.plate.serial = p.plate.serial := by
        rcases x.2.piece.plate with ⟨a1, a2, a3⟩
        rcases p.plate with ⟨d1, d2, d3⟩
        simp
      by_cases e1 : x.2.piece.plate.lead = p.plate.lead
      · by_cases e2 : x.2.piece.plate.airline = p.plate.airline
        · by_cases e3 : x.2.piece.plate.serial = p.plate.serial
          · by_cases hk : x.2.kind = 1
            · gi_wp2
              exact ⟨(KeepsOthers.setCell _ _ _).from _, k1.setCell (.inl fun h => h rfl) _, by rw [World.frozen?_setCell]; exact k3, pre, x, rfl, k4, hpl.2 ⟨e1, e2, e3⟩, .inl ⟨rfl, hk, World.cell?_setCell_same' _ _ _ (by rw [k2]; rfl)⟩⟩
            · gi_wp2
              exact ⟨KeepsFrom.refl _ _, k1, k3, pre, x, rfl, k4, hpl.2 ⟨e1, e2, e3⟩, .inr ⟨rfl, hk, k2⟩⟩
          · have hgo : ldI B wl p.plate (pre ++ [x]) W := ⟨k1, k2, k3, fun y hy => by
              rcases List.mem_append.1 hy with hy | hy
              · exact k4 y hy
              · rw [List.mem_singleton.1 hy]; exact fun h => e3 (hpl.1 h).2.2⟩
            gi_wp2
            exact ⟨KeepsFrom.refl _ _, Below.refl _ _, hgo⟩
        · have hgo : ldI B wl p.plate (pre ++ [x]) W := ⟨k1, k2, k3, fun y hy => by
            rcases List.mem_append.1 hy with hy | hy
            · exact k4 y hy
            · rw [List.mem_singleton.1 hy]; exact fun h => e2 (hpl.1 h).2.1⟩
          gi_wp2
          exact ⟨KeepsFrom.refl _ _, Below.refl _ _, hgo⟩
      · have hgo : ldI B wl p.plate (pre ++ [x]) W := ⟨k1, k2, k3, fun y hy => by
          rcases List.mem_append.1 hy with hy | hy
          · exact k4 y hy
          · rw [List.mem_singleton.1 hy]; exact fun h => e1 (hpl.1 h).1⟩
        gi_wp2
        exact ⟨KeepsFrom.refl _ _, Below.refl _ _, hgo⟩
    case done =>
      rintro D ys W hD rfl ⟨k1, k2, k3, k4⟩ hK
      have hv : loadErr h p n = 0 := (hle 0 (by rw [loaded_none fun j hj => k4 _ (uptoL_mem hj)]; rfl)).trans rfl
      refine (?_ : Code.wp _ _ _ _ _)
      refine (wpIn_wide (n := 5)).1 ?_
      have hK2 := (KeepsOthers.setCell W ⟨B, 0, none⟩ (.int .i64 0)).same D _ hK rfl
      have hc2 : (W.setCell ⟨B, 0, none⟩ (.int .i64 0)).cell? ⟨B, 0, none⟩ = some (.int .i64 0) := World.cell?_setCell_same' _ _ _ (by rw [k2]; rfl)
      gi_wp2
      obtain ⟨r1, r2⟩ := load_fin (S := S) (B := B) (tm := #[z0, z1, z2, z3, .pointer (some ⟨g4, o4, none⟩), z5, .pointer (some ⟨B, 0, none⟩), z7, z8, z9, z10, z11, z12, z13, z14, z15, z16, z17, z18, z19, z20, z21, z22, z23, z24, z25, z26, z27, z28, z29, .func (.func 90) #[] #[.pointer (some ⟨g1, o1, none⟩)], z31, z32, z33, z34, z35, z36, z37, z38, z39, z40, z41]) rfl ((Kept.then hkw k1 fun i hi _ => by have : w.heap.size ≤ B := hB3; show i ≠ B; omega).setCell (p := ⟨B, 0, none⟩) (.inr hB3) (.int .i64 0)) (by have := hkw.size; omega) hK2 hc2
      exact ⟨by simp, .inl ⟨_, _, rfl, run_takeDeferred hK2, _, r1, [_], rfl, _, _, r2⟩⟩
    case stop =>
      rintro D c pre W hD ⟨k, hk, hpre⟩ ⟨k1, k3, pre0, x, e1, e2, e3, h4⟩ hK
      rw [e1] at hpre
      obtain ⟨m, rfl, rfl, rfl⟩ := uptoL_snoc hpre
      have hla := loaded_at (xs := h.log) (p := p.plate) (k := m) (by omega) (fun j hj => e2 _ (uptoL_mem hj)) e3
      rcases h4 with ⟨rfl, q2, q3⟩ | ⟨rfl, q2, q3⟩
      · have hv : loadErr h p n = 5 := (hle (bkw h.log m).2.kind hla).trans (if_pos q2)
        gi_wp2
        obtain ⟨r1, r2⟩ := load_fin (S := S) (B := B) (tm := #[z0, z1, z2, z3, .pointer (some ⟨g4, o4, none⟩), z5, .pointer (some ⟨B, 0, none⟩), z7, z8, z9, z10, z11, z12, z13, z14, z15, z16, z17, z18, z19, z20, z21, z22, z23, z24, z25, z26, z27, z28, z29, .func (.func 90) #[] #[.pointer (some ⟨g1, o1, none⟩)], z31, z32, z33, z34, z35, z36, z37, z38, z39, z40, z41]) rfl (Kept.then hkw k1 fun i hi _ => by have : w.heap.size ≤ B := hB3; show i ≠ B; omega) (by have := hkw.size; omega) hK q3
        exact ⟨by simp, .inl ⟨_, _, rfl, run_takeDeferred hK, _, r1, [_], rfl, _, _, r2⟩⟩
      · have hv : loadErr h p n = 0 := (hle (bkw h.log m).2.kind hla).trans (if_neg q2)
        have hK2 := (KeepsOthers.setCell W ⟨B, 0, none⟩ (.int .i64 0)).same D _ hK rfl
        have hc2 : (W.setCell ⟨B, 0, none⟩ (.int .i64 0)).cell? ⟨B, 0, none⟩ = some (.int .i64 0) := World.cell?_setCell_same' _ _ _ (by rw [q3]; rfl)
        gi_wp2
        refine (wpIn_wide (n := 5)).1 ?_
        gi_wp2
        obtain ⟨r1, r2⟩ := load_fin (S := S) (B := B) (tm := #[z0, z1, z2, z3, .pointer (some ⟨g4, o4, none⟩), z5, .pointer (some ⟨B, 0, none⟩), z7, z8, z9, z10, z11, z12, z13, z14, z15, z16, z17, z18, z19, z20, z21, z22, z23, z24, z25, z26, z27, z28, z29, .func (.func 90) #[] #[.pointer (some ⟨g1, o1, none⟩)], z31, z32, z33, z34, z35, z36, z37, z38, z39, z40, z41]) rfl ((Kept.then hkw k1 fun i hi _ => by have : w.heap.size ≤ B := hB3; show i ≠ B; omega).setCell (p := ⟨B, 0, none⟩) (.inr hB3) (.int .i64 0)) (by have := hkw.size; omega) hK2 hc2
        exact ⟨by simp, .inl ⟨_, _, rfl, run_takeDeferred hK2, _, r1, [_], rfl, _, _, r2⟩⟩
end Go.Proofs.Ytdnofpggdddimaa
namespace Go.Proofs.Ytdnofpggdddimaa
open Go.RowKit
set_option linter.unusedSimpArgs false
set_option linter.unusedVariables false
set_option maxRecDepth 100000
abbrev zeroH : Hand := ⟨0, 0, 0, false, [], [], []⟩
abbrev zeroO : Op := default
def scanE (h : Hand) (k : Int) (p : Piece) (n t : Int) : Int :=
  if valH h ≠ 0 then valH h
  else if !decide (k = 1) && !decide (k = 2) then 4
  else if (!piB p || !inB n 1 999) || !inB t 0 1048576 then 1
  else if t < h.last then 9
  else if decide (h.next = 1048576) || (h.offline && decide ((h.log.length : Int) = 60)) then 2
  else if h.offline && decide (k = 1) then loadErr h p n else 0
end Go.Proofs.Ytdnofpggdddimaa
namespace Go.Proofs.Ytdnofpggdddimaa
open Go.RowKit
set_option linter.unusedSimpArgs false
set_option linter.unusedVariables false
set_option maxRecDepth 100000
theorem C58 {e : Int} : Fn Try.prog 58 [] [.v (.int .i64 e)] [.agg zeroH.av, .agg zeroO.av, .v (.int .i64 e)] [] := by
  refine Spec.body Try.func58 rfl Try.ntmps58 (by simp) rfl ?_; intro S0 own0 v0 w0
  (refine AW.seq_k ?_; intro K hK)
  refine AW.region ?_
  refine awJ (op_alloc rfl ze26 rfl) ?_; (try simp only [nA, Nat.reduceBEq, Nat.reduceEqDiff, ↓reduceIte, Nat.reduceAdd, Nat.reduceSub])
  refine awJ (op_alloc rfl ze33 rfl) ?_; (try simp only [nA, Nat.reduceBEq, Nat.reduceEqDiff, ↓reduceIte, Nat.reduceAdd, Nat.reduceSub])
  refine awP (op_assign rfl rfl) ?_
  refine AWL.nil ?_
  (refine hK _ ?_; clear hK K; (try simp only [nA, Nat.reduceBEq, Nat.reduceEqDiff, ↓reduceIte, Nat.reduceAdd, Nat.reduceSub]))
  (refine AW.seq_k ?_; intro K hK)
  refine AW.region ?_
  refine awP (op_build2 (xs := [.v (.int .i64 0), .v (.int .i64 0), .v (.int .i64 0), .v (.bool false), .v (.slice none 0 0), .v (.slice none 0 0), .v (.slice none 0 0)]) rfl pl26 ze26 [] rfl rfl rfl) ?_
  refine awP (op_build2 (xs := [.v (.int .i64 0), .v (.int .i64 0), .v (.int .i64 0), .v (.int .i64 0), .v (.int .i64 0), .v (.int .i64 0), .v (.int .i64 0), .v (.int .i64 0), .v (.int .i64 0), .v (.int .i64 0)]) rfl pl33 ze33 [] rfl rfl rfl) ?_
  refine awP (op_move rfl rfl) ?_
  refine awJ (op_store rfl rfl rfl rfl rfl rfl sz26 rfl (Nat.le_of_ble_eq_true rfl) rfl) ?_; (try simp only [nA, Nat.reduceBEq, Nat.reduceEqDiff, ↓reduceIte, Nat.reduceAdd, Nat.reduceSub])
  refine awJ (op_store rfl rfl rfl rfl rfl rfl sz33 rfl (Nat.le_of_ble_eq_true rfl) rfl) ?_; (try simp only [nA, Nat.reduceBEq, Nat.reduceEqDiff, ↓reduceIte, Nat.reduceAdd, Nat.reduceSub])
  refine awP (op_assign rfl rfl) ?_
  refine AWL.nil ?_
  (refine hK _ ?_; clear hK K; (try simp only [nA, Nat.reduceBEq, Nat.reduceEqDiff, ↓reduceIte, Nat.reduceAdd, Nat.reduceSub]))
  refine AW.gh (Gh.cell0 (r := 0) (A := none) (c := 0) (row := [.v (.int .i64 0), .v (.int .i64 0), .v (.int .i64 0), .v (.bool false), .v (.slice none 0 0), .v (.slice none 0 0), .v (.slice none 0 0)]) 0 4 rfl rfl rfl (by decide) rfl) ?_; refine AW.gh (Gh.cell0 (r := 0) (A := none) (c := 0) (row := [.v (.int .i64 0), .v (.int .i64 0), .v (.int .i64 0), .v (.bool false), .ro [], .v (.slice none 0 0), .v (.slice none 0 0)]) 0 5 rfl rfl rfl (by decide) rfl) ?_; refine AW.gh (Gh.cell0 (r := 0) (A := none) (c := 0) (row := [.v (.int .i64 0), .v (.int .i64 0), .v (.int .i64 0), .v (.bool false), .ro [], .ro [], .v (.slice none 0 0)]) 0 6 rfl rfl rfl (by decide) rfl) ?_; (try simp only [nA, Nat.reduceBEq, Nat.reduceEqDiff, ↓reduceIte, Nat.reduceAdd, Nat.reduceSub])
  refine AW.ret ?_; (try simp only [thenE, inBlk, Nat.reduceEqDiff, ↓reduceIte]); exact RQ.of0 rfl (.cell (Nat.le_of_ble_eq_true rfl) rfl rfl rfl ag26 sz26 (Nat.le_of_ble_eq_true rfl) rfl rfl (.cell (Nat.le_of_ble_eq_true rfl) rfl rfl rfl ag33 sz33 (Nat.le_of_ble_eq_true rfl) rfl rfl (.tmp (Nat.le_of_ble_eq_true rfl) rfl rfl .nil)))
def newOp (h : Hand) (k : Int) (p : Piece) (n t : Int) : Op := ⟨t, h.number, h.next, k, n, p⟩
def scanH (h : Hand) (k : Int) (p : Piece) (n t : Int) : Hand := ⟨h.number, h.next + 1, t, h.offline, h.grants, h.conts.map bareC, if h.offline then h.log ++ [newOp h k p n t] else h.log⟩
def scanR (h : Hand) (k : Int) (p : Piece) (n t : Int) : Hand × Op × Int := if scanE h k p n t = 0 then (scanH h k p n t, newOp h k p n t, 0) else (zeroH, zeroO, scanE h k p n t)
theorem scan_err {h : Hand} {k : Int} {p : Piece} {n t e : Int} (he : scanE h k p n t = e) (h0 : e ≠ 0) : scanR h k p n t = (zeroH, zeroO, e) := by
  unfold scanR
  rw [if_neg (by rw [he]; exact h0), he]
theorem scan_on {h : Hand} {k : Int} {p : Piece} {n t : Int} (he : scanE h k p n t = 0) (ho : h.offline = true) : scanR h k p n t = (⟨h.number, h.next + 1, t, h.offline, h.grants, h.conts.map bareC, h.log ++ [newOp h k p n t]⟩, newOp h k p n t, 0) := by
  unfold scanR scanH
  rw [if_pos he, if_pos ho]
theorem scan_off {h : Hand} {k : Int} {p : Piece} {n t : Int} (he : scanE h k p n t = 0) (ho : h.offline = false) : scanR h k p n t = (⟨h.number, h.next + 1, t, h.offline, h.grants, h.conts.map bareC, h.log⟩, newOp h k p n t, 0) := by
  unfold scanR scanH
  rw [if_pos he, if_neg (by rw [ho]; decide)]
theorem scan_val {h : Hand} {k : Int} {p : Piece} {n t : Int} (he : scanE h k p n t = 0) : valH h = 0 := by
  by_cases hv : valH h = 0
  · exact hv
  · unfold scanE at he
    rw [if_pos hv] at he
    exact absurd he hv
theorem val_parts {h : Hand} (hv : valH h = 0) : numB h = true ∧ barB h = true ∧ grsB h.grants = true ∧ empB h.conts = true ∧ logB h = true := by
  unfold valH at hv
  by_cases hb : ((((numB h && barB h) && grsB h.grants) && empB h.conts) && logB h) = true
  · simp only [Bool.and_eq_true] at hb
    exact ⟨hb.1.1.1.1, hb.1.1.1.2, hb.1.1.2, hb.1.2, hb.2⟩
  · rw [if_neg hb] at hv; cases hv
theorem C26 {h : Hand} {k n t : Int} {p : Piece} (hs : h.Sm) : Fn Try.prog 26 [] [.agg h.av, .v (.int .i64 k), .agg p.av, .v (.int .i64 n), .v (.int .i64 t)] [.agg (scanR h k p n t).1.av, .agg (scanR h k p n t).2.1.av, .v (.int .i64 (scanR h k p n t).2.2)] [] := by
  refine Spec.body Try.func26 rfl Try.ntmps26 (by simp) rfl ?_; intro S0 own0 v0 w0
  (refine AW.seq_k ?_; intro K hK)
  refine AW.region ?_
  refine awJ (op_box rfl rfl rfl sz26 rfl) ?_; (try simp only [nA, Nat.reduceBEq, Nat.reduceEqDiff, ↓reduceIte, Nat.reduceAdd, Nat.reduceSub])
  refine awJ (op_box rfl rfl rfl sz31 rfl) ?_; (try simp only [nA, Nat.reduceBEq, Nat.reduceEqDiff, ↓reduceIte, Nat.reduceAdd, Nat.reduceSub])
  refine awJ (op_alloc rfl ze26 rfl) ?_; (try simp only [nA, Nat.reduceBEq, Nat.reduceEqDiff, ↓reduceIte, Nat.reduceAdd, Nat.reduceSub])
  refine awJ (op_alloc rfl ze33 rfl) ?_; (try simp only [nA, Nat.reduceBEq, Nat.reduceEqDiff, ↓reduceIte, Nat.reduceAdd, Nat.reduceSub])
  refine awP (op_assign rfl rfl) ?_
  refine AWL.nil ?_
  (refine hK _ ?_; clear hK K; (try simp only [nA, Nat.reduceBEq, Nat.reduceEqDiff, ↓reduceIte, Nat.reduceAdd, Nat.reduceSub]))
  (refine AW.seq_k ?_; intro K hK)
  refine AW.region ?_
  refine awP (op_assign rfl rfl) ?_
  refine AWL.nil ?_
  (refine hK _ ?_; clear hK K; (try simp only [nA, Nat.reduceBEq, Nat.reduceEqDiff, ↓reduceIte, Nat.reduceAdd, Nat.reduceSub]))
  (refine AW.seq_k ?_; intro K hK)
  (refine AW.seq_k ?_; intro K hK)
  refine AW.region ?_
  (first | refine awR (op_load_ptr rfl rfl rfl rfl ag26 sz26 (Nat.le_of_ble_eq_true rfl) rfl) ?_ | refine awR (op_load_rop rfl rfl ag26 sz26 (Nat.le_of_ble_eq_true rfl) (by decide) rfl) ?_)
  refine awJ (OpQ.j (op_callQ (b := true) rfl en18 (C18 (h := h) hs) (RL.cons (by first | exact View.same rfl | exact View.nil | exact View.rof | exact View.src .ro | exact View.src .rof | exact View.src (.sl rfl rfl) | exact View.ptr rfl rfl rfl) (RL.nil)) rfl)) ?_; (try simp only [nA, Nat.reduceBEq, Nat.reduceEqDiff, ↓reduceIte, Nat.reduceAdd, Nat.reduceSub])
  refine awP (op_assign rfl rfl) ?_
  refine AWL.nil ?_
  (refine hK _ ?_; clear hK K; (try simp only [nA, Nat.reduceBEq, Nat.reduceEqDiff, ↓reduceIte, Nat.reduceAdd, Nat.reduceSub]))
  (refine AW.seq_k ?_; intro K hK)
  refine AW.region ?_
  refine awP (op_move rfl rfl) ?_
  (first | refine awP (op_neq rfl rfl rfl) ?_ | refine awP (op_sneq rfl rfl rfl) ?_)
  refine AWL.nil ?_
  (refine hK _ ?_; clear hK K; (try simp only [nA, Nat.reduceBEq, Nat.reduceEqDiff, ↓reduceIte, Nat.reduceAdd, Nat.reduceSub]))
  refine AW.cond rfl rfl rfl (fun hc => ?_) (fun hc => ?_)
  ·
   (skip); have hc1 := hc; have g1 : valH h ≠ 0 := (by simpa using hc1)
   (refine AW.seq_k ?_; intro K hK)
   refine AW.region ?_
   refine awP (op_move rfl rfl) ?_
   refine awP (op_move rfl rfl) ?_
   refine awJ (op_valS (b := false) rfl rfl en58 (C58) (RL.cons (by first | exact View.same rfl | exact View.nil | exact View.rof | exact View.src .ro | exact View.src .rof | exact View.src (.sl rfl rfl) | exact View.ptr rfl rfl rfl) (RL.nil)) rfl (fun h => by cases h) rfl rfl) ?_; (try simp only [nA, Nat.reduceBEq, Nat.reduceEqDiff, ↓reduceIte, Nat.reduceAdd, Nat.reduceSub])
   refine awP (op_extract rfl rfl rfl) ?_
   refine awP (op_extract rfl rfl rfl) ?_
   refine awP (op_extract rfl rfl rfl) ?_
   refine awJ (op_store rfl rfl rfl rfl rfl rfl sz26 rfl (Nat.le_of_ble_eq_true rfl) rfl) ?_; (try simp only [nA, Nat.reduceBEq, Nat.reduceEqDiff, ↓reduceIte, Nat.reduceAdd, Nat.reduceSub])
   refine awJ (op_store rfl rfl rfl rfl rfl rfl sz33 rfl (Nat.le_of_ble_eq_true rfl) rfl) ?_; (try simp only [nA, Nat.reduceBEq, Nat.reduceEqDiff, ↓reduceIte, Nat.reduceAdd, Nat.reduceSub])
   refine awP (op_assign rfl rfl) ?_
   refine AWL.nil ?_
   (refine hK _ ?_; clear hK K; (try simp only [nA, Nat.reduceBEq, Nat.reduceEqDiff, ↓reduceIte, Nat.reduceAdd, Nat.reduceSub]))
   skip
   refine AW.ret ?_; (try simp only [thenE, inBlk, Nat.reduceEqDiff, ↓reduceIte]); rw [scan_err (e := valH h) (by unfold scanE; rw [if_pos g1]) g1]; exact RQ.of0 rfl (.cell (Nat.le_of_ble_eq_true rfl) rfl rfl rfl ag26 sz26 (Nat.le_of_ble_eq_true rfl) rfl rfl (.cell (Nat.le_of_ble_eq_true rfl) rfl rfl rfl ag33 sz33 (Nat.le_of_ble_eq_true rfl) rfl rfl (.tmp (Nat.le_of_ble_eq_true rfl) rfl rfl .nil)))
  ·
   (skip); have hc1 := hc; have g1 : ¬ (valH h ≠ 0) := (by simpa using hc1)
   refine AW.skip ?_
   (refine hK _ ?_; clear hK K; (try simp only [nA, Nat.reduceBEq, Nat.reduceEqDiff, ↓reduceIte, Nat.reduceAdd, Nat.reduceSub]))
   (refine AW.seq_k ?_; intro K hK)
   (refine AW.seq_k ?_; intro K hK)
   refine AW.region (AWL.quiet ?_)
   refine aqP (op_move rfl rfl) ?_
   (first | refine aqP (op_neq rfl rfl rfl) ?_ | refine aqP (op_sneq rfl rfl rfl) ?_)
   refine aqP (op_move rfl rfl) ?_
   refine' aqAnd' [_, _] [32,33] rfl rfl rfl rfl rfl rfl rfl rfl rfl rfl rfl rfl (fun hb => ?_) ?_; rotate_left
   ·
    (try simp only [hcS] at hb)
    refine aqP (op_move rfl rfl) ?_
    (first | refine aqP (op_neq rfl rfl rfl) ?_ | refine aqP (op_sneq rfl rfl rfl) ?_)
    (refine aqSeg rfl rfl rfl ?_; repeat (first | exact fun _ _ => rfl | refine upd_out rfl ?_ | refine era_out rfl ?_))
   (try simp only [nA, Nat.reduceBEq, Nat.reduceEqDiff, ↓reduceIte, Nat.reduceAdd, Nat.reduceSub])
   refine AQ.nil ?_
   (refine hK _ ?_; clear hK K; (try simp only [nA, Nat.reduceBEq, Nat.reduceEqDiff, ↓reduceIte, Nat.reduceAdd, Nat.reduceSub]))
   refine AW.cond rfl rfl rfl (fun hc => ?_) (fun hc => ?_)
   ·
    (skip); have hc2 := hc; skip
    (refine AW.seq_k ?_; intro K hK)
    refine AW.region ?_
    refine awP (op_move rfl rfl) ?_
    refine awJ (op_valS (b := false) rfl rfl en58 (C58) (RL.cons (by first | exact View.same rfl | exact View.nil | exact View.rof | exact View.src .ro | exact View.src .rof | exact View.src (.sl rfl rfl) | exact View.ptr rfl rfl rfl) (RL.nil)) rfl (fun h => by cases h) rfl rfl) ?_; (try simp only [nA, Nat.reduceBEq, Nat.reduceEqDiff, ↓reduceIte, Nat.reduceAdd, Nat.reduceSub])
    refine awP (op_extract rfl rfl rfl) ?_
    refine awP (op_extract rfl rfl rfl) ?_
    refine awP (op_extract rfl rfl rfl) ?_
    refine awJ (op_store rfl rfl rfl rfl rfl rfl sz26 rfl (Nat.le_of_ble_eq_true rfl) rfl) ?_; (try simp only [nA, Nat.reduceBEq, Nat.reduceEqDiff, ↓reduceIte, Nat.reduceAdd, Nat.reduceSub])
    refine awJ (op_store rfl rfl rfl rfl rfl rfl sz33 rfl (Nat.le_of_ble_eq_true rfl) rfl) ?_; (try simp only [nA, Nat.reduceBEq, Nat.reduceEqDiff, ↓reduceIte, Nat.reduceAdd, Nat.reduceSub])
    refine awP (op_assign rfl rfl) ?_
    refine AWL.nil ?_
    (refine hK _ ?_; clear hK K; (try simp only [nA, Nat.reduceBEq, Nat.reduceEqDiff, ↓reduceIte, Nat.reduceAdd, Nat.reduceSub]))
    skip
    refine AW.ret ?_; (try simp only [thenE, inBlk, Nat.reduceEqDiff, ↓reduceIte]); rw [scan_err (e := 4) (by unfold scanE; rw [if_neg g1, if_pos hc2]) (by decide)]; exact RQ.of0 rfl (.cell (Nat.le_of_ble_eq_true rfl) rfl rfl rfl ag26 sz26 (Nat.le_of_ble_eq_true rfl) rfl rfl (.cell (Nat.le_of_ble_eq_true rfl) rfl rfl rfl ag33 sz33 (Nat.le_of_ble_eq_true rfl) rfl rfl (.tmp (Nat.le_of_ble_eq_true rfl) rfl rfl .nil)))
   ·
    (skip); have hc2 := hc; have g2 : ¬ ((!decide (k = 1) && !decide (k = 2)) = true) := (by rw [show (!decide (k = 1) && !decide (k = 2)) = false from hc2]; decide)
    refine AW.skip ?_
    (refine hK _ ?_; clear hK K; (try simp only [nA, Nat.reduceBEq, Nat.reduceEqDiff, ↓reduceIte, Nat.reduceAdd, Nat.reduceSub]))
    (refine AW.seq_k ?_; intro K hK)
    (refine AW.seq_k ?_; intro K hK)
    refine AW.region (AWL.quiet ?_)
    (first | refine aqR (op_load_ptr rfl rfl rfl rfl ag31 sz31 (Nat.le_of_ble_eq_true rfl) rfl) ?_ | refine aqR (op_load_rop rfl rfl ag31 sz31 (Nat.le_of_ble_eq_true rfl) (by decide) rfl) ?_)
    refine aqQ (op_callQ (b := true) rfl en54 (C54 (p := p)) (RL.cons (by first | exact View.same rfl | exact View.nil | exact View.rof | exact View.src .ro | exact View.src .rof | exact View.src (.sl rfl rfl) | exact View.ptr rfl rfl rfl) (RL.nil)) rfl) ?_; (try simp only [nA, Nat.reduceBEq, Nat.reduceEqDiff, ↓reduceIte, Nat.reduceAdd, Nat.reduceSub])
    refine aqP (op_not rfl rfl rfl) ?_
    refine aqP (op_move rfl rfl) ?_
    refine' aqOr' [_, _, _] [44,45,46] rfl rfl rfl rfl rfl rfl rfl rfl rfl rfl rfl rfl (fun hb => ?_) ?_; rotate_left
    ·
     (try simp only [hcS] at hb)
     refine aqP (op_move rfl rfl) ?_
     refine aqQ (op_callQ (b := true) rfl en43 (C43) (RL.cons (by first | exact View.same rfl | exact View.nil | exact View.rof | exact View.src .ro | exact View.src .rof | exact View.src (.sl rfl rfl) | exact View.ptr rfl rfl rfl) (RL.cons (by first | exact View.same rfl | exact View.nil | exact View.rof | exact View.src .ro | exact View.src .rof | exact View.src (.sl rfl rfl) | exact View.ptr rfl rfl rfl) (RL.cons (by first | exact View.same rfl | exact View.nil | exact View.rof | exact View.src .ro | exact View.src .rof | exact View.src (.sl rfl rfl) | exact View.ptr rfl rfl rfl) (RL.nil)))) rfl) ?_; (try simp only [nA, Nat.reduceBEq, Nat.reduceEqDiff, ↓reduceIte, Nat.reduceAdd, Nat.reduceSub])
     refine aqP (op_not rfl rfl rfl) ?_
     (refine aqSeg rfl rfl rfl ?_; repeat (first | exact fun _ _ => rfl | refine upd_out rfl ?_ | refine era_out rfl ?_))
    (try simp only [nA, Nat.reduceBEq, Nat.reduceEqDiff, ↓reduceIte, Nat.reduceAdd, Nat.reduceSub])
    refine aqP (op_move rfl rfl) ?_
    refine' aqOr' [_, _, _] [49,50,51] rfl rfl rfl rfl rfl rfl rfl rfl rfl rfl rfl rfl (fun hb => ?_) ?_; rotate_left
    ·
     (try simp only [hcS] at hb)
     refine aqP (op_move rfl rfl) ?_
     refine aqQ (op_callQ (b := true) rfl en43 (C43) (RL.cons (by first | exact View.same rfl | exact View.nil | exact View.rof | exact View.src .ro | exact View.src .rof | exact View.src (.sl rfl rfl) | exact View.ptr rfl rfl rfl) (RL.cons (by first | exact View.same rfl | exact View.nil | exact View.rof | exact View.src .ro | exact View.src .rof | exact View.src (.sl rfl rfl) | exact View.ptr rfl rfl rfl) (RL.cons (by first | exact View.same rfl | exact View.nil | exact View.rof | exact View.src .ro | exact View.src .rof | exact View.src (.sl rfl rfl) | exact View.ptr rfl rfl rfl) (RL.nil)))) rfl) ?_; (try simp only [nA, Nat.reduceBEq, Nat.reduceEqDiff, ↓reduceIte, Nat.reduceAdd, Nat.reduceSub])
     refine aqP (op_not rfl rfl rfl) ?_
     (refine aqSeg rfl rfl rfl ?_; repeat (first | exact fun _ _ => rfl | refine upd_out rfl ?_ | refine era_out rfl ?_))
    (try simp only [nA, Nat.reduceBEq, Nat.reduceEqDiff, ↓reduceIte, Nat.reduceAdd, Nat.reduceSub])
    refine AQ.nil ?_
    (refine hK _ ?_; clear hK K; (try simp only [nA, Nat.reduceBEq, Nat.reduceEqDiff, ↓reduceIte, Nat.reduceAdd, Nat.reduceSub]))
    refine AW.cond rfl rfl rfl (fun hc => ?_) (fun hc => ?_)
    ·
     (skip); have hc3 := hc; skip
     (refine AW.seq_k ?_; intro K hK)
     refine AW.region ?_
     refine awP (op_move rfl rfl) ?_
     refine awJ (op_valS (b := false) rfl rfl en58 (C58) (RL.cons (by first | exact View.same rfl | exact View.nil | exact View.rof | exact View.src .ro | exact View.src .rof | exact View.src (.sl rfl rfl) | exact View.ptr rfl rfl rfl) (RL.nil)) rfl (fun h => by cases h) rfl rfl) ?_; (try simp only [nA, Nat.reduceBEq, Nat.reduceEqDiff, ↓reduceIte, Nat.reduceAdd, Nat.reduceSub])
     refine awP (op_extract rfl rfl rfl) ?_
     refine awP (op_extract rfl rfl rfl) ?_
     refine awP (op_extract rfl rfl rfl) ?_
     refine awJ (op_store rfl rfl rfl rfl rfl rfl sz26 rfl (Nat.le_of_ble_eq_true rfl) rfl) ?_; (try simp only [nA, Nat.reduceBEq, Nat.reduceEqDiff, ↓reduceIte, Nat.reduceAdd, Nat.reduceSub])
     refine awJ (op_store rfl rfl rfl rfl rfl rfl sz33 rfl (Nat.le_of_ble_eq_true rfl) rfl) ?_; (try simp only [nA, Nat.reduceBEq, Nat.reduceEqDiff, ↓reduceIte, Nat.reduceAdd, Nat.reduceSub])
     refine awP (op_assign rfl rfl) ?_
     refine AWL.nil ?_
     (refine hK _ ?_; clear hK K; (try simp only [nA, Nat.reduceBEq, Nat.reduceEqDiff, ↓reduceIte, Nat.reduceAdd, Nat.reduceSub]))
     skip
     refine AW.ret ?_; (try simp only [thenE, inBlk, Nat.reduceEqDiff, ↓reduceIte]); rw [scan_err (e := 1) (by unfold scanE; rw [if_neg g1, if_neg g2, if_pos hc3]) (by decide)]; exact RQ.of0 rfl (.cell (Nat.le_of_ble_eq_true rfl) rfl rfl rfl ag26 sz26 (Nat.le_of_ble_eq_true rfl) rfl rfl (.cell (Nat.le_of_ble_eq_true rfl) rfl rfl rfl ag33 sz33 (Nat.le_of_ble_eq_true rfl) rfl rfl (.tmp (Nat.le_of_ble_eq_true rfl) rfl rfl .nil)))
    ·
     (skip); have hc3 := hc; have g3 : ¬ (((!piB p || !inB n 1 999) || !inB t 0 1048576) = true) := (by rw [show ((!piB p || !inB n 1 999) || !inB t 0 1048576) = false from hc3]; decide)
     refine AW.skip ?_
     (refine hK _ ?_; clear hK K; (try simp only [nA, Nat.reduceBEq, Nat.reduceEqDiff, ↓reduceIte, Nat.reduceAdd, Nat.reduceSub]))
     (refine AW.seq_k ?_; intro K hK)
     (refine AW.seq_k ?_; intro K hK)
     refine AW.region ?_
     refine awP (op_move rfl rfl) ?_
     (first | refine awP (op_fa_ptr rfl rfl rfl fl26_2 (by exact sz3) (by decide) rfl) ?_ | refine awP (op_fa_rop rfl rfl fl26_2 (by exact sz3) (by decide) (Nat.le_of_ble_eq_true rfl) rfl) ?_)
     (first | refine awR (op_load_ptr1 rfl rfl rfl rfl ag3 rfl rfl) ?_ | refine awR (op_load_rop1 rfl rfl ag3) ?_)
     refine awP (op_lss rfl rfl rfl) ?_
     refine AWL.nil ?_
     (refine hK _ ?_; clear hK K; (try simp only [nA, Nat.reduceBEq, Nat.reduceEqDiff, ↓reduceIte, Nat.reduceAdd, Nat.reduceSub]))
     refine AW.cond rfl rfl rfl (fun hc => ?_) (fun hc => ?_)
     ·
      (skip); have hc4 := hc; have g4 : t < h.last := (by simpa using hc4)
      (refine AW.seq_k ?_; intro K hK)
      refine AW.region ?_
      refine awP (op_move rfl rfl) ?_
      refine awJ (op_valS (b := false) rfl rfl en58 (C58) (RL.cons (by first | exact View.same rfl | exact View.nil | exact View.rof | exact View.src .ro | exact View.src .rof | exact View.src (.sl rfl rfl) | exact View.ptr rfl rfl rfl) (RL.nil)) rfl (fun h => by cases h) rfl rfl) ?_; (try simp only [nA, Nat.reduceBEq, Nat.reduceEqDiff, ↓reduceIte, Nat.reduceAdd, Nat.reduceSub])
      refine awP (op_extract rfl rfl rfl) ?_
      refine awP (op_extract rfl rfl rfl) ?_
      refine awP (op_extract rfl rfl rfl) ?_
      refine awJ (op_store rfl rfl rfl rfl rfl rfl sz26 rfl (Nat.le_of_ble_eq_true rfl) rfl) ?_; (try simp only [nA, Nat.reduceBEq, Nat.reduceEqDiff, ↓reduceIte, Nat.reduceAdd, Nat.reduceSub])
      refine awJ (op_store rfl rfl rfl rfl rfl rfl sz33 rfl (Nat.le_of_ble_eq_true rfl) rfl) ?_; (try simp only [nA, Nat.reduceBEq, Nat.reduceEqDiff, ↓reduceIte, Nat.reduceAdd, Nat.reduceSub])
      refine awP (op_assign rfl rfl) ?_
      refine AWL.nil ?_
      (refine hK _ ?_; clear hK K; (try simp only [nA, Nat.reduceBEq, Nat.reduceEqDiff, ↓reduceIte, Nat.reduceAdd, Nat.reduceSub]))
      skip
      refine AW.ret ?_; (try simp only [thenE, inBlk, Nat.reduceEqDiff, ↓reduceIte]); rw [scan_err (e := 9) (by unfold scanE; rw [if_neg g1, if_neg g2, if_neg g3, if_pos g4]) (by decide)]; exact RQ.of0 rfl (.cell (Nat.le_of_ble_eq_true rfl) rfl rfl rfl ag26 sz26 (Nat.le_of_ble_eq_true rfl) rfl rfl (.cell (Nat.le_of_ble_eq_true rfl) rfl rfl rfl ag33 sz33 (Nat.le_of_ble_eq_true rfl) rfl rfl (.tmp (Nat.le_of_ble_eq_true rfl) rfl rfl .nil)))
     ·
      (skip); have hc4 := hc; have g4 : ¬ (t < h.last) := (by simpa using hc4)
      refine AW.skip ?_
      (refine hK _ ?_; clear hK K; (try simp only [nA, Nat.reduceBEq, Nat.reduceEqDiff, ↓reduceIte, Nat.reduceAdd, Nat.reduceSub]))
      (refine AW.seq_k ?_; intro K hK)
      (refine AW.seq_k ?_; intro K hK)
      refine AW.region (AWL.quiet ?_)
      (first | refine aqP (op_fa_ptr rfl rfl rfl fl26_1 (by exact sz3) (by decide) rfl) ?_ | refine aqP (op_fa_rop rfl rfl fl26_1 (by exact sz3) (by decide) (Nat.le_of_ble_eq_true rfl) rfl) ?_)
      (first | refine aqR (op_load_ptr1 rfl rfl rfl rfl ag3 rfl rfl) ?_ | refine aqR (op_load_rop1 rfl rfl ag3) ?_)
      (first | refine aqP (op_eql rfl rfl rfl) ?_ | refine aqP (op_seql rfl rfl rfl) ?_)
      refine aqP (op_move rfl rfl) ?_
      refine' aqOrN' [_, _, _, _, _, _, _, _] [71,72,73,74,75,76,77,78] rfl rfl rfl rfl rfl rfl rfl rfl rfl rfl rfl rfl (fun hb => ?_) ?_; rotate_left
      ·
       (try simp only [hcS] at hb)
       (first | refine aqP (op_fa_ptr rfl rfl rfl fl26_3 (by exact sz4) (by decide) rfl) ?_ | refine aqP (op_fa_rop rfl rfl fl26_3 (by exact sz4) (by decide) (Nat.le_of_ble_eq_true rfl) rfl) ?_)
       (first | refine aqR (op_load_ptr1 rfl rfl rfl rfl ag4 rfl rfl) ?_ | refine aqR (op_load_rop1 rfl rfl ag4) ?_)
       refine aqP (op_move rfl rfl) ?_
       refine' aqAnd' [_, _, _, _] [74,75,76,77] rfl rfl rfl rfl rfl rfl rfl rfl rfl rfl rfl rfl (fun hb => ?_) ?_; rotate_left
       ·
        (try simp only [hcS] at hb)
        (first | refine aqP (op_fa_ptr rfl rfl rfl fl26_6 (by exact sz24) (by decide) rfl) ?_ | refine aqP (op_fa_rop rfl rfl fl26_6 (by exact sz24) (by decide) (Nat.le_of_ble_eq_true rfl) rfl) ?_)
        (first | refine aqR (op_load_ptr1 rfl rfl rfl rfl ag24 rfl rfl) ?_ | refine aqR (op_load_rop1 rfl rfl ag24) ?_)
        refine aqP (op_len_ro (n := h.log.length) rfl rfl Try.underlying24 (.inr (.inl ⟨_, rfl, by simp⟩))) ?_
        (first | refine aqP (op_eql rfl rfl rfl) ?_ | refine aqP (op_seql rfl rfl rfl) ?_)
        (refine aqSeg rfl rfl rfl ?_; repeat (first | exact fun _ _ => rfl | refine upd_out rfl ?_ | refine era_out rfl ?_))
       (try simp only [nA, Nat.reduceBEq, Nat.reduceEqDiff, ↓reduceIte, Nat.reduceAdd, Nat.reduceSub])
       (refine aqSeg rfl rfl rfl ?_; repeat (first | exact fun _ _ => rfl | refine upd_out rfl ?_ | refine era_out rfl ?_))
      (try simp only [nA, Nat.reduceBEq, Nat.reduceEqDiff, ↓reduceIte, Nat.reduceAdd, Nat.reduceSub])
      refine AQ.nil ?_
      (refine hK _ ?_; clear hK K; (try simp only [nA, Nat.reduceBEq, Nat.reduceEqDiff, ↓reduceIte, Nat.reduceAdd, Nat.reduceSub]))
      refine AW.cond rfl rfl rfl (fun hc => ?_) (fun hc => ?_)
      ·
       (skip); have hc5 := hc; skip
       (refine AW.seq_k ?_; intro K hK)
       refine AW.region ?_
       refine awP (op_move rfl rfl) ?_
       refine awJ (op_valS (b := false) rfl rfl en58 (C58) (RL.cons (by first | exact View.same rfl | exact View.nil | exact View.rof | exact View.src .ro | exact View.src .rof | exact View.src (.sl rfl rfl) | exact View.ptr rfl rfl rfl) (RL.nil)) rfl (fun h => by cases h) rfl rfl) ?_; (try simp only [nA, Nat.reduceBEq, Nat.reduceEqDiff, ↓reduceIte, Nat.reduceAdd, Nat.reduceSub])
       refine awP (op_extract rfl rfl rfl) ?_
       refine awP (op_extract rfl rfl rfl) ?_
       refine awP (op_extract rfl rfl rfl) ?_
       refine awJ (op_store rfl rfl rfl rfl rfl rfl sz26 rfl (Nat.le_of_ble_eq_true rfl) rfl) ?_; (try simp only [nA, Nat.reduceBEq, Nat.reduceEqDiff, ↓reduceIte, Nat.reduceAdd, Nat.reduceSub])
       refine awJ (op_store rfl rfl rfl rfl rfl rfl sz33 rfl (Nat.le_of_ble_eq_true rfl) rfl) ?_; (try simp only [nA, Nat.reduceBEq, Nat.reduceEqDiff, ↓reduceIte, Nat.reduceAdd, Nat.reduceSub])
       refine awP (op_assign rfl rfl) ?_
       refine AWL.nil ?_
       (refine hK _ ?_; clear hK K; (try simp only [nA, Nat.reduceBEq, Nat.reduceEqDiff, ↓reduceIte, Nat.reduceAdd, Nat.reduceSub]))
       skip
       refine AW.ret ?_; (try simp only [thenE, inBlk, Nat.reduceEqDiff, ↓reduceIte]); rw [scan_err (e := 2) (by unfold scanE; rw [if_neg g1, if_neg g2, if_neg g3, if_neg g4, if_pos hc5]) (by decide)]; exact RQ.of0 rfl (.cell (Nat.le_of_ble_eq_true rfl) rfl rfl rfl ag26 sz26 (Nat.le_of_ble_eq_true rfl) rfl rfl (.cell (Nat.le_of_ble_eq_true rfl) rfl rfl rfl ag33 sz33 (Nat.le_of_ble_eq_true rfl) rfl rfl (.tmp (Nat.le_of_ble_eq_true rfl) rfl rfl .nil)))
      ·
       (skip); have hc5 := hc; have g5 : ¬ ((decide (h.next = 1048576) || (h.offline && decide ((h.log.length : Int) = 60))) = true) := (by rw [show (decide (h.next = 1048576) || (h.offline && decide ((h.log.length : Int) = 60))) = false from hc5]; decide)
       refine AW.skip ?_
       (refine hK _ ?_; clear hK K; (try simp only [nA, Nat.reduceBEq, Nat.reduceEqDiff, ↓reduceIte, Nat.reduceAdd, Nat.reduceSub]))
       refine AW.join (ι := Unit) (fun _ => [(1, .v (.int .i64 k)), (3, .v (.int .i64 n)), (4, .v (.int .i64 t)), (5, .ptr 0 1 0 0), (7, .ptr 1 2 0 0), (10, .ptr 2 3 0 0), (11, .ptr 3 4 0 0)]) (fun _ => ⟨[(1, .own 26 [h.av]), (2, .own 31 [p.av]), (3, .own 26 [[.v (.int .i64 0), .v (.int .i64 0), .v (.int .i64 0), .v (.bool false), .v (.slice none 0 0), .v (.slice none 0 0), .v (.slice none 0 0)]]), (4, .own 33 [zeroO.av])], 5⟩) (fun _ => scanE h k p n t = 0) ?_ ?_
       ·
        (refine AW.seq_k ?_; intro K hK)
        refine AW.region (AWL.quiet ?_)
        (first | refine aqP (op_fa_ptr rfl rfl rfl fl26_3 (by exact sz4) (by decide) rfl) ?_ | refine aqP (op_fa_rop rfl rfl fl26_3 (by exact sz4) (by decide) (Nat.le_of_ble_eq_true rfl) rfl) ?_)
        (first | refine aqR (op_load_ptr1 rfl rfl rfl rfl ag4 rfl rfl) ?_ | refine aqR (op_load_rop1 rfl rfl ag4) ?_)
        refine aqP (op_move rfl rfl) ?_
        refine' aqAnd' [_, _] [88,89] rfl rfl rfl rfl rfl rfl rfl rfl rfl rfl rfl rfl (fun hb => ?_) ?_; rotate_left
        ·
         (try simp only [hcS] at hb)
         refine aqP (op_move rfl rfl) ?_
         (first | refine aqP (op_eql rfl rfl rfl) ?_ | refine aqP (op_seql rfl rfl rfl) ?_)
         (refine aqSeg rfl rfl rfl ?_; repeat (first | exact fun _ _ => rfl | refine upd_out rfl ?_ | refine era_out rfl ?_))
        (try simp only [nA, Nat.reduceBEq, Nat.reduceEqDiff, ↓reduceIte, Nat.reduceAdd, Nat.reduceSub])
        refine AQ.nil ?_
        (refine hK _ ?_; clear hK K; (try simp only [nA, Nat.reduceBEq, Nat.reduceEqDiff, ↓reduceIte, Nat.reduceAdd, Nat.reduceSub]))
        refine AW.cond rfl rfl rfl (fun hc => ?_) (fun hc => ?_)
        ·
         (skip); have hc6 := hc; skip
         (refine AW.seq_k ?_; intro K hK)
         refine AW.region ?_
         (first | refine awR (op_load_ptr rfl rfl rfl rfl ag26 sz26 (Nat.le_of_ble_eq_true rfl) rfl) ?_ | refine awR (op_load_rop rfl rfl ag26 sz26 (Nat.le_of_ble_eq_true rfl) (by decide) rfl) ?_)
         (first | refine awR (op_load_ptr rfl rfl rfl rfl ag31 sz31 (Nat.le_of_ble_eq_true rfl) rfl) ?_ | refine awR (op_load_rop rfl rfl ag31 sz31 (Nat.le_of_ble_eq_true rfl) (by decide) rfl) ?_)
         refine awP (op_move rfl rfl) ?_
         refine awJ (OpQ.j (op_callQ (b := true) rfl en59 (C59 (h := h) (p := p) (n := n) hs) (RL.cons (by first | exact View.same rfl | exact View.nil | exact View.rof | exact View.src .ro | exact View.src .rof | exact View.src (.sl rfl rfl) | exact View.ptr rfl rfl rfl) (RL.cons (by first | exact View.same rfl | exact View.nil | exact View.rof | exact View.src .ro | exact View.src .rof | exact View.src (.sl rfl rfl) | exact View.ptr rfl rfl rfl) (RL.cons (by first | exact View.same rfl | exact View.nil | exact View.rof | exact View.src .ro | exact View.src .rof | exact View.src (.sl rfl rfl) | exact View.ptr rfl rfl rfl) (RL.nil)))) rfl)) ?_; (try simp only [nA, Nat.reduceBEq, Nat.reduceEqDiff, ↓reduceIte, Nat.reduceAdd, Nat.reduceSub])
         refine awP (op_assign rfl rfl) ?_
         refine AWL.nil ?_
         (refine hK _ ?_; clear hK K; (try simp only [nA, Nat.reduceBEq, Nat.reduceEqDiff, ↓reduceIte, Nat.reduceAdd, Nat.reduceSub]))
         (refine AW.seq_k ?_; intro K hK)
         refine AW.region ?_
         refine awP (op_move rfl rfl) ?_
         (first | refine awP (op_neq rfl rfl rfl) ?_ | refine awP (op_sneq rfl rfl rfl) ?_)
         refine AWL.nil ?_
         (refine hK _ ?_; clear hK K; (try simp only [nA, Nat.reduceBEq, Nat.reduceEqDiff, ↓reduceIte, Nat.reduceAdd, Nat.reduceSub]))
         refine AW.cond rfl rfl rfl (fun hc => ?_) (fun hc => ?_)
         ·
          (skip); have hc7 := hc; skip
          (refine AW.seq_k ?_; intro K hK)
          refine AW.region ?_
          refine awP (op_move rfl rfl) ?_
          refine awP (op_move rfl rfl) ?_
          refine awJ (op_valS (b := false) rfl rfl en58 (C58) (RL.cons (by first | exact View.same rfl | exact View.nil | exact View.rof | exact View.src .ro | exact View.src .rof | exact View.src (.sl rfl rfl) | exact View.ptr rfl rfl rfl) (RL.nil)) rfl (fun h => by cases h) rfl rfl) ?_; (try simp only [nA, Nat.reduceBEq, Nat.reduceEqDiff, ↓reduceIte, Nat.reduceAdd, Nat.reduceSub])
          refine awP (op_extract rfl rfl rfl) ?_
          refine awP (op_extract rfl rfl rfl) ?_
          refine awP (op_extract rfl rfl rfl) ?_
          refine awJ (op_store rfl rfl rfl rfl rfl rfl sz26 rfl (Nat.le_of_ble_eq_true rfl) rfl) ?_; (try simp only [nA, Nat.reduceBEq, Nat.reduceEqDiff, ↓reduceIte, Nat.reduceAdd, Nat.reduceSub])
          refine awJ (op_store rfl rfl rfl rfl rfl rfl sz33 rfl (Nat.le_of_ble_eq_true rfl) rfl) ?_; (try simp only [nA, Nat.reduceBEq, Nat.reduceEqDiff, ↓reduceIte, Nat.reduceAdd, Nat.reduceSub])
          refine awP (op_assign rfl rfl) ?_
          refine AWL.nil ?_
          (refine hK _ ?_; clear hK K; (try simp only [nA, Nat.reduceBEq, Nat.reduceEqDiff, ↓reduceIte, Nat.reduceAdd, Nat.reduceSub]))
          skip
          refine AW.ret ?_; (try simp only [thenE, inBlk, Nat.reduceEqDiff, ↓reduceIte]); rw [scan_err (e := loadErr h p n) (by unfold scanE; rw [if_neg g1, if_neg g2, if_neg g3, if_neg g4, if_neg g5, if_pos hc6]) (by simpa using hc7)]; exact RQ.of0 rfl (.cell (Nat.le_of_ble_eq_true rfl) rfl rfl rfl ag26 sz26 (Nat.le_of_ble_eq_true rfl) rfl rfl (.cell (Nat.le_of_ble_eq_true rfl) rfl rfl rfl ag33 sz33 (Nat.le_of_ble_eq_true rfl) rfl rfl (.tmp (Nat.le_of_ble_eq_true rfl) rfl rfl .nil)))
         ·
          (skip); have hc7 := hc; skip
          refine AW.skip ?_
          refine ⟨(), (by unfold scanE; rw [if_neg g1, if_neg g2, if_neg g3, if_neg g4, if_neg g5, if_pos hc6]; simpa using hc7), ⟨rfl, rfl, rfl, rfl, rfl, rfl, rfl, trivial⟩, rfl, rfl⟩
        ·
         (skip); have hc6 := hc; have g6 : ¬ ((h.offline && decide (k = 1)) = true) := (by rw [show (h.offline && decide (k = 1)) = false from hc6]; decide)
         refine AW.skip ?_
         refine ⟨(), (by unfold scanE; rw [if_neg g1, if_neg g2, if_neg g3, if_neg g4, if_neg g5, if_neg g6]), ⟨rfl, rfl, rfl, rfl, rfl, rfl, rfl, trivial⟩, rfl, rfl⟩
       intro _ ρ hE; simp only [updL]; (try simp only [nA, Nat.reduceBEq, Nat.reduceEqDiff, ↓reduceIte, Nat.reduceAdd, Nat.reduceSub]); have hv := val_parts (scan_val hE); have hnx := num_next hv.1; have hll := hs.l; have hcn : (copyH h).next = h.next := rfl
       (refine AW.seq_k ?_; intro K hK)
       refine AW.region ?_
       refine awP (op_move rfl rfl) ?_
       (first | refine awP (op_fa_ptr rfl rfl rfl fl26_0 (by exact sz3) (by decide) rfl) ?_ | refine awP (op_fa_rop rfl rfl fl26_0 (by exact sz3) (by decide) (Nat.le_of_ble_eq_true rfl) rfl) ?_)
       (first | refine awR (op_load_ptr1 rfl rfl rfl rfl ag3 rfl rfl) ?_ | refine awR (op_load_rop1 rfl rfl ag3) ?_)
       (first | refine awP (op_fa_ptr rfl rfl rfl fl26_1 (by exact sz3) (by decide) rfl) ?_ | refine awP (op_fa_rop rfl rfl fl26_1 (by exact sz3) (by decide) (Nat.le_of_ble_eq_true rfl) rfl) ?_)
       (first | refine awR (op_load_ptr1 rfl rfl rfl rfl ag3 rfl rfl) ?_ | refine awR (op_load_rop1 rfl rfl ag3) ?_)
       refine awP (op_move rfl rfl) ?_
       refine awP (op_move rfl rfl) ?_
       (first | refine awR (op_load_ptr rfl rfl rfl rfl ag31 sz31 (Nat.le_of_ble_eq_true rfl) rfl) ?_ | refine awR (op_load_rop rfl rfl ag31 sz31 (Nat.le_of_ble_eq_true rfl) (by decide) rfl) ?_)
       refine awP (op_build2 (xs := [_, _, _, _, _, _, _, _, _, _]) rfl pl33 ze33 [(0, [_]), (1, [_]), (2, [_]), (3, [_]), (4, [_]), (5, [_, _, _, _, _])] rfl rfl rfl) ?_
       refine awJ (op_alloc rfl ze33 rfl) ?_; (try simp only [nA, Nat.reduceBEq, Nat.reduceEqDiff, ↓reduceIte, Nat.reduceAdd, Nat.reduceSub])
       refine awJ (op_store rfl rfl rfl rfl rfl rfl sz33 rfl (Nat.le_of_ble_eq_true rfl) rfl) ?_; (try simp only [nA, Nat.reduceBEq, Nat.reduceEqDiff, ↓reduceIte, Nat.reduceAdd, Nat.reduceSub])
       refine AWL.nil ?_
       (refine hK _ ?_; clear hK K; (try simp only [nA, Nat.reduceBEq, Nat.reduceEqDiff, ↓reduceIte, Nat.reduceAdd, Nat.reduceSub]))
       (refine AW.seq_k ?_; intro K hK)
       refine AW.region ?_
       (first | refine awR (op_load_ptr rfl rfl rfl rfl ag26 sz26 (Nat.le_of_ble_eq_true rfl) rfl) ?_ | refine awR (op_load_rop rfl rfl ag26 sz26 (Nat.le_of_ble_eq_true rfl) (by decide) rfl) ?_)
       refine awJ (op_call (b := false) rfl en60 (C60 (h := h) hs) (RL.cons (by first | exact View.same rfl | exact View.nil | exact View.rof | exact View.src .ro | exact View.src .rof | exact View.src (.sl rfl rfl) | exact View.ptr rfl rfl rfl) (RL.nil)) rfl (fun h => by cases h) rfl rfl) ?_; (try simp only [nA, Nat.reduceBEq, Nat.reduceEqDiff, ↓reduceIte, Nat.reduceAdd, Nat.reduceSub])
       refine awJ (op_alloc rfl ze26 rfl) ?_; (try simp only [nA, Nat.reduceBEq, Nat.reduceEqDiff, ↓reduceIte, Nat.reduceAdd, Nat.reduceSub])
       refine awJ (op_store rfl rfl rfl rfl rfl rfl sz26 rfl (Nat.le_of_ble_eq_true rfl) rfl) ?_; (try simp only [nA, Nat.reduceBEq, Nat.reduceEqDiff, ↓reduceIte, Nat.reduceAdd, Nat.reduceSub])
       refine AWL.nil ?_
       (refine hK _ ?_; clear hK K; (try simp only [nA, Nat.reduceBEq, Nat.reduceEqDiff, ↓reduceIte, Nat.reduceAdd, Nat.reduceSub]))
       (refine AW.seq_k ?_; intro K hK)
       refine AW.region ?_
       (first | refine awP (op_fa_ptr rfl rfl rfl fl26_1 (by exact sz3) (by decide) rfl) ?_ | refine awP (op_fa_rop rfl rfl fl26_1 (by exact sz3) (by decide) (Nat.le_of_ble_eq_true rfl) rfl) ?_)
       (first | refine awR (op_load_ptr1 rfl rfl rfl rfl ag3 rfl rfl) ?_ | refine awR (op_load_rop1 rfl rfl ag3) ?_)
       (first | refine awP (op_addi rfl rfl rfl (by omega)) ?_ | refine awP (op_add rfl rfl rfl rfl) ?_)
       (first | refine awP (op_fa_ptr rfl rfl rfl fl26_1 (by exact sz3) (by decide) rfl) ?_ | refine awP (op_fa_rop rfl rfl fl26_1 (by exact sz3) (by decide) (Nat.le_of_ble_eq_true rfl) rfl) ?_)
       refine awJ (op_store rfl rfl rfl rfl rfl rfl sz3 rfl (Nat.le_of_ble_eq_true rfl) rfl) ?_; (try simp only [nA, Nat.reduceBEq, Nat.reduceEqDiff, ↓reduceIte, Nat.reduceAdd, Nat.reduceSub])
       refine AWL.nil ?_
       (refine hK _ ?_; clear hK K; (try simp only [nA, Nat.reduceBEq, Nat.reduceEqDiff, ↓reduceIte, Nat.reduceAdd, Nat.reduceSub]))
       (refine AW.seq_k ?_; intro K hK)
       refine AW.region ?_
       refine awP (op_move rfl rfl) ?_
       (first | refine awP (op_fa_ptr rfl rfl rfl fl26_2 (by exact sz3) (by decide) rfl) ?_ | refine awP (op_fa_rop rfl rfl fl26_2 (by exact sz3) (by decide) (Nat.le_of_ble_eq_true rfl) rfl) ?_)
       refine awJ (op_store rfl rfl rfl rfl rfl rfl sz3 rfl (Nat.le_of_ble_eq_true rfl) rfl) ?_; (try simp only [nA, Nat.reduceBEq, Nat.reduceEqDiff, ↓reduceIte, Nat.reduceAdd, Nat.reduceSub])
       refine AWL.nil ?_
       (refine hK _ ?_; clear hK K; (try simp only [nA, Nat.reduceBEq, Nat.reduceEqDiff, ↓reduceIte, Nat.reduceAdd, Nat.reduceSub]))
       (refine AW.seq_k ?_; intro K hK)
       (refine AW.seq_k ?_; intro K hK)
       refine AW.region ?_
       (first | refine awP (op_fa_ptr rfl rfl rfl fl26_3 (by exact sz4) (by decide) rfl) ?_ | refine awP (op_fa_rop rfl rfl fl26_3 (by exact sz4) (by decide) (Nat.le_of_ble_eq_true rfl) rfl) ?_)
       (first | refine awR (op_load_ptr1 rfl rfl rfl rfl ag4 rfl rfl) ?_ | refine awR (op_load_rop1 rfl rfl ag4) ?_)
       refine AWL.nil ?_
       (refine hK _ ?_; clear hK K; (try simp only [nA, Nat.reduceBEq, Nat.reduceEqDiff, ↓reduceIte, Nat.reduceAdd, Nat.reduceSub]))
       refine AW.cond rfl rfl rfl (fun hc => ?_) (fun hc => ?_)
       ·
        (skip); have hc8 := hc; have ho : h.offline = true := hc8
        (refine AW.seq_k ?_; intro K hK)
        refine AW.region ?_
        (first | refine awP (op_fa_ptr rfl rfl rfl fl26_6 (by exact sz24) (by decide) rfl) ?_ | refine awP (op_fa_rop rfl rfl fl26_6 (by exact sz24) (by decide) (Nat.le_of_ble_eq_true rfl) rfl) ?_)
        (first | refine awR (op_load_ptr1 rfl rfl rfl rfl ag24 rfl rfl) ?_ | refine awR (op_load_rop1 rfl rfl ag24) ?_)
        refine awP (op_len_ro (n := h.log.length) rfl rfl Try.underlying24 (.inr (.inl ⟨_, rfl, by simp⟩))) ?_
        refine awP (op_assign rfl rfl) ?_
        refine AWL.nil ?_
        (refine hK _ ?_; clear hK K; (try simp only [nA, Nat.reduceBEq, Nat.reduceEqDiff, ↓reduceIte, Nat.reduceAdd, Nat.reduceSub]))
        refine AW.adk 9 (FixL [(0, 1, .own 26 [h.av]), (4, 5, .own 33 [((newOp h k p n t)).av]), (5, 6, .own 26 [[.v (.int .i64 h.number), .v (.int .i64 (h.next + 1)), .v (.int .i64 t), .v (.bool h.offline), .ro (h.grants.map Grant.av), .ro ((h.conts.map bareC).map Container.av), .ro (h.log.map Op.av)]])]) mix rfl ?_
        (first | refine akP 0 rfl (fun T' ok => op_fa_ptr rfl rfl (by first | exact ok.1 | exact ok.2.1 | exact ok.2.2.1 | exact ok.2.2.2.1) fl26_6 (by exact sz24) (by decide) rfl) (by first | exact trivial | exact ⟨rfl, trivial⟩ | exact ⟨rfl, rfl, trivial⟩ | exact ⟨rfl, rfl, rfl, trivial⟩) (by kernel_rfl) (by kernel_rfl) (by kernel_rfl) ?_ | refine akP 0 rfl (fun T' ok => op_fa_rop rfl rfl fl26_6 (by exact sz24) (by decide) (Nat.le_of_ble_eq_true rfl) rfl) (by first | exact trivial | exact ⟨rfl, trivial⟩ | exact ⟨rfl, rfl, trivial⟩ | exact ⟨rfl, rfl, rfl, trivial⟩) (by kernel_rfl) (by kernel_rfl) (by kernel_rfl) ?_); (try simp only [nA, Nat.reduceBEq, Nat.reduceEqDiff, ↓reduceIte, Nat.reduceAdd, Nat.reduceSub])
        (first | refine akR 1 rfl (fun T' ok => op_load_ptr1 rfl rfl (by first | exact ok.1 | exact ok.2.1 | exact ok.2.2.1 | exact ok.2.2.2.1) rfl ag24 rfl rfl) (by first | exact trivial | exact ⟨rfl, trivial⟩ | exact ⟨rfl, rfl, trivial⟩ | exact ⟨rfl, rfl, rfl, trivial⟩) (by kernel_rfl) (by kernel_rfl) (by kernel_rfl) ?_ | refine akR 1 rfl (fun T' ok => op_load_rop1 rfl rfl ag24) (by first | exact trivial | exact ⟨rfl, trivial⟩ | exact ⟨rfl, rfl, trivial⟩ | exact ⟨rfl, rfl, rfl, trivial⟩) (by kernel_rfl) (by kernel_rfl) (by kernel_rfl) ?_); (try simp only [nA, Nat.reduceBEq, Nat.reduceEqDiff, ↓reduceIte, Nat.reduceAdd, Nat.reduceSub])
        refine akP 2 rfl (fun T' ok => op_move rfl rfl) (by first | exact trivial | exact ⟨rfl, trivial⟩ | exact ⟨rfl, rfl, trivial⟩ | exact ⟨rfl, rfl, rfl, trivial⟩) (by kernel_rfl) (by kernel_rfl) (by kernel_rfl) ?_; (try simp only [nA, Nat.reduceBEq, Nat.reduceEqDiff, ↓reduceIte, Nat.reduceAdd, Nat.reduceSub])
        refine akP 3 rfl (fun T' ok => op_move rfl rfl) (by first | exact trivial | exact ⟨rfl, trivial⟩ | exact ⟨rfl, rfl, trivial⟩ | exact ⟨rfl, rfl, rfl, trivial⟩) (by kernel_rfl) (by kernel_rfl) (by kernel_rfl) ?_; (try simp only [nA, Nat.reduceBEq, Nat.reduceEqDiff, ↓reduceIte, Nat.reduceAdd, Nat.reduceSub])
        refine akP 4 rfl (fun T' ok => op_slice_full h.log.length rfl (.inl rfl) rfl rfl (by simp) Try.underlying24 sz33 (opv_len _) (es' := h.log.map Op.av) (List.take_of_length_le (by simp))) (by first | exact trivial | exact ⟨rfl, trivial⟩ | exact ⟨rfl, rfl, trivial⟩ | exact ⟨rfl, rfl, rfl, trivial⟩) (by kernel_rfl) (by kernel_rfl) (by kernel_rfl) ?_; (try simp only [nA, Nat.reduceBEq, Nat.reduceEqDiff, ↓reduceIte, Nat.reduceAdd, Nat.reduceSub])
        (first | refine akR 5 rfl (fun T' ok => op_load_ptr rfl rfl (by first | exact ok.1 | exact ok.2.1 | exact ok.2.2.1 | exact ok.2.2.2.1) rfl ag33 sz33 (Nat.le_of_ble_eq_true rfl) rfl) (by first | exact trivial | exact ⟨rfl, trivial⟩ | exact ⟨rfl, rfl, trivial⟩ | exact ⟨rfl, rfl, rfl, trivial⟩) (by kernel_rfl) (by kernel_rfl) (by kernel_rfl) ?_ | refine akR 5 rfl (fun T' ok => op_load_rop rfl rfl ag33 sz33 (Nat.le_of_ble_eq_true rfl) (by decide) rfl) (by first | exact trivial | exact ⟨rfl, trivial⟩ | exact ⟨rfl, rfl, trivial⟩ | exact ⟨rfl, rfl, rfl, trivial⟩) (by kernel_rfl) (by kernel_rfl) (by kernel_rfl) ?_); (try simp only [nA, Nat.reduceBEq, Nat.reduceEqDiff, ↓reduceIte, Nat.reduceAdd, Nat.reduceSub])
        refine akF 6 rfl (fun T' ok => OpJ.frz (op_buildSlice rfl [(0, ((newOp h k p n t)).av)] [((newOp h k p n t)).av] Try.underlying24 ze33 rfl (by simp) rfl (by simp) rfl (Nat.le_of_ble_eq_true rfl) (by simp [maxLen])) (opv_flat [(newOp h k p n t)]) rfl) (by first | exact trivial | exact ⟨rfl, trivial⟩ | exact ⟨rfl, rfl, trivial⟩ | exact ⟨rfl, rfl, rfl, trivial⟩) (by kernel_rfl) (by kernel_rfl) (by kernel_rfl) ?_; (try simp only [nA, Nat.reduceBEq, Nat.reduceEqDiff, ↓reduceIte, Nat.reduceAdd, Nat.reduceSub])
        refine akF 7 rfl (fun T' ok => op_app_rof (sz := 10) (es := h.log.map Op.av) (rows := [((newOp h k p n t)).av]) rfl rfl rfl .ro Try.underlying24 ze33 (by decide) (opv_len _) (opv_len [(newOp h k p n t)]) (by simp; omega) (by decide) (es' := (h.log ++ [(newOp h k p n t)]).map Op.av) (by simp)) (by first | exact trivial | exact ⟨rfl, trivial⟩ | exact ⟨rfl, rfl, trivial⟩ | exact ⟨rfl, rfl, rfl, trivial⟩) (by kernel_rfl) (by kernel_rfl) (by kernel_rfl) ?_; (try simp only [nA, Nat.reduceBEq, Nat.reduceEqDiff, ↓reduceIte, Nat.reduceAdd, Nat.reduceSub])
        (first | refine akP 8 rfl (fun T' ok => op_fa_ptr rfl rfl (by first | exact ok.1 | exact ok.2.1 | exact ok.2.2.1 | exact ok.2.2.2.1) fl26_6 (by exact sz24) (by decide) rfl) (by first | exact trivial | exact ⟨rfl, trivial⟩ | exact ⟨rfl, rfl, trivial⟩ | exact ⟨rfl, rfl, rfl, trivial⟩) (by kernel_rfl) (by kernel_rfl) (by kernel_rfl) ?_ | refine akP 8 rfl (fun T' ok => op_fa_rop rfl rfl fl26_6 (by exact sz24) (by decide) (Nat.le_of_ble_eq_true rfl) rfl) (by first | exact trivial | exact ⟨rfl, trivial⟩ | exact ⟨rfl, rfl, trivial⟩ | exact ⟨rfl, rfl, rfl, trivial⟩) (by kernel_rfl) (by kernel_rfl) (by kernel_rfl) ?_); (try simp only [nA, Nat.reduceBEq, Nat.reduceEqDiff, ↓reduceIte, Nat.reduceAdd, Nat.reduceSub])
        refine akL 9 rfl (op_store rfl rfl rfl rfl rfl rfl sz24 rfl (Nat.le_of_ble_eq_true rfl) rfl) (by kernel_rfl) (by decide) ?_; (try simp only [nA, Nat.reduceBEq, Nat.reduceEqDiff, ↓reduceIte, Nat.reduceAdd, Nat.reduceSub])
        refine akDone (by kernel_rfl) ?_
        (refine hK _ ?_; clear hK K; (try simp only [nA, Nat.reduceBEq, Nat.reduceEqDiff, ↓reduceIte, Nat.reduceAdd, Nat.reduceSub]))
        (refine AW.seq_k ?_; intro K hK)
        refine AW.ad [(4, 5, .own 33 [((newOp h k p n t)).av]), (5, 6, .own 26 [[.v (.int .i64 h.number), .v (.int .i64 (h.next + 1)), .v (.int .i64 t), .v (.bool h.offline), .ro (h.grants.map Grant.av), .ro ((h.conts.map bareC).map Container.av), .ro ((h.log ++ [(newOp h k p n t)]).map Op.av)]])] mix rfl ?_
        (first | refine adR 0 rfl (fun T' ok => op_load_ptr rfl rfl (by first | exact ok.1 | exact ok.2.1 | exact ok.2.2.1 | exact ok.2.2.2.1) rfl ag26 sz26 (Nat.le_of_ble_eq_true rfl) rfl) (by first | exact trivial | exact ⟨rfl, trivial⟩ | exact ⟨rfl, rfl, trivial⟩ | exact ⟨rfl, rfl, rfl, trivial⟩) (by kernel_rfl) (by kernel_rfl) ?_ | refine adR 0 rfl (fun T' ok => op_load_rop rfl rfl ag26 sz26 (Nat.le_of_ble_eq_true rfl) (by decide) rfl) (by first | exact trivial | exact ⟨rfl, trivial⟩ | exact ⟨rfl, rfl, trivial⟩ | exact ⟨rfl, rfl, rfl, trivial⟩) (by kernel_rfl) (by kernel_rfl) ?_)
        (first | refine adR 1 rfl (fun T' ok => op_load_ptr rfl rfl (by first | exact ok.1 | exact ok.2.1 | exact ok.2.2.1 | exact ok.2.2.2.1) rfl ag33 sz33 (Nat.le_of_ble_eq_true rfl) rfl) (by first | exact trivial | exact ⟨rfl, trivial⟩ | exact ⟨rfl, rfl, trivial⟩ | exact ⟨rfl, rfl, rfl, trivial⟩) (by kernel_rfl) (by kernel_rfl) ?_ | refine adR 1 rfl (fun T' ok => op_load_rop rfl rfl ag33 sz33 (Nat.le_of_ble_eq_true rfl) (by decide) rfl) (by first | exact trivial | exact ⟨rfl, trivial⟩ | exact ⟨rfl, rfl, trivial⟩ | exact ⟨rfl, rfl, rfl, trivial⟩) (by kernel_rfl) (by kernel_rfl) ?_)
        refine adJ 2 rfl (op_store rfl rfl rfl rfl rfl rfl sz26 rfl (Nat.le_of_ble_eq_true rfl) rfl) (by kernel_rfl) (by first | exact trivial | exact ⟨rfl, trivial⟩ | exact ⟨rfl, rfl, trivial⟩ | exact ⟨rfl, rfl, rfl, trivial⟩) ?_; (try simp only [nA, Nat.reduceBEq, Nat.reduceEqDiff, ↓reduceIte, Nat.reduceAdd, Nat.reduceSub])
        refine adJ 3 rfl (op_store rfl rfl rfl rfl rfl rfl sz33 rfl (Nat.le_of_ble_eq_true rfl) rfl) (by kernel_rfl) (by first | exact trivial | exact ⟨rfl, trivial⟩ | exact ⟨rfl, rfl, trivial⟩ | exact ⟨rfl, rfl, rfl, trivial⟩) ?_; (try simp only [nA, Nat.reduceBEq, Nat.reduceEqDiff, ↓reduceIte, Nat.reduceAdd, Nat.reduceSub])
        refine adP 4 rfl (fun T' ok => op_assign rfl rfl) (by first | exact trivial | exact ⟨rfl, trivial⟩ | exact ⟨rfl, rfl, trivial⟩ | exact ⟨rfl, rfl, rfl, trivial⟩) (by kernel_rfl) (by kernel_rfl) ?_
        refine adDone (by kernel_rfl) ?_
        (refine hK _ ?_; clear hK K; (try simp only [nA, Nat.reduceBEq, Nat.reduceEqDiff, ↓reduceIte, Nat.reduceAdd, Nat.reduceSub]))
        skip
        refine AW.ret ?_; (try simp only [thenE, inBlk, Nat.reduceEqDiff, ↓reduceIte]); rw [scan_on hE ho]; exact RQ.of0 rfl (.cell (Nat.le_of_ble_eq_true rfl) rfl rfl rfl ag26 sz26 (Nat.le_of_ble_eq_true rfl) rfl rfl (.cell (Nat.le_of_ble_eq_true rfl) rfl rfl rfl ag33 sz33 (Nat.le_of_ble_eq_true rfl) rfl rfl (.tmp (Nat.le_of_ble_eq_true rfl) rfl rfl .nil)))
       ·
        (skip); have hc8 := hc; have ho : h.offline = false := hc8
        refine AW.skip ?_
        (refine hK _ ?_; clear hK K; (try simp only [nA, Nat.reduceBEq, Nat.reduceEqDiff, ↓reduceIte, Nat.reduceAdd, Nat.reduceSub]))
        (refine AW.seq_k ?_; intro K hK)
        refine AW.ad [(4, 5, .own 33 [((newOp h k p n t)).av]), (5, 6, .own 26 [[.v (.int .i64 h.number), .v (.int .i64 (h.next + 1)), .v (.int .i64 t), .v (.bool h.offline), .ro (h.grants.map Grant.av), .ro ((h.conts.map bareC).map Container.av), .ro (h.log.map Op.av)]])] mix rfl ?_
        (first | refine adR 0 rfl (fun T' ok => op_load_ptr rfl rfl (by first | exact ok.1 | exact ok.2.1 | exact ok.2.2.1 | exact ok.2.2.2.1) rfl ag26 sz26 (Nat.le_of_ble_eq_true rfl) rfl) (by first | exact trivial | exact ⟨rfl, trivial⟩ | exact ⟨rfl, rfl, trivial⟩ | exact ⟨rfl, rfl, rfl, trivial⟩) (by kernel_rfl) (by kernel_rfl) ?_ | refine adR 0 rfl (fun T' ok => op_load_rop rfl rfl ag26 sz26 (Nat.le_of_ble_eq_true rfl) (by decide) rfl) (by first | exact trivial | exact ⟨rfl, trivial⟩ | exact ⟨rfl, rfl, trivial⟩ | exact ⟨rfl, rfl, rfl, trivial⟩) (by kernel_rfl) (by kernel_rfl) ?_)
        (first | refine adR 1 rfl (fun T' ok => op_load_ptr rfl rfl (by first | exact ok.1 | exact ok.2.1 | exact ok.2.2.1 | exact ok.2.2.2.1) rfl ag33 sz33 (Nat.le_of_ble_eq_true rfl) rfl) (by first | exact trivial | exact ⟨rfl, trivial⟩ | exact ⟨rfl, rfl, trivial⟩ | exact ⟨rfl, rfl, rfl, trivial⟩) (by kernel_rfl) (by kernel_rfl) ?_ | refine adR 1 rfl (fun T' ok => op_load_rop rfl rfl ag33 sz33 (Nat.le_of_ble_eq_true rfl) (by decide) rfl) (by first | exact trivial | exact ⟨rfl, trivial⟩ | exact ⟨rfl, rfl, trivial⟩ | exact ⟨rfl, rfl, rfl, trivial⟩) (by kernel_rfl) (by kernel_rfl) ?_)
        refine adJ 2 rfl (op_store rfl rfl rfl rfl rfl rfl sz26 rfl (Nat.le_of_ble_eq_true rfl) rfl) (by kernel_rfl) (by first | exact trivial | exact ⟨rfl, trivial⟩ | exact ⟨rfl, rfl, trivial⟩ | exact ⟨rfl, rfl, rfl, trivial⟩) ?_; (try simp only [nA, Nat.reduceBEq, Nat.reduceEqDiff, ↓reduceIte, Nat.reduceAdd, Nat.reduceSub])
        refine adJ 3 rfl (op_store rfl rfl rfl rfl rfl rfl sz33 rfl (Nat.le_of_ble_eq_true rfl) rfl) (by kernel_rfl) (by first | exact trivial | exact ⟨rfl, trivial⟩ | exact ⟨rfl, rfl, trivial⟩ | exact ⟨rfl, rfl, rfl, trivial⟩) ?_; (try simp only [nA, Nat.reduceBEq, Nat.reduceEqDiff, ↓reduceIte, Nat.reduceAdd, Nat.reduceSub])
        refine adP 4 rfl (fun T' ok => op_assign rfl rfl) (by first | exact trivial | exact ⟨rfl, trivial⟩ | exact ⟨rfl, rfl, trivial⟩ | exact ⟨rfl, rfl, rfl, trivial⟩) (by kernel_rfl) (by kernel_rfl) ?_
        refine adDone (by kernel_rfl) ?_
        (refine hK _ ?_; clear hK K; (try simp only [nA, Nat.reduceBEq, Nat.reduceEqDiff, ↓reduceIte, Nat.reduceAdd, Nat.reduceSub]))
        skip
        refine AW.ret ?_; (try simp only [thenE, inBlk, Nat.reduceEqDiff, ↓reduceIte]); rw [scan_off hE ho]; exact RQ.of0 rfl (.cell (Nat.le_of_ble_eq_true rfl) rfl rfl rfl ag26 sz26 (Nat.le_of_ble_eq_true rfl) rfl rfl (.cell (Nat.le_of_ble_eq_true rfl) rfl rfl rfl ag33 sz33 (Nat.le_of_ble_eq_true rfl) rfl rfl (.tmp (Nat.le_of_ble_eq_true rfl) rfl rfl .nil)))
end Go.Proofs.Ytdnofpggdddimaa
namespace Go.Proofs.Ytdnofpggdddimaa
open Go.RowKit
set_option linter.unusedSimpArgs false
set_option linter.unusedVariables false
set_option maxRecDepth 100000
end Go.Proofs.Ytdnofpggdddimaa
namespace Go.Proofs.Ytdnofpggdddimaa
open Go.RowKit
set_option linter.unusedSimpArgs false
set_option linter.unusedVariables false
set_option maxRecDepth 100000
def grErr (l : List Grant) (i : Nat) : Int := if grB (l.getD i default) = false then 1 else if (decide ((i : Int) > 0) && decide (cmpP (l.getD (i - 1) default).piece.plate (l.getD i default).piece.plate ≥ 0)) = true then 9 else 0
def grsE (l : List Grant) : Int := orL ((List.range l.length).map (grErr l))
theorem grsE_at {l : List Grant} {i : Nat} {e : Int} (hi : i < l.length) (hz : ∀ k, k < i → grErr l k = 0) (he : grErr l i = e) (h0 : e ≠ 0) : grsE l = e := by
  unfold grsE
  rw [orL_yes (i := i) (by simpa using hi) (fun x hx => ?_) (by simp [he, h0])]
  · simp [he]
  · obtain ⟨k, hk, rfl⟩ := mem_take_range hx; exact hz k hk
theorem grsE_ok {l : List Grant} {i : Nat} (hi : ¬ i < l.length) (hz : ∀ k, k < i → grErr l k = 0) : grsE l = 0 := by
  unfold grsE
  rw [orL_no (i := i) (by simpa using hi) (fun x hx => ?_)]
  obtain ⟨k, hk, rfl⟩ := mem_take_range hx; exact hz k hk
def offE (h : Hand) (g : List Grant) (c : List Container) : Int :=
  if valH h ≠ 0 then valH h
  else if h.offline = true then 7
  else if (g.length : Int) > 60 then 2
  else if grsE g ≠ 0 then grsE g else chkL c
def offH (h : Hand) (g : List Grant) (c : List Container) : Hand := ⟨h.number, h.next, h.last, true, g, c.map bareC, h.log⟩
def offR (h : Hand) (g : List Grant) (c : List Container) : Hand × Int := if offE h g c = 0 then (offH h g c, 0) else (zeroH, offE h g c)
theorem off_err {h : Hand} {g : List Grant} {c : List Container} {e : Int} (he : offE h g c = e) (h0 : e ≠ 0) : offR h g c = (zeroH, e) := by
  unfold offR
  rw [if_neg (by rw [he]; exact h0), he]
theorem off_ok {h : Hand} {g : List Grant} {c : List Container} (he : offE h g c = 0) : offR h g c = (offH h g c, 0) := by
  unfold offR
  rw [if_pos he]
theorem C32 {h : Hand} {g : List Grant} {c : List Container} (hs : h.Sm) (hg : g.length ≤ 1000) (hcl : c.length ≤ 1000) : Fn Try.prog 32 [] [.agg h.av, .ro (g.map Grant.av), .ro (c.map Container.av)] [.agg (offR h g c).1.av, .v (.int .i64 (offR h g c).2)] [] := by
  refine Spec.body Try.func32 rfl Try.ntmps32 (by simp) rfl ?_; intro S0 own0 v0 w0
  (refine AW.seq_k ?_; intro K hK)
  refine AW.region ?_
  refine awJ (op_box rfl rfl rfl sz26 rfl) ?_; (try simp only [nA, Nat.reduceBEq, Nat.reduceEqDiff, ↓reduceIte, Nat.reduceAdd, Nat.reduceSub])
  refine awJ (op_alloc rfl ze26 rfl) ?_; (try simp only [nA, Nat.reduceBEq, Nat.reduceEqDiff, ↓reduceIte, Nat.reduceAdd, Nat.reduceSub])
  refine awP (op_assign rfl rfl) ?_
  refine AWL.nil ?_
  (refine hK _ ?_; clear hK K; (try simp only [nA, Nat.reduceBEq, Nat.reduceEqDiff, ↓reduceIte, Nat.reduceAdd, Nat.reduceSub]))
  (refine AW.seq_k ?_; intro K hK)
  (refine AW.seq_k ?_; intro K hK)
  refine AW.region ?_
  (first | refine awR (op_load_ptr rfl rfl rfl rfl ag26 sz26 (Nat.le_of_ble_eq_true rfl) rfl) ?_ | refine awR (op_load_rop rfl rfl ag26 sz26 (Nat.le_of_ble_eq_true rfl) (by decide) rfl) ?_)
  refine awJ (OpQ.j (op_callQ (b := true) rfl en18 (C18 (h := h) hs) (RL.cons (by first | exact View.same rfl | exact View.nil | exact View.rof | exact View.src .ro | exact View.src .rof | exact View.src (.sl rfl rfl) | exact View.ptr rfl rfl rfl) (RL.nil)) rfl)) ?_; (try simp only [nA, Nat.reduceBEq, Nat.reduceEqDiff, ↓reduceIte, Nat.reduceAdd, Nat.reduceSub])
  refine awP (op_assign rfl rfl) ?_
  refine AWL.nil ?_
  (refine hK _ ?_; clear hK K; (try simp only [nA, Nat.reduceBEq, Nat.reduceEqDiff, ↓reduceIte, Nat.reduceAdd, Nat.reduceSub]))
  (refine AW.seq_k ?_; intro K hK)
  refine AW.region ?_
  refine awP (op_move rfl rfl) ?_
  (first | refine awP (op_neq rfl rfl rfl) ?_ | refine awP (op_sneq rfl rfl rfl) ?_)
  refine AWL.nil ?_
  (refine hK _ ?_; clear hK K; (try simp only [nA, Nat.reduceBEq, Nat.reduceEqDiff, ↓reduceIte, Nat.reduceAdd, Nat.reduceSub]))
  refine AW.cond rfl rfl rfl (fun hc => ?_) (fun hc => ?_)
  ·
   (skip); have hc1 := hc; have g1 : valH h ≠ 0 := (by simpa using hc1)
   (refine AW.seq_k ?_; intro K hK)
   refine AW.region ?_
   refine awP (op_build2 (xs := [.v (.int .i64 0), .v (.int .i64 0), .v (.int .i64 0), .v (.bool false), .v (.slice none 0 0), .v (.slice none 0 0), .v (.slice none 0 0)]) rfl pl26 ze26 [] rfl rfl rfl) ?_
   refine awP (op_move rfl rfl) ?_
   refine awJ (op_store rfl rfl rfl rfl rfl rfl sz26 rfl (Nat.le_of_ble_eq_true rfl) rfl) ?_; (try simp only [nA, Nat.reduceBEq, Nat.reduceEqDiff, ↓reduceIte, Nat.reduceAdd, Nat.reduceSub])
   refine awP (op_assign rfl rfl) ?_
   refine AWL.nil ?_
   (refine hK _ ?_; clear hK K; (try simp only [nA, Nat.reduceBEq, Nat.reduceEqDiff, ↓reduceIte, Nat.reduceAdd, Nat.reduceSub]))
   refine AW.gh (Gh.cell0 (r := 1) (A := none) (c := 0) (row := [.v (.int .i64 0), .v (.int .i64 0), .v (.int .i64 0), .v (.bool false), .v (.slice none 0 0), .v (.slice none 0 0), .v (.slice none 0 0)]) 0 4 rfl rfl rfl (by decide) rfl) ?_; refine AW.gh (Gh.cell0 (r := 1) (A := none) (c := 0) (row := [.v (.int .i64 0), .v (.int .i64 0), .v (.int .i64 0), .v (.bool false), .ro [], .v (.slice none 0 0), .v (.slice none 0 0)]) 0 5 rfl rfl rfl (by decide) rfl) ?_; refine AW.gh (Gh.cell0 (r := 1) (A := none) (c := 0) (row := [.v (.int .i64 0), .v (.int .i64 0), .v (.int .i64 0), .v (.bool false), .ro [], .ro [], .v (.slice none 0 0)]) 0 6 rfl rfl rfl (by decide) rfl) ?_; (try simp only [nA, Nat.reduceBEq, Nat.reduceEqDiff, ↓reduceIte, Nat.reduceAdd, Nat.reduceSub])
   refine AW.ret ?_; (try simp only [thenE, inBlk, Nat.reduceEqDiff, ↓reduceIte]); rw [off_err (e := valH h) (by unfold offE; rw [if_pos g1]) g1]; exact RQ.of0 rfl (.cell (Nat.le_of_ble_eq_true rfl) rfl rfl rfl ag26 sz26 (Nat.le_of_ble_eq_true rfl) rfl rfl (.tmp (Nat.le_of_ble_eq_true rfl) rfl rfl .nil))
  ·
   (skip); have hc1 := hc; have g1 : ¬ (valH h ≠ 0) := (by simpa using hc1)
   refine AW.skip ?_
   (refine hK _ ?_; clear hK K; (try simp only [nA, Nat.reduceBEq, Nat.reduceEqDiff, ↓reduceIte, Nat.reduceAdd, Nat.reduceSub]))
   (refine AW.seq_k ?_; intro K hK)
   (refine AW.seq_k ?_; intro K hK)
   refine AW.region ?_
   (first | refine awP (op_fa_ptr rfl rfl rfl fl26_3 (by exact sz4) (by decide) rfl) ?_ | refine awP (op_fa_rop rfl rfl fl26_3 (by exact sz4) (by decide) (Nat.le_of_ble_eq_true rfl) rfl) ?_)
   (first | refine awR (op_load_ptr1 rfl rfl rfl rfl ag4 rfl rfl) ?_ | refine awR (op_load_rop1 rfl rfl ag4) ?_)
   refine AWL.nil ?_
   (refine hK _ ?_; clear hK K; (try simp only [nA, Nat.reduceBEq, Nat.reduceEqDiff, ↓reduceIte, Nat.reduceAdd, Nat.reduceSub]))
   refine AW.cond rfl rfl rfl (fun hc => ?_) (fun hc => ?_)
   ·
    (skip); have hc2 := hc; skip
    (refine AW.seq_k ?_; intro K hK)
    refine AW.region ?_
    refine awP (op_build2 (xs := [.v (.int .i64 0), .v (.int .i64 0), .v (.int .i64 0), .v (.bool false), .v (.slice none 0 0), .v (.slice none 0 0), .v (.slice none 0 0)]) rfl pl26 ze26 [] rfl rfl rfl) ?_
    refine awJ (op_store rfl rfl rfl rfl rfl rfl sz26 rfl (Nat.le_of_ble_eq_true rfl) rfl) ?_; (try simp only [nA, Nat.reduceBEq, Nat.reduceEqDiff, ↓reduceIte, Nat.reduceAdd, Nat.reduceSub])
    refine awP (op_assign rfl rfl) ?_
    refine AWL.nil ?_
    (refine hK _ ?_; clear hK K; (try simp only [nA, Nat.reduceBEq, Nat.reduceEqDiff, ↓reduceIte, Nat.reduceAdd, Nat.reduceSub]))
    refine AW.gh (Gh.cell0 (r := 1) (A := none) (c := 0) (row := [.v (.int .i64 0), .v (.int .i64 0), .v (.int .i64 0), .v (.bool false), .v (.slice none 0 0), .v (.slice none 0 0), .v (.slice none 0 0)]) 0 4 rfl rfl rfl (by decide) rfl) ?_; refine AW.gh (Gh.cell0 (r := 1) (A := none) (c := 0) (row := [.v (.int .i64 0), .v (.int .i64 0), .v (.int .i64 0), .v (.bool false), .ro [], .v (.slice none 0 0), .v (.slice none 0 0)]) 0 5 rfl rfl rfl (by decide) rfl) ?_; refine AW.gh (Gh.cell0 (r := 1) (A := none) (c := 0) (row := [.v (.int .i64 0), .v (.int .i64 0), .v (.int .i64 0), .v (.bool false), .ro [], .ro [], .v (.slice none 0 0)]) 0 6 rfl rfl rfl (by decide) rfl) ?_; (try simp only [nA, Nat.reduceBEq, Nat.reduceEqDiff, ↓reduceIte, Nat.reduceAdd, Nat.reduceSub])
    refine AW.ret ?_; (try simp only [thenE, inBlk, Nat.reduceEqDiff, ↓reduceIte]); rw [off_err (e := 7) (by unfold offE; rw [if_neg g1, if_pos hc2]) (by decide)]; exact RQ.of0 rfl (.cell (Nat.le_of_ble_eq_true rfl) rfl rfl rfl ag26 sz26 (Nat.le_of_ble_eq_true rfl) rfl rfl (.tmp (Nat.le_of_ble_eq_true rfl) rfl rfl .nil))
   ·
    (skip); have hc2 := hc; have g2 : ¬ (h.offline = true) := (by rw [show h.offline = false from hc2]; decide)
    refine AW.skip ?_
    (refine hK _ ?_; clear hK K; (try simp only [nA, Nat.reduceBEq, Nat.reduceEqDiff, ↓reduceIte, Nat.reduceAdd, Nat.reduceSub]))
    (refine AW.seq_k ?_; intro K hK)
    (refine AW.seq_k ?_; intro K hK)
    refine AW.region ?_
    refine awP (op_move rfl rfl) ?_
    refine awP (op_len_ro (n := g.length) rfl rfl Try.underlying22 (.inr (.inl ⟨_, rfl, by simp⟩))) ?_
    refine awP (op_gtr rfl rfl rfl) ?_
    refine AWL.nil ?_
    (refine hK _ ?_; clear hK K; (try simp only [nA, Nat.reduceBEq, Nat.reduceEqDiff, ↓reduceIte, Nat.reduceAdd, Nat.reduceSub]))
    refine AW.cond rfl rfl rfl (fun hc => ?_) (fun hc => ?_)
    ·
     (skip); have hc3 := hc; have g3 : (g.length : Int) > 60 := (by simpa using hc3)
     (refine AW.seq_k ?_; intro K hK)
     refine AW.region ?_
     refine awP (op_build2 (xs := [.v (.int .i64 0), .v (.int .i64 0), .v (.int .i64 0), .v (.bool false), .v (.slice none 0 0), .v (.slice none 0 0), .v (.slice none 0 0)]) rfl pl26 ze26 [] rfl rfl rfl) ?_
     refine awJ (op_store rfl rfl rfl rfl rfl rfl sz26 rfl (Nat.le_of_ble_eq_true rfl) rfl) ?_; (try simp only [nA, Nat.reduceBEq, Nat.reduceEqDiff, ↓reduceIte, Nat.reduceAdd, Nat.reduceSub])
     refine awP (op_assign rfl rfl) ?_
     refine AWL.nil ?_
     (refine hK _ ?_; clear hK K; (try simp only [nA, Nat.reduceBEq, Nat.reduceEqDiff, ↓reduceIte, Nat.reduceAdd, Nat.reduceSub]))
     refine AW.gh (Gh.cell0 (r := 1) (A := none) (c := 0) (row := [.v (.int .i64 0), .v (.int .i64 0), .v (.int .i64 0), .v (.bool false), .v (.slice none 0 0), .v (.slice none 0 0), .v (.slice none 0 0)]) 0 4 rfl rfl rfl (by decide) rfl) ?_; refine AW.gh (Gh.cell0 (r := 1) (A := none) (c := 0) (row := [.v (.int .i64 0), .v (.int .i64 0), .v (.int .i64 0), .v (.bool false), .ro [], .v (.slice none 0 0), .v (.slice none 0 0)]) 0 5 rfl rfl rfl (by decide) rfl) ?_; refine AW.gh (Gh.cell0 (r := 1) (A := none) (c := 0) (row := [.v (.int .i64 0), .v (.int .i64 0), .v (.int .i64 0), .v (.bool false), .ro [], .ro [], .v (.slice none 0 0)]) 0 6 rfl rfl rfl (by decide) rfl) ?_; (try simp only [nA, Nat.reduceBEq, Nat.reduceEqDiff, ↓reduceIte, Nat.reduceAdd, Nat.reduceSub])
     refine AW.ret ?_; (try simp only [thenE, inBlk, Nat.reduceEqDiff, ↓reduceIte]); rw [off_err (e := 2) (by unfold offE; rw [if_neg g1, if_neg g2, if_pos g3]) (by decide)]; exact RQ.of0 rfl (.cell (Nat.le_of_ble_eq_true rfl) rfl rfl rfl ag26 sz26 (Nat.le_of_ble_eq_true rfl) rfl rfl (.tmp (Nat.le_of_ble_eq_true rfl) rfl rfl .nil))
    ·
     (skip); have hc3 := hc; have g3 : ¬ ((g.length : Int) > 60) := (by simpa using hc3)
     refine AW.skip ?_
     (refine hK _ ?_; clear hK K; (try simp only [nA, Nat.reduceBEq, Nat.reduceEqDiff, ↓reduceIte, Nat.reduceAdd, Nat.reduceSub]))
     (refine AW.seq_k ?_; intro K hK)
     (refine AW.seq_k ?_; intro K hK)
     refine AW.region ?_
     refine awP (op_move rfl rfl) ?_
     refine awP (op_len_ro (n := g.length) rfl rfl Try.underlying22 (.inr (.inl ⟨_, rfl, by simp⟩))) ?_
     refine awP (op_move rfl rfl) ?_
     refine AWL.nil ?_
     (refine hK _ ?_; clear hK K; (try simp only [nA, Nat.reduceBEq, Nat.reduceEqDiff, ↓reduceIte, Nat.reduceAdd, Nat.reduceSub]))
     refine AW.block ?_
     refine AW.loopI (fun i => [(1, .ro (g.map Grant.av)), (2, .ro (c.map Container.av)), (3, .ptr 0 1 0 0), (6, .ptr 1 2 0 0), (25, .ro (g.map Grant.av)), (26, .v (.int .i64 g.length)), (27, .v (.int .i64 (i : Nat)))]) (fun i => ⟨[(1, .own 26 [h.av]), (2, .own 26 [[.v (.int .i64 0), .v (.int .i64 0), .v (.int .i64 0), .v (.bool false), .v (.slice none 0 0), .v (.slice none 0 0), .v (.slice none 0 0)]])], 3 + i⟩) (fun i => i ≤ g.length ∧ ∀ k, k < i → grErr g k = 0) (fun i => g.length - i) 0 (by simp) ⟨rfl, rfl, rfl, rfl, rfl, rfl, rfl, trivial⟩ rfl ?_; intro i ρ hi; simp only [updL]; (try simp only [nA, Nat.reduceBEq, Nat.reduceEqDiff, ↓reduceIte, Nat.reduceAdd, Nat.reduceSub])
     (refine AW.seq_k ?_; intro K hK)
     refine AW.region ?_
     refine awP (op_lss rfl rfl rfl) ?_
     refine AWL.nil ?_
     (refine hK _ ?_; clear hK K; (try simp only [nA, Nat.reduceBEq, Nat.reduceEqDiff, ↓reduceIte, Nat.reduceAdd, Nat.reduceSub]))
     (refine AW.seq_k ?_; intro K hK)
     refine AW.cond rfl rfl rfl (fun hc => ?_) (fun hc => ?_)
     ·
      (skip); have hc4 := hc; have hlt : i < g.length := (by simpa using hc4)
      refine AW.skip ?_
      (refine hK _ ?_; clear hK K; (try simp only [nA, Nat.reduceBEq, Nat.reduceEqDiff, ↓reduceIte, Nat.reduceAdd, Nat.reduceSub]))
      (refine AW.seq_k ?_; intro K hK)
      refine AW.block ?_
      (refine AW.seq_k ?_; intro K hK)
      refine AW.region ?_
      refine awP (op_move rfl rfl) ?_
      refine awP (op_ia_ro i rfl (.inl rfl) rfl Try.underlying22 rfl (get_mapD (by omega)) (by exact sz75) (Nat.le_of_ble_eq_true rfl)) ?_
      (first | refine awR (op_load_ptr rfl rfl rfl rfl ag75 sz75 (Nat.le_of_ble_eq_true rfl) rfl) ?_ | refine awR (op_load_rop rfl rfl ag75 sz75 (Nat.le_of_ble_eq_true rfl) (by decide) rfl) ?_)
      refine awJ (op_alloc rfl ze75 rfl) ?_; (try simp only [nA, Nat.reduceBEq, Nat.reduceEqDiff, ↓reduceIte, Nat.reduceAdd, Nat.reduceSub])
      refine awP (op_assign rfl rfl) ?_
      refine awJ (op_store rfl rfl rfl rfl rfl rfl sz75 rfl (Nat.le_of_ble_eq_true rfl) rfl) ?_; (try simp only [nA, Nat.reduceBEq, Nat.reduceEqDiff, ↓reduceIte, Nat.reduceAdd, Nat.reduceSub])
      refine AWL.nil ?_
      (refine hK _ ?_; clear hK K; (try simp only [nA, Nat.reduceBEq, Nat.reduceEqDiff, ↓reduceIte, Nat.reduceAdd, Nat.reduceSub]))
      (refine AW.seq_k ?_; intro K hK)
      (refine AW.seq_k ?_; intro K hK)
      refine AW.region ?_
      (first | refine awR (op_load_ptr rfl rfl rfl rfl ag75 sz75 (Nat.le_of_ble_eq_true rfl) rfl) ?_ | refine awR (op_load_rop rfl rfl ag75 sz75 (Nat.le_of_ble_eq_true rfl) (by decide) rfl) ?_)
      refine awJ (OpQ.j (op_callQ (b := true) rfl en62 (C62 (g := g.getD i default)) (RL.cons (by first | exact View.same rfl | exact View.nil | exact View.rof | exact View.src .ro | exact View.src .rof | exact View.src (.sl rfl rfl) | exact View.ptr rfl rfl rfl) (RL.nil)) rfl)) ?_; (try simp only [nA, Nat.reduceBEq, Nat.reduceEqDiff, ↓reduceIte, Nat.reduceAdd, Nat.reduceSub])
      refine awP (op_not rfl rfl rfl) ?_
      refine AWL.nil ?_
      (refine hK _ ?_; clear hK K; (try simp only [nA, Nat.reduceBEq, Nat.reduceEqDiff, ↓reduceIte, Nat.reduceAdd, Nat.reduceSub]))
      refine AW.cond rfl rfl rfl (fun hc => ?_) (fun hc => ?_)
      ·
       (skip); have hc5 := hc; have e1 : grErr g i = 1 := (by unfold grErr; rw [if_pos (by simpa using hc5)])
       (refine AW.seq_k ?_; intro K hK)
       refine AW.region ?_
       refine awP (op_build2 (xs := [.v (.int .i64 0), .v (.int .i64 0), .v (.int .i64 0), .v (.bool false), .v (.slice none 0 0), .v (.slice none 0 0), .v (.slice none 0 0)]) rfl pl26 ze26 [] rfl rfl rfl) ?_
       refine awJ (op_store rfl rfl rfl rfl rfl rfl sz26 rfl (Nat.le_of_ble_eq_true rfl) rfl) ?_; (try simp only [nA, Nat.reduceBEq, Nat.reduceEqDiff, ↓reduceIte, Nat.reduceAdd, Nat.reduceSub])
       refine awP (op_assign rfl rfl) ?_
       refine AWL.nil ?_
       (refine hK _ ?_; clear hK K; (try simp only [nA, Nat.reduceBEq, Nat.reduceEqDiff, ↓reduceIte, Nat.reduceAdd, Nat.reduceSub]))
       refine AW.gh (Gh.cell0 (r := 1) (A := none) (c := 0) (row := [.v (.int .i64 0), .v (.int .i64 0), .v (.int .i64 0), .v (.bool false), .v (.slice none 0 0), .v (.slice none 0 0), .v (.slice none 0 0)]) 0 4 rfl rfl rfl (by decide) rfl) ?_; refine AW.gh (Gh.cell0 (r := 1) (A := none) (c := 0) (row := [.v (.int .i64 0), .v (.int .i64 0), .v (.int .i64 0), .v (.bool false), .ro [], .v (.slice none 0 0), .v (.slice none 0 0)]) 0 5 rfl rfl rfl (by decide) rfl) ?_; refine AW.gh (Gh.cell0 (r := 1) (A := none) (c := 0) (row := [.v (.int .i64 0), .v (.int .i64 0), .v (.int .i64 0), .v (.bool false), .ro [], .ro [], .v (.slice none 0 0)]) 0 6 rfl rfl rfl (by decide) rfl) ?_; (try simp only [nA, Nat.reduceBEq, Nat.reduceEqDiff, ↓reduceIte, Nat.reduceAdd, Nat.reduceSub])
       refine AW.ret ?_; (try simp only [thenE, inBlk, Nat.reduceEqDiff, ↓reduceIte]); rw [off_err (e := 1) (by unfold offE; rw [if_neg g1, if_neg g2, if_neg g3, grsE_at hlt hi.2 e1 (by decide), if_pos (by decide)]) (by decide)]; exact RQ.of0 rfl (.cell (Nat.le_of_ble_eq_true rfl) rfl rfl rfl ag26 sz26 (Nat.le_of_ble_eq_true rfl) rfl rfl (.tmp (Nat.le_of_ble_eq_true rfl) rfl rfl .nil))
      ·
       (skip); have hc5 := hc; have e5 : ¬ grB (g.getD i default) = false := (by simpa using hc5)
       refine AW.skip ?_
       (refine hK _ ?_; clear hK K; (try simp only [nA, Nat.reduceBEq, Nat.reduceEqDiff, ↓reduceIte, Nat.reduceAdd, Nat.reduceSub]))
       (refine AW.seq_k ?_; intro K hK)
       refine AW.quiet mix (by kernel_rfl) ?_
       refine aqP (op_move rfl rfl) ?_
       refine aqP (op_gtr rfl rfl rfl) ?_
       refine aqP (op_move rfl rfl) ?_
       refine' aqAnd' [_, _, _, _, _, _, _, _, _, _, _, _] [39,40,41,42,43,44,45,46,47,48,49,50] rfl rfl rfl rfl rfl rfl rfl rfl rfl rfl rfl rfl (fun hb => ?_) ?_; rotate_left
       ·
        (try simp only [hcS] at hb)
        refine aqP (op_move rfl rfl) ?_
        refine aqP (op_move rfl rfl) ?_
        (first | refine aqP (op_subi rfl rfl rfl (by omega)) ?_ | refine aqP (op_sub rfl rfl rfl rfl) ?_)
        refine aqP (op_ia_ro (i - 1) rfl (.inl rfl) rfl Try.underlying22 (by simp at hb; omega) (get_mapD (by omega)) (by exact sz75) (Nat.le_of_ble_eq_true rfl)) ?_
        (first | refine aqP (op_fa_ptr rfl rfl rfl fl75_0 (by exact sz31) (by decide) rfl) ?_ | refine aqP (op_fa_rop rfl rfl fl75_0 (by exact sz31) (by decide) (Nat.le_of_ble_eq_true rfl) rfl) ?_)
        (first | refine aqP (op_fa_ptr rfl rfl rfl fl31_0 (by exact sz29) (by decide) rfl) ?_ | refine aqP (op_fa_rop rfl rfl fl31_0 (by exact sz29) (by decide) (Nat.le_of_ble_eq_true rfl) rfl) ?_)
        (first | refine aqR (op_load_ptr rfl rfl rfl rfl ag29 sz29 (Nat.le_of_ble_eq_true rfl) rfl) ?_ | refine aqR (op_load_rop rfl rfl ag29 sz29 (Nat.le_of_ble_eq_true rfl) (by decide) rfl) ?_)
        (first | refine aqP (op_fa_ptr rfl rfl rfl fl75_0 (by exact sz31) (by decide) rfl) ?_ | refine aqP (op_fa_rop rfl rfl fl75_0 (by exact sz31) (by decide) (Nat.le_of_ble_eq_true rfl) rfl) ?_)
        (first | refine aqP (op_fa_ptr rfl rfl rfl fl31_0 (by exact sz29) (by decide) rfl) ?_ | refine aqP (op_fa_rop rfl rfl fl31_0 (by exact sz29) (by decide) (Nat.le_of_ble_eq_true rfl) rfl) ?_)
        (first | refine aqR (op_load_ptr rfl rfl rfl rfl ag29 sz29 (Nat.le_of_ble_eq_true rfl) rfl) ?_ | refine aqR (op_load_rop rfl rfl ag29 sz29 (Nat.le_of_ble_eq_true rfl) (by decide) rfl) ?_)
        refine aqQ (op_callQ (b := true) rfl en63 (C63 (p := (g.getD (i - 1) default).piece.plate) (q := (g.getD i default).piece.plate)) (RL.cons (by first | exact View.same rfl | exact View.nil | exact View.rof | exact View.src .ro | exact View.src .rof | exact View.src (.sl rfl rfl) | exact View.ptr rfl rfl rfl) (RL.cons (by first | exact View.same rfl | exact View.nil | exact View.rof | exact View.src .ro | exact View.src .rof | exact View.src (.sl rfl rfl) | exact View.ptr rfl rfl rfl) (RL.nil))) rfl) ?_; (try simp only [nA, Nat.reduceBEq, Nat.reduceEqDiff, ↓reduceIte, Nat.reduceAdd, Nat.reduceSub])
        refine aqP (op_geq rfl rfl rfl) ?_
        (refine aqSeg rfl rfl rfl ?_; repeat (first | exact fun _ _ => rfl | refine upd_out rfl ?_ | refine era_out rfl ?_))
       (try simp only [nA, Nat.reduceBEq, Nat.reduceEqDiff, ↓reduceIte, Nat.reduceAdd, Nat.reduceSub])
       refine AQ.nil ?_
       (refine hK _ ?_; clear hK K; (try simp only [nA, Nat.reduceBEq, Nat.reduceEqDiff, ↓reduceIte, Nat.reduceAdd, Nat.reduceSub]))
       refine AW.cond rfl rfl rfl (fun hc => ?_) (fun hc => ?_)
       ·
        (skip); have hc6 := hc; have e1 : grErr g i = 9 := (by unfold grErr; rw [if_neg e5, if_pos hc6])
        (refine AW.seq_k ?_; intro K hK)
        refine AW.region ?_
        refine awP (op_build2 (xs := [.v (.int .i64 0), .v (.int .i64 0), .v (.int .i64 0), .v (.bool false), .v (.slice none 0 0), .v (.slice none 0 0), .v (.slice none 0 0)]) rfl pl26 ze26 [] rfl rfl rfl) ?_
        refine awJ (op_store rfl rfl rfl rfl rfl rfl sz26 rfl (Nat.le_of_ble_eq_true rfl) rfl) ?_; (try simp only [nA, Nat.reduceBEq, Nat.reduceEqDiff, ↓reduceIte, Nat.reduceAdd, Nat.reduceSub])
        refine awP (op_assign rfl rfl) ?_
        refine AWL.nil ?_
        (refine hK _ ?_; clear hK K; (try simp only [nA, Nat.reduceBEq, Nat.reduceEqDiff, ↓reduceIte, Nat.reduceAdd, Nat.reduceSub]))
        refine AW.gh (Gh.cell0 (r := 1) (A := none) (c := 0) (row := [.v (.int .i64 0), .v (.int .i64 0), .v (.int .i64 0), .v (.bool false), .v (.slice none 0 0), .v (.slice none 0 0), .v (.slice none 0 0)]) 0 4 rfl rfl rfl (by decide) rfl) ?_; refine AW.gh (Gh.cell0 (r := 1) (A := none) (c := 0) (row := [.v (.int .i64 0), .v (.int .i64 0), .v (.int .i64 0), .v (.bool false), .ro [], .v (.slice none 0 0), .v (.slice none 0 0)]) 0 5 rfl rfl rfl (by decide) rfl) ?_; refine AW.gh (Gh.cell0 (r := 1) (A := none) (c := 0) (row := [.v (.int .i64 0), .v (.int .i64 0), .v (.int .i64 0), .v (.bool false), .ro [], .ro [], .v (.slice none 0 0)]) 0 6 rfl rfl rfl (by decide) rfl) ?_; (try simp only [nA, Nat.reduceBEq, Nat.reduceEqDiff, ↓reduceIte, Nat.reduceAdd, Nat.reduceSub])
        refine AW.ret ?_; (try simp only [thenE, inBlk, Nat.reduceEqDiff, ↓reduceIte]); rw [off_err (e := 9) (by unfold offE; rw [if_neg g1, if_neg g2, if_neg g3, grsE_at hlt hi.2 e1 (by decide), if_pos (by decide)]) (by decide)]; exact RQ.of0 rfl (.cell (Nat.le_of_ble_eq_true rfl) rfl rfl rfl ag26 sz26 (Nat.le_of_ble_eq_true rfl) rfl rfl (.tmp (Nat.le_of_ble_eq_true rfl) rfl rfl .nil))
       ·
        (skip); have hc6 := hc; have e1 : grErr g i = 0 := (by unfold grErr; rw [if_neg e5, if_neg (by rw [show (decide ((i : Int) > 0) && decide (cmpP (g.getD (i - 1) default).piece.plate (g.getD i default).piece.plate ≥ 0)) = false from hc6]; decide)])
        refine AW.skip ?_
        (try simp only [thenE, inBlk, Nat.reduceEqDiff, ↓reduceIte])
        (refine hK _ ?_; clear hK K; (try simp only [nA, Nat.reduceBEq, Nat.reduceEqDiff, ↓reduceIte, Nat.reduceAdd, Nat.reduceSub]))
        refine AW.region ?_
        (first | refine awP (op_addi rfl rfl rfl (by omega)) ?_ | refine awP (op_add rfl rfl rfl rfl) ?_)
        refine awP (op_move rfl rfl) ?_
        refine AWL.gh (Gh.drop 2) ?_; (try simp only [nA, Nat.reduceBEq, Nat.reduceEqDiff, ↓reduceIte, Nat.reduceAdd, Nat.reduceSub])
        refine AWL.nil ?_
        refine ⟨i + 1, ⟨by omega, all_step hi.2 e1⟩, by omega, ⟨rfl, rfl, rfl, rfl, rfl, rfl, rfl, trivial⟩, (by first | rfl | trivial), (by first | rfl | trivial)⟩
     ·
      (skip); have hc4 := hc; have hnl : ¬ i < g.length := (by simpa using hc4); have g4 : ¬ (grsE g ≠ 0) := (by rw [grsE_ok hnl hi.2]; decide)
      refine AW.exit ?_; (try simp only [thenE, inBlk, Nat.reduceEqDiff, ↓reduceIte])
      clear hK K
      (refine hK _ ?_; clear hK K; (try simp only [nA, Nat.reduceBEq, Nat.reduceEqDiff, ↓reduceIte, Nat.reduceAdd, Nat.reduceSub]))
      (refine AW.seq_k ?_; intro K hK)
      (refine AW.seq_k ?_; intro K hK)
      refine AW.region ?_
      refine awP (op_move rfl rfl) ?_
      refine awJ (OpQ.j (op_callQ (b := true) rfl en64 (C64 (xs := c) (by omega)) (RL.cons (by first | exact View.same rfl | exact View.nil | exact View.rof | exact View.src .ro | exact View.src .rof | exact View.src (.sl rfl rfl) | exact View.ptr rfl rfl rfl) (RL.nil)) rfl)) ?_; (try simp only [nA, Nat.reduceBEq, Nat.reduceEqDiff, ↓reduceIte, Nat.reduceAdd, Nat.reduceSub])
      refine awP (op_assign rfl rfl) ?_
      refine AWL.nil ?_
      (refine hK _ ?_; clear hK K; (try simp only [nA, Nat.reduceBEq, Nat.reduceEqDiff, ↓reduceIte, Nat.reduceAdd, Nat.reduceSub]))
      (refine AW.seq_k ?_; intro K hK)
      refine AW.region ?_
      refine awP (op_move rfl rfl) ?_
      (first | refine awP (op_neq rfl rfl rfl) ?_ | refine awP (op_sneq rfl rfl rfl) ?_)
      refine AWL.nil ?_
      (refine hK _ ?_; clear hK K; (try simp only [nA, Nat.reduceBEq, Nat.reduceEqDiff, ↓reduceIte, Nat.reduceAdd, Nat.reduceSub]))
      refine AW.cond rfl rfl rfl (fun hc => ?_) (fun hc => ?_)
      ·
       (skip); have hc7 := hc; have g5 : chkL c ≠ 0 := (by simpa using hc7)
       (refine AW.seq_k ?_; intro K hK)
       refine AW.region ?_
       refine awP (op_build2 (xs := [.v (.int .i64 0), .v (.int .i64 0), .v (.int .i64 0), .v (.bool false), .v (.slice none 0 0), .v (.slice none 0 0), .v (.slice none 0 0)]) rfl pl26 ze26 [] rfl rfl rfl) ?_
       refine awP (op_move rfl rfl) ?_
       refine awJ (op_store rfl rfl rfl rfl rfl rfl sz26 rfl (Nat.le_of_ble_eq_true rfl) rfl) ?_; (try simp only [nA, Nat.reduceBEq, Nat.reduceEqDiff, ↓reduceIte, Nat.reduceAdd, Nat.reduceSub])
       refine awP (op_assign rfl rfl) ?_
       refine AWL.nil ?_
       (refine hK _ ?_; clear hK K; (try simp only [nA, Nat.reduceBEq, Nat.reduceEqDiff, ↓reduceIte, Nat.reduceAdd, Nat.reduceSub]))
       refine AW.gh (Gh.cell0 (r := 1) (A := none) (c := 0) (row := [.v (.int .i64 0), .v (.int .i64 0), .v (.int .i64 0), .v (.bool false), .v (.slice none 0 0), .v (.slice none 0 0), .v (.slice none 0 0)]) 0 4 rfl rfl rfl (by decide) rfl) ?_; refine AW.gh (Gh.cell0 (r := 1) (A := none) (c := 0) (row := [.v (.int .i64 0), .v (.int .i64 0), .v (.int .i64 0), .v (.bool false), .ro [], .v (.slice none 0 0), .v (.slice none 0 0)]) 0 5 rfl rfl rfl (by decide) rfl) ?_; refine AW.gh (Gh.cell0 (r := 1) (A := none) (c := 0) (row := [.v (.int .i64 0), .v (.int .i64 0), .v (.int .i64 0), .v (.bool false), .ro [], .ro [], .v (.slice none 0 0)]) 0 6 rfl rfl rfl (by decide) rfl) ?_; (try simp only [nA, Nat.reduceBEq, Nat.reduceEqDiff, ↓reduceIte, Nat.reduceAdd, Nat.reduceSub])
       refine AW.ret ?_; (try simp only [thenE, inBlk, Nat.reduceEqDiff, ↓reduceIte]); rw [off_err (e := chkL c) (by unfold offE; rw [if_neg g1, if_neg g2, if_neg g3, if_neg g4]) g5]; exact RQ.of0 rfl (.cell (Nat.le_of_ble_eq_true rfl) rfl rfl rfl ag26 sz26 (Nat.le_of_ble_eq_true rfl) rfl rfl (.tmp (Nat.le_of_ble_eq_true rfl) rfl rfl .nil))
      ·
       (skip); have hc7 := hc; have g5 : chkL c = 0 := (by simpa using hc7)
       refine AW.skip ?_
       (refine hK _ ?_; clear hK K; (try simp only [nA, Nat.reduceBEq, Nat.reduceEqDiff, ↓reduceIte, Nat.reduceAdd, Nat.reduceSub]))
       (refine AW.seq_k ?_; intro K hK)
       refine AW.region ?_
       refine awP (op_move rfl rfl) ?_
       refine awJ (op_call (b := false) rfl en65 (C65 (l := g) (by omega)) (RL.cons (by first | exact View.same rfl | exact View.nil | exact View.rof | exact View.src .ro | exact View.src .rof | exact View.src (.sl rfl rfl) | exact View.ptr rfl rfl rfl) (RL.nil)) rfl (fun h => by cases h) rfl rfl) ?_; (try simp only [nA, Nat.reduceBEq, Nat.reduceEqDiff, ↓reduceIte, Nat.reduceAdd, Nat.reduceSub])
       refine awP (op_move rfl rfl) ?_
       refine awJ (op_call (b := false) rfl en66 (C66 (l := c) (by omega)) (RL.cons (by first | exact View.same rfl | exact View.nil | exact View.rof | exact View.src .ro | exact View.src .rof | exact View.src (.sl rfl rfl) | exact View.ptr rfl rfl rfl) (RL.nil)) rfl (fun h => by cases h) rfl rfl) ?_; (try simp only [nA, Nat.reduceBEq, Nat.reduceEqDiff, ↓reduceIte, Nat.reduceAdd, Nat.reduceSub])
       (first | refine awP (op_fa_ptr rfl rfl rfl fl26_3 (by exact sz4) (by decide) rfl) ?_ | refine awP (op_fa_rop rfl rfl fl26_3 (by exact sz4) (by decide) (Nat.le_of_ble_eq_true rfl) rfl) ?_)
       refine awJ (op_store rfl rfl rfl rfl rfl rfl sz4 rfl (Nat.le_of_ble_eq_true rfl) rfl) ?_; (try simp only [nA, Nat.reduceBEq, Nat.reduceEqDiff, ↓reduceIte, Nat.reduceAdd, Nat.reduceSub])
       (first | refine awP (op_fa_ptr rfl rfl rfl fl26_4 (by exact sz22) (by decide) rfl) ?_ | refine awP (op_fa_rop rfl rfl fl26_4 (by exact sz22) (by decide) (Nat.le_of_ble_eq_true rfl) rfl) ?_)
       refine awJ (op_store rfl rfl rfl rfl rfl rfl sz22 rfl (Nat.le_of_ble_eq_true rfl) rfl) ?_; (try simp only [nA, Nat.reduceBEq, Nat.reduceEqDiff, ↓reduceIte, Nat.reduceAdd, Nat.reduceSub])
       (first | refine awP (op_fa_ptr rfl rfl rfl fl26_5 (by exact sz23) (by decide) rfl) ?_ | refine awP (op_fa_rop rfl rfl fl26_5 (by exact sz23) (by decide) (Nat.le_of_ble_eq_true rfl) rfl) ?_)
       refine awJ (op_store rfl rfl rfl rfl rfl rfl sz23 rfl (Nat.le_of_ble_eq_true rfl) rfl) ?_; (try simp only [nA, Nat.reduceBEq, Nat.reduceEqDiff, ↓reduceIte, Nat.reduceAdd, Nat.reduceSub])
       refine AWL.nil ?_
       (refine hK _ ?_; clear hK K; (try simp only [nA, Nat.reduceBEq, Nat.reduceEqDiff, ↓reduceIte, Nat.reduceAdd, Nat.reduceSub]))
       (refine AW.seq_k ?_; intro K hK)
       refine AW.region ?_
       (first | refine awR (op_load_ptr rfl rfl rfl rfl ag26 sz26 (Nat.le_of_ble_eq_true rfl) rfl) ?_ | refine awR (op_load_rop rfl rfl ag26 sz26 (Nat.le_of_ble_eq_true rfl) (by decide) rfl) ?_)
       refine awJ (op_store rfl rfl rfl rfl rfl rfl sz26 rfl (Nat.le_of_ble_eq_true rfl) rfl) ?_; (try simp only [nA, Nat.reduceBEq, Nat.reduceEqDiff, ↓reduceIte, Nat.reduceAdd, Nat.reduceSub])
       refine awP (op_assign rfl rfl) ?_
       refine AWL.nil ?_
       (refine hK _ ?_; clear hK K; (try simp only [nA, Nat.reduceBEq, Nat.reduceEqDiff, ↓reduceIte, Nat.reduceAdd, Nat.reduceSub]))
       skip
       refine AW.ret ?_; (try simp only [thenE, inBlk, Nat.reduceEqDiff, ↓reduceIte]); rw [off_ok (by unfold offE; rw [if_neg g1, if_neg g2, if_neg g3, if_neg g4, g5])]; exact RQ.of0 rfl (.cell (Nat.le_of_ble_eq_true rfl) rfl rfl rfl ag26 sz26 (Nat.le_of_ble_eq_true rfl) rfl rfl (.tmp (Nat.le_of_ble_eq_true rfl) rfl rfl .nil))
end Go.Proofs.Ytdnofpggdddimaa
namespace Go.Proofs.Ytdnofpggdddimaa
open Go.RowKit
set_option linter.unusedSimpArgs false
set_option linter.unusedVariables false
set_option maxRecDepth 100000
theorem Fn.nil_agg {P : Program} {f : FuncId} {cs cs' xs ys : List AV} (hle : RL (Le2 P) cs' cs) (h : Fn P f [] (.agg cs :: xs) ys []) : Fn P f [] (.agg cs' :: xs) ys [] := fun w S vals bss vs came => by
  have hargs : RL (AggOK P S w (insT []) vals) vs (.agg cs :: xs) := by
    obtain ⟨u, us, rfl, ⟨cu, rfl, hr⟩, hus⟩ := came.args.cons_inv
    refine RL.cons ⟨cu, rfl, hr.1.trans hle.1, fun i u x hu hx => ?_⟩ hus
    have hi : i < cs'.length := by rw [← hr.1]; exact (List.getElem?_eq_some_iff.1 hu).1
    have hx' := List.getElem?_eq_getElem hi
    have h1 := hr.2 i u _ hu hx'
    have h2 := hle.2 i _ x hx' hx
    revert h1 h2
    generalize cs'[i] = y
    intro h1 h2
    cases h2 with
    | same => exact h1
    | nil => exact Le2.rep (P := P) .nil (show Rep P S w [] u (.v (.slice none 0 0)) from h1)
    | nilo h => exact Le2.rep (P := P) (.nilo h) (show Rep P S w [] u (.v (.slice none 0 0)) from h1)
  exact h w S vals bss vs { came with args := hargs }
abbrev onH (nb nx ls : Int) : Hand := ⟨nb, nx, ls, false, [], [], []⟩
abbrev onV (nb nx ls : Int) : List AV := [.v (.int .i64 nb), .v (.int .i64 nx), .v (.int .i64 ls), .v (.bool false), .v (.slice none 0 0), .v (.slice none 0 0), .v (.slice none 0 0)]
theorem on_sm (nb nx ls : Int) : (onH nb nx ls).Sm := ⟨by simp, by simp, by simp, by simp⟩
abbrev rowO (nb nx ls : Int) (g : List Grant) (x : AV) : List AV := [.v (.int .i64 nb), .v (.int .i64 nx), .v (.int .i64 ls), .v (.bool true), .ro (g.map Grant.av), x, .v (.slice none 0 0)]
end Go.Proofs.Ytdnofpggdddimaa
namespace Go.Proofs.Ytdnofpggdddimaa
open Go.RowKit
set_option linter.unusedSimpArgs false
set_option linter.unusedVariables false
set_option maxRecDepth 100000
def onlR (h : Hand) : Hand × List Op × Int := if valH h ≠ 0 then (zeroH, [], valH h) else if h.offline = true then (onH h.number h.next h.last, h.log, 0) else (zeroH, [], 7)
theorem onl_1 {h : Hand} (h1 : valH h ≠ 0) : onlR h = (zeroH, [], valH h) := by unfold onlR; rw [if_pos h1]
theorem onl_2 {h : Hand} (h1 : ¬ (valH h ≠ 0)) (h2 : h.offline = false) : onlR h = (zeroH, [], 7) := by unfold onlR; rw [if_neg h1, if_neg (by rw [h2]; decide)]
theorem onl_3 {h : Hand} (h1 : ¬ (valH h ≠ 0)) (h2 : h.offline = true) : onlR h = (onH h.number h.next h.last, h.log, 0) := by unfold onlR; rw [if_neg h1, if_pos h2]
theorem C34 {h : Hand} (hs : h.Sm) : Fn Try.prog 34 [] [.agg h.av] [.agg (onlR h).1.av, .ro ((onlR h).2.1.map Op.av), .v (.int .i64 (onlR h).2.2)] [] := by
  refine Spec.body Try.func34 rfl Try.ntmps34 (by simp) rfl ?_; intro S0 own0 v0 w0
  (refine AW.seq_k ?_; intro K hK)
  refine AW.region ?_
  refine awJ (op_box rfl rfl rfl sz26 rfl) ?_; (try simp only [nA, Nat.reduceBEq, Nat.reduceEqDiff, ↓reduceIte, Nat.reduceAdd, Nat.reduceSub])
  refine awJ (op_alloc rfl ze26 rfl) ?_; (try simp only [nA, Nat.reduceBEq, Nat.reduceEqDiff, ↓reduceIte, Nat.reduceAdd, Nat.reduceSub])
  refine awP (op_assign rfl rfl) ?_
  refine awP (op_assign rfl rfl) ?_
  refine AWL.nil ?_
  (refine hK _ ?_; clear hK K; (try simp only [nA, Nat.reduceBEq, Nat.reduceEqDiff, ↓reduceIte, Nat.reduceAdd, Nat.reduceSub]))
  (refine AW.seq_k ?_; intro K hK)
  (refine AW.seq_k ?_; intro K hK)
  refine AW.region ?_
  (first | refine awR (op_load_ptr rfl rfl rfl rfl ag26 sz26 (Nat.le_of_ble_eq_true rfl) rfl) ?_ | refine awR (op_load_rop rfl rfl ag26 sz26 (Nat.le_of_ble_eq_true rfl) (by decide) rfl) ?_)
  refine awJ (OpQ.j (op_callQ (b := true) rfl en18 (C18 (h := h) hs) (RL.cons (by first | exact View.same rfl | exact View.nil | exact View.rof | exact View.src .ro | exact View.src .rof | exact View.src (.sl rfl rfl) | exact View.ptr rfl rfl rfl) (RL.nil)) rfl)) ?_; (try simp only [nA, Nat.reduceBEq, Nat.reduceEqDiff, ↓reduceIte, Nat.reduceAdd, Nat.reduceSub])
  refine awP (op_assign rfl rfl) ?_
  refine AWL.nil ?_
  (refine hK _ ?_; clear hK K; (try simp only [nA, Nat.reduceBEq, Nat.reduceEqDiff, ↓reduceIte, Nat.reduceAdd, Nat.reduceSub]))
  (refine AW.seq_k ?_; intro K hK)
  refine AW.region ?_
  refine awP (op_move rfl rfl) ?_
  (first | refine awP (op_neq rfl rfl rfl) ?_ | refine awP (op_sneq rfl rfl rfl) ?_)
  refine AWL.nil ?_
  (refine hK _ ?_; clear hK K; (try simp only [nA, Nat.reduceBEq, Nat.reduceEqDiff, ↓reduceIte, Nat.reduceAdd, Nat.reduceSub]))
  refine AW.cond rfl rfl rfl (fun hc => ?_) (fun hc => ?_)
  ·
   (skip); have hc1 := hc; have g1 : valH h ≠ 0 := (by simpa using hc1)
   (refine AW.seq_k ?_; intro K hK)
   refine AW.region ?_
   refine awP (op_build2 (xs := [.v (.int .i64 0), .v (.int .i64 0), .v (.int .i64 0), .v (.bool false), .v (.slice none 0 0), .v (.slice none 0 0), .v (.slice none 0 0)]) rfl pl26 ze26 [] rfl rfl rfl) ?_
   refine awP (op_move rfl rfl) ?_
   refine awJ (op_store rfl rfl rfl rfl rfl rfl sz26 rfl (Nat.le_of_ble_eq_true rfl) rfl) ?_; (try simp only [nA, Nat.reduceBEq, Nat.reduceEqDiff, ↓reduceIte, Nat.reduceAdd, Nat.reduceSub])
   refine awP (op_assign rfl rfl) ?_
   refine awP (op_assign rfl rfl) ?_
   refine AWL.nil ?_
   (refine hK _ ?_; clear hK K; (try simp only [nA, Nat.reduceBEq, Nat.reduceEqDiff, ↓reduceIte, Nat.reduceAdd, Nat.reduceSub]))
   refine AW.gh (Gh.cell0 (r := 1) (A := none) (c := 0) (row := [.v (.int .i64 0), .v (.int .i64 0), .v (.int .i64 0), .v (.bool false), .v (.slice none 0 0), .v (.slice none 0 0), .v (.slice none 0 0)]) 0 4 rfl rfl rfl (by decide) rfl) ?_; refine AW.gh (Gh.cell0 (r := 1) (A := none) (c := 0) (row := [.v (.int .i64 0), .v (.int .i64 0), .v (.int .i64 0), .v (.bool false), .ro [], .v (.slice none 0 0), .v (.slice none 0 0)]) 0 5 rfl rfl rfl (by decide) rfl) ?_; refine AW.gh (Gh.cell0 (r := 1) (A := none) (c := 0) (row := [.v (.int .i64 0), .v (.int .i64 0), .v (.int .i64 0), .v (.bool false), .ro [], .ro [], .v (.slice none 0 0)]) 0 6 rfl rfl rfl (by decide) rfl) ?_; (try simp only [nA, Nat.reduceBEq, Nat.reduceEqDiff, ↓reduceIte, Nat.reduceAdd, Nat.reduceSub]); refine AW.gh (Gh.nil (e := 33) 3 (Nat.le_of_ble_eq_true rfl) rfl sz33) ?_; (try simp only [nA, Nat.reduceBEq, Nat.reduceEqDiff, ↓reduceIte, Nat.reduceAdd, Nat.reduceSub]); refine AW.gh (Gh.freeze 3 (Nat.le_of_ble_eq_true rfl) rfl rfl (by simp) (es' := ([] : List Op).map Op.av) rfl) ?_; (try simp only [nA, Nat.reduceBEq, Nat.reduceEqDiff, ↓reduceIte, Nat.reduceAdd, Nat.reduceSub])
   refine AW.ret ?_; (try simp only [thenE, inBlk, Nat.reduceEqDiff, ↓reduceIte]); rw [onl_1 g1]; exact RQ.of0 rfl (.cell (Nat.le_of_ble_eq_true rfl) rfl rfl rfl ag26 sz26 (Nat.le_of_ble_eq_true rfl) rfl rfl (.tmp (Nat.le_of_ble_eq_true rfl) rfl rfl (.tmp (Nat.le_of_ble_eq_true rfl) rfl rfl .nil)))
  ·
   (skip); have hc1 := hc; have g1 : ¬ (valH h ≠ 0) := (by simpa using hc1)
   refine AW.skip ?_
   (refine hK _ ?_; clear hK K; (try simp only [nA, Nat.reduceBEq, Nat.reduceEqDiff, ↓reduceIte, Nat.reduceAdd, Nat.reduceSub]))
   (refine AW.seq_k ?_; intro K hK)
   (refine AW.seq_k ?_; intro K hK)
   refine AW.region ?_
   (first | refine awP (op_fa_ptr rfl rfl rfl fl26_3 (by exact sz4) (by decide) rfl) ?_ | refine awP (op_fa_rop rfl rfl fl26_3 (by exact sz4) (by decide) (Nat.le_of_ble_eq_true rfl) rfl) ?_)
   (first | refine awR (op_load_ptr1 rfl rfl rfl rfl ag4 rfl rfl) ?_ | refine awR (op_load_rop1 rfl rfl ag4) ?_)
   refine awP (op_not rfl rfl rfl) ?_
   refine AWL.nil ?_
   (refine hK _ ?_; clear hK K; (try simp only [nA, Nat.reduceBEq, Nat.reduceEqDiff, ↓reduceIte, Nat.reduceAdd, Nat.reduceSub]))
   refine AW.cond rfl rfl rfl (fun hc => ?_) (fun hc => ?_)
   ·
    (skip); have hc2 := hc; have g2 : h.offline = false := (by simpa using hc2)
    (refine AW.seq_k ?_; intro K hK)
    refine AW.region ?_
    refine awP (op_build2 (xs := [.v (.int .i64 0), .v (.int .i64 0), .v (.int .i64 0), .v (.bool false), .v (.slice none 0 0), .v (.slice none 0 0), .v (.slice none 0 0)]) rfl pl26 ze26 [] rfl rfl rfl) ?_
    refine awJ (op_store rfl rfl rfl rfl rfl rfl sz26 rfl (Nat.le_of_ble_eq_true rfl) rfl) ?_; (try simp only [nA, Nat.reduceBEq, Nat.reduceEqDiff, ↓reduceIte, Nat.reduceAdd, Nat.reduceSub])
    refine awP (op_assign rfl rfl) ?_
    refine awP (op_assign rfl rfl) ?_
    refine AWL.nil ?_
    (refine hK _ ?_; clear hK K; (try simp only [nA, Nat.reduceBEq, Nat.reduceEqDiff, ↓reduceIte, Nat.reduceAdd, Nat.reduceSub]))
    refine AW.gh (Gh.cell0 (r := 1) (A := none) (c := 0) (row := [.v (.int .i64 0), .v (.int .i64 0), .v (.int .i64 0), .v (.bool false), .v (.slice none 0 0), .v (.slice none 0 0), .v (.slice none 0 0)]) 0 4 rfl rfl rfl (by decide) rfl) ?_; refine AW.gh (Gh.cell0 (r := 1) (A := none) (c := 0) (row := [.v (.int .i64 0), .v (.int .i64 0), .v (.int .i64 0), .v (.bool false), .ro [], .v (.slice none 0 0), .v (.slice none 0 0)]) 0 5 rfl rfl rfl (by decide) rfl) ?_; refine AW.gh (Gh.cell0 (r := 1) (A := none) (c := 0) (row := [.v (.int .i64 0), .v (.int .i64 0), .v (.int .i64 0), .v (.bool false), .ro [], .ro [], .v (.slice none 0 0)]) 0 6 rfl rfl rfl (by decide) rfl) ?_; (try simp only [nA, Nat.reduceBEq, Nat.reduceEqDiff, ↓reduceIte, Nat.reduceAdd, Nat.reduceSub]); refine AW.gh (Gh.nil (e := 33) 3 (Nat.le_of_ble_eq_true rfl) rfl sz33) ?_; (try simp only [nA, Nat.reduceBEq, Nat.reduceEqDiff, ↓reduceIte, Nat.reduceAdd, Nat.reduceSub]); refine AW.gh (Gh.freeze 3 (Nat.le_of_ble_eq_true rfl) rfl rfl (by simp) (es' := ([] : List Op).map Op.av) rfl) ?_; (try simp only [nA, Nat.reduceBEq, Nat.reduceEqDiff, ↓reduceIte, Nat.reduceAdd, Nat.reduceSub])
    refine AW.ret ?_; (try simp only [thenE, inBlk, Nat.reduceEqDiff, ↓reduceIte]); rw [onl_2 g1 g2]; exact RQ.of0 rfl (.cell (Nat.le_of_ble_eq_true rfl) rfl rfl rfl ag26 sz26 (Nat.le_of_ble_eq_true rfl) rfl rfl (.tmp (Nat.le_of_ble_eq_true rfl) rfl rfl (.tmp (Nat.le_of_ble_eq_true rfl) rfl rfl .nil)))
   ·
    (skip); have hc2 := hc; have g2 : h.offline = true := (by simpa using hc2)
    refine AW.skip ?_
    (refine hK _ ?_; clear hK K; (try simp only [nA, Nat.reduceBEq, Nat.reduceEqDiff, ↓reduceIte, Nat.reduceAdd, Nat.reduceSub]))
    (refine AW.seq_k ?_; intro K hK)
    refine AW.ad [(0, 1, .own 26 [h.av])] mix rfl ?_
    (first | refine adP 0 rfl (fun T' ok => op_fa_ptr rfl rfl (by first | exact ok.1 | exact ok.2.1 | exact ok.2.2.1 | exact ok.2.2.2.1) fl26_0 (by exact sz3) (by decide) rfl) (by first | exact trivial | exact ⟨rfl, trivial⟩ | exact ⟨rfl, rfl, trivial⟩ | exact ⟨rfl, rfl, rfl, trivial⟩) (by kernel_rfl) (by kernel_rfl) ?_ | refine adP 0 rfl (fun T' ok => op_fa_rop rfl rfl fl26_0 (by exact sz3) (by decide) (Nat.le_of_ble_eq_true rfl) rfl) (by first | exact trivial | exact ⟨rfl, trivial⟩ | exact ⟨rfl, rfl, trivial⟩ | exact ⟨rfl, rfl, rfl, trivial⟩) (by kernel_rfl) (by kernel_rfl) ?_)
    (first | refine adR 1 rfl (fun T' ok => op_load_ptr1 rfl rfl (by first | exact ok.1 | exact ok.2.1 | exact ok.2.2.1 | exact ok.2.2.2.1) rfl ag3 rfl rfl) (by first | exact trivial | exact ⟨rfl, trivial⟩ | exact ⟨rfl, rfl, trivial⟩ | exact ⟨rfl, rfl, rfl, trivial⟩) (by kernel_rfl) (by kernel_rfl) ?_ | refine adR 1 rfl (fun T' ok => op_load_rop1 rfl rfl ag3) (by first | exact trivial | exact ⟨rfl, trivial⟩ | exact ⟨rfl, rfl, trivial⟩ | exact ⟨rfl, rfl, rfl, trivial⟩) (by kernel_rfl) (by kernel_rfl) ?_)
    (first | refine adP 2 rfl (fun T' ok => op_fa_ptr rfl rfl (by first | exact ok.1 | exact ok.2.1 | exact ok.2.2.1 | exact ok.2.2.2.1) fl26_1 (by exact sz3) (by decide) rfl) (by first | exact trivial | exact ⟨rfl, trivial⟩ | exact ⟨rfl, rfl, trivial⟩ | exact ⟨rfl, rfl, rfl, trivial⟩) (by kernel_rfl) (by kernel_rfl) ?_ | refine adP 2 rfl (fun T' ok => op_fa_rop rfl rfl fl26_1 (by exact sz3) (by decide) (Nat.le_of_ble_eq_true rfl) rfl) (by first | exact trivial | exact ⟨rfl, trivial⟩ | exact ⟨rfl, rfl, trivial⟩ | exact ⟨rfl, rfl, rfl, trivial⟩) (by kernel_rfl) (by kernel_rfl) ?_)
    (first | refine adR 3 rfl (fun T' ok => op_load_ptr1 rfl rfl (by first | exact ok.1 | exact ok.2.1 | exact ok.2.2.1 | exact ok.2.2.2.1) rfl ag3 rfl rfl) (by first | exact trivial | exact ⟨rfl, trivial⟩ | exact ⟨rfl, rfl, trivial⟩ | exact ⟨rfl, rfl, rfl, trivial⟩) (by kernel_rfl) (by kernel_rfl) ?_ | refine adR 3 rfl (fun T' ok => op_load_rop1 rfl rfl ag3) (by first | exact trivial | exact ⟨rfl, trivial⟩ | exact ⟨rfl, rfl, trivial⟩ | exact ⟨rfl, rfl, rfl, trivial⟩) (by kernel_rfl) (by kernel_rfl) ?_)
    (first | refine adP 4 rfl (fun T' ok => op_fa_ptr rfl rfl (by first | exact ok.1 | exact ok.2.1 | exact ok.2.2.1 | exact ok.2.2.2.1) fl26_2 (by exact sz3) (by decide) rfl) (by first | exact trivial | exact ⟨rfl, trivial⟩ | exact ⟨rfl, rfl, trivial⟩ | exact ⟨rfl, rfl, rfl, trivial⟩) (by kernel_rfl) (by kernel_rfl) ?_ | refine adP 4 rfl (fun T' ok => op_fa_rop rfl rfl fl26_2 (by exact sz3) (by decide) (Nat.le_of_ble_eq_true rfl) rfl) (by first | exact trivial | exact ⟨rfl, trivial⟩ | exact ⟨rfl, rfl, trivial⟩ | exact ⟨rfl, rfl, rfl, trivial⟩) (by kernel_rfl) (by kernel_rfl) ?_)
    (first | refine adR 5 rfl (fun T' ok => op_load_ptr1 rfl rfl (by first | exact ok.1 | exact ok.2.1 | exact ok.2.2.1 | exact ok.2.2.2.1) rfl ag3 rfl rfl) (by first | exact trivial | exact ⟨rfl, trivial⟩ | exact ⟨rfl, rfl, trivial⟩ | exact ⟨rfl, rfl, rfl, trivial⟩) (by kernel_rfl) (by kernel_rfl) ?_ | refine adR 5 rfl (fun T' ok => op_load_rop1 rfl rfl ag3) (by first | exact trivial | exact ⟨rfl, trivial⟩ | exact ⟨rfl, rfl, trivial⟩ | exact ⟨rfl, rfl, rfl, trivial⟩) (by kernel_rfl) (by kernel_rfl) ?_)
    refine adP 6 rfl (fun T' ok => op_build2 (xs := [_, _, _, .v (.bool false), .v (.slice none 0 0), .v (.slice none 0 0), .v (.slice none 0 0)]) rfl pl26 ze26 [(0, [_]), (1, [_]), (2, [_])] rfl rfl rfl) (by first | exact trivial | exact ⟨rfl, trivial⟩ | exact ⟨rfl, rfl, trivial⟩ | exact ⟨rfl, rfl, rfl, trivial⟩) (by kernel_rfl) (by kernel_rfl) ?_
    (first | refine adP 7 rfl (fun T' ok => op_fa_ptr rfl rfl (by first | exact ok.1 | exact ok.2.1 | exact ok.2.2.1 | exact ok.2.2.2.1) fl26_6 (by exact sz24) (by decide) rfl) (by first | exact trivial | exact ⟨rfl, trivial⟩ | exact ⟨rfl, rfl, trivial⟩ | exact ⟨rfl, rfl, rfl, trivial⟩) (by kernel_rfl) (by kernel_rfl) ?_ | refine adP 7 rfl (fun T' ok => op_fa_rop rfl rfl fl26_6 (by exact sz24) (by decide) (Nat.le_of_ble_eq_true rfl) rfl) (by first | exact trivial | exact ⟨rfl, trivial⟩ | exact ⟨rfl, rfl, trivial⟩ | exact ⟨rfl, rfl, rfl, trivial⟩) (by kernel_rfl) (by kernel_rfl) ?_)
    (first | refine adR 8 rfl (fun T' ok => op_load_ptr1 rfl rfl (by first | exact ok.1 | exact ok.2.1 | exact ok.2.2.1 | exact ok.2.2.2.1) rfl ag24 rfl rfl) (by first | exact trivial | exact ⟨rfl, trivial⟩ | exact ⟨rfl, rfl, trivial⟩ | exact ⟨rfl, rfl, rfl, trivial⟩) (by kernel_rfl) (by kernel_rfl) ?_ | refine adR 8 rfl (fun T' ok => op_load_rop1 rfl rfl ag24) (by first | exact trivial | exact ⟨rfl, trivial⟩ | exact ⟨rfl, rfl, trivial⟩ | exact ⟨rfl, rfl, rfl, trivial⟩) (by kernel_rfl) (by kernel_rfl) ?_)
    refine adF 9 rfl (fun T' ok => op_callS rfl en69 (C69 (l := h.log) (by have := hs.l; omega)) (RL.cons (by first | exact View.same rfl | exact View.nil | exact View.rof | exact View.src .ro | exact View.src .rof | exact View.src (.sl rfl rfl) | exact View.ptr rfl rfl rfl) (RL.nil)) rfl rfl rfl) (by first | exact trivial | exact ⟨rfl, trivial⟩ | exact ⟨rfl, rfl, trivial⟩ | exact ⟨rfl, rfl, rfl, trivial⟩) (by kernel_rfl) (by kernel_rfl) ?_; (try simp only [nA, Nat.reduceBEq, Nat.reduceEqDiff, ↓reduceIte, Nat.reduceAdd, Nat.reduceSub])
    refine adJ 10 rfl (op_store rfl rfl rfl rfl rfl rfl sz26 rfl (Nat.le_of_ble_eq_true rfl) rfl) (by kernel_rfl) (by first | exact trivial | exact ⟨rfl, trivial⟩ | exact ⟨rfl, rfl, trivial⟩ | exact ⟨rfl, rfl, rfl, trivial⟩) ?_; (try simp only [nA, Nat.reduceBEq, Nat.reduceEqDiff, ↓reduceIte, Nat.reduceAdd, Nat.reduceSub])
    refine adP 11 rfl (fun T' ok => op_assign rfl rfl) (by first | exact trivial | exact ⟨rfl, trivial⟩ | exact ⟨rfl, rfl, trivial⟩ | exact ⟨rfl, rfl, rfl, trivial⟩) (by kernel_rfl) (by kernel_rfl) ?_
    refine adP 12 rfl (fun T' ok => op_assign rfl rfl) (by first | exact trivial | exact ⟨rfl, trivial⟩ | exact ⟨rfl, rfl, trivial⟩ | exact ⟨rfl, rfl, rfl, trivial⟩) (by kernel_rfl) (by kernel_rfl) ?_
    refine adDone (by kernel_rfl) ?_
    (refine hK _ ?_; clear hK K; (try simp only [nA, Nat.reduceBEq, Nat.reduceEqDiff, ↓reduceIte, Nat.reduceAdd, Nat.reduceSub]))
    refine AW.gh (Gh.cell0 (r := 1) (A := none) (c := 0) (row := onV h.number h.next h.last) 0 4 rfl rfl rfl (by decide) rfl) ?_; refine AW.gh (Gh.cell0 (r := 1) (A := none) (c := 0) (row := (onV h.number h.next h.last).set 4 (.ro [])) 0 5 rfl rfl rfl (by decide) rfl) ?_; refine AW.gh (Gh.cell0 (r := 1) (A := none) (c := 0) (row := ((onV h.number h.next h.last).set 4 (.ro [])).set 5 (.ro [])) 0 6 rfl rfl rfl (by decide) rfl) ?_; (try simp only [nA, Nat.reduceBEq, Nat.reduceEqDiff, ↓reduceIte, Nat.reduceAdd, Nat.reduceSub])
    refine AW.ret ?_; (try simp only [thenE, inBlk, Nat.reduceEqDiff, ↓reduceIte]); rw [onl_3 g1 g2]; exact RQ.of0 rfl (.cell (Nat.le_of_ble_eq_true rfl) rfl rfl rfl ag26 sz26 (Nat.le_of_ble_eq_true rfl) rfl rfl (.tmp (Nat.le_of_ble_eq_true rfl) rfl rfl (.tmp (Nat.le_of_ble_eq_true rfl) rfl rfl .nil)))
def newL (n : Int) : List Hand := if inB n 0 6 then (List.range n.toNat).map (fun (k : Nat) => onH ((k : Int) + 1) 1 0) else []
def newE (n : Int) : Int := if inB n 0 6 then 0 else 1
theorem new_no {n : Int} (h : inB n 0 6 = false) : newL n = [] ∧ newE n = 1 := by unfold newL newE; rw [h]; exact ⟨rfl, rfl⟩
theorem new_yes {m : Nat} (h : inB (m : Int) 0 6 = true) : newL m = (List.range m).map (fun (k : Nat) => onH ((k : Int) + 1) 1 0) ∧ newE m = 0 := by unfold newL newE; rw [h]; exact ⟨rfl, rfl⟩
abbrev newV (m : Nat) : List (List AV) := (List.range m).map fun (k : Nat) => onV ((k : Int) + 1) 1 0
theorem newV_succ (m : Nat) : newV m ++ [onV ((m : Int) + 1) 1 0] = newV (m + 1) := by unfold newV; rw [List.range_succ, List.map_append]; rfl
theorem hav_flat (l : List Hand) : ∀ r ∈ l.map Hand.av, ∀ c ∈ r, flatA c = true := fun r hr c hc => by
  obtain ⟨g, _, rfl⟩ := List.mem_map.1 hr
  simp only [Hand.av, List.mem_cons, List.not_mem_nil, or_false] at hc
  rcases hc with rfl | rfl | rfl | rfl | rfl | rfl | rfl <;> rfl
theorem on_le (a b c : Int) : RL (Le2 Try.prog) (onV a b c) (onH a b c).av := RL.cons .same (RL.cons .same (RL.cons .same (RL.cons .same (RL.cons .nil (RL.cons .nil (RL.cons .nil RL.nil))))))
theorem newV_le : ∀ l : List Nat, RL (Le2 Try.prog) (l.map fun (k : Nat) => onV ((k : Int) + 1) 1 0).flatten ((l.map fun (k : Nat) => onH ((k : Int) + 1) 1 0).map Hand.av).flatten
  | [] => RL.nil
  | k :: l => by
    rw [List.map_cons, List.map_cons, List.map_cons, List.flatten_cons, List.flatten_cons]
    exact RL.append (on_le _ _ _) (newV_le l)
theorem C13 {n : Int} : Fn Try.prog 13 [] [.v (.int .i64 n)] [.ro ((newL n).map Hand.av), .v (.int .i64 (newE n))] [] := by
  refine Spec.body Try.func13 rfl Try.ntmps13 (by simp) rfl ?_; intro S0 own0 v0 w0
  (refine AW.seq_k ?_; intro K hK)
  refine AW.region ?_
  refine awP (op_assign rfl rfl) ?_
  refine awP (op_assign rfl rfl) ?_
  refine AWL.nil ?_
  (refine hK _ ?_; clear hK K; (try simp only [nA, Nat.reduceBEq, Nat.reduceEqDiff, ↓reduceIte, Nat.reduceAdd, Nat.reduceSub]))
  (refine AW.seq_k ?_; intro K hK)
  (refine AW.seq_k ?_; intro K hK)
  refine AW.region ?_
  refine awP (op_move rfl rfl) ?_
  refine awJ (OpQ.j (op_callQ (b := true) rfl en43 (C43) (RL.cons (by first | exact View.same rfl | exact View.nil | exact View.rof | exact View.src .ro | exact View.src .rof | exact View.src (.sl rfl rfl) | exact View.ptr rfl rfl rfl) (RL.cons (by first | exact View.same rfl | exact View.nil | exact View.rof | exact View.src .ro | exact View.src .rof | exact View.src (.sl rfl rfl) | exact View.ptr rfl rfl rfl) (RL.cons (by first | exact View.same rfl | exact View.nil | exact View.rof | exact View.src .ro | exact View.src .rof | exact View.src (.sl rfl rfl) | exact View.ptr rfl rfl rfl) (RL.nil)))) rfl)) ?_; (try simp only [nA, Nat.reduceBEq, Nat.reduceEqDiff, ↓reduceIte, Nat.reduceAdd, Nat.reduceSub])
  refine awP (op_not rfl rfl rfl) ?_
  refine AWL.nil ?_
  (refine hK _ ?_; clear hK K; (try simp only [nA, Nat.reduceBEq, Nat.reduceEqDiff, ↓reduceIte, Nat.reduceAdd, Nat.reduceSub]))
  refine AW.cond rfl rfl rfl (fun hc => ?_) (fun hc => ?_)
  ·
   (skip); have hc1 := hc; have g1 : inB n 0 6 = false := (by simpa using hc1)
   (refine AW.seq_k ?_; intro K hK)
   refine AW.region ?_
   refine awP (op_assign rfl rfl) ?_
   refine awP (op_assign rfl rfl) ?_
   refine AWL.nil ?_
   (refine hK _ ?_; clear hK K; (try simp only [nA, Nat.reduceBEq, Nat.reduceEqDiff, ↓reduceIte, Nat.reduceAdd, Nat.reduceSub]))
   refine AW.gh (Gh.nil (e := 26) 2 (Nat.le_of_ble_eq_true rfl) rfl sz26) ?_; (try simp only [nA, Nat.reduceBEq, Nat.reduceEqDiff, ↓reduceIte, Nat.reduceAdd, Nat.reduceSub]); refine AW.gh (Gh.freeze 2 (Nat.le_of_ble_eq_true rfl) rfl rfl (by simp) (es' := ([] : List Hand).map Hand.av) rfl) ?_; (try simp only [nA, Nat.reduceBEq, Nat.reduceEqDiff, ↓reduceIte, Nat.reduceAdd, Nat.reduceSub])
   refine AW.ret ?_; (try simp only [thenE, inBlk, Nat.reduceEqDiff, ↓reduceIte]); rw [(new_no g1).1, (new_no g1).2]; exact RQ.of0 rfl (.tmp (Nat.le_of_ble_eq_true rfl) rfl rfl (.tmp (Nat.le_of_ble_eq_true rfl) rfl rfl .nil))
  ·
   (skip); have hc1 := hc; have g1 : inB n 0 6 = true := (by simpa using hc1); obtain ⟨m, rfl⟩ : ∃ m : Nat, n = m := (by have h := g1; unfold inB at h; simp at h; exact ⟨n.toNat, by omega⟩); have hm6 : m ≤ 6 := (by have h := g1; unfold inB at h; simp at h; omega)
   refine AW.skip ?_
   (refine hK _ ?_; clear hK K; (try simp only [nA, Nat.reduceBEq, Nat.reduceEqDiff, ↓reduceIte, Nat.reduceAdd, Nat.reduceSub]))
   (refine AW.seq_k ?_; intro K hK)
   refine AW.region ?_
   refine awP (op_assign rfl rfl) ?_
   refine AWL.nil ?_
   (refine hK _ ?_; clear hK K; (try simp only [nA, Nat.reduceBEq, Nat.reduceEqDiff, ↓reduceIte, Nat.reduceAdd, Nat.reduceSub]))
   (refine AW.seq_k ?_; intro K hK)
   (refine AW.seq_k ?_; intro K hK)
   refine AW.region ?_
   refine awP (op_move rfl rfl) ?_
   refine awP (op_move rfl rfl) ?_
   refine AWL.nil ?_
   (refine hK _ ?_; clear hK K; (try simp only [nA, Nat.reduceBEq, Nat.reduceEqDiff, ↓reduceIte, Nat.reduceAdd, Nat.reduceSub]))
   refine AW.block ?_
   refine AW.gh (Gh.nil (e := 26) 4 (Nat.le_of_ble_eq_true rfl) rfl sz26) ?_; (try simp only [nA, Nat.reduceBEq, Nat.reduceEqDiff, ↓reduceIte, Nat.reduceAdd, Nat.reduceSub]); refine AW.loopI (fun (q : Nat × Nat × Nat) => [(4, .sl 0 q.2.1 0 q.1), (9, .v (.int .i64 (m : Nat))), (10, .v (.int .i64 (q.1 : Nat)))]) (fun q => ⟨[(q.2.1, .own 26 (newV q.1))], q.2.2⟩) (fun q => q.1 ≤ m) (fun q => m - q.1) (0, _, _) (by simp) ⟨rfl, rfl, rfl, trivial⟩ rfl ?_; rintro ⟨i, v, ep⟩ ρ hj; dsimp only at hj ⊢; simp only [updL]; (try simp only [nA, Nat.reduceBEq, Nat.reduceEqDiff, ↓reduceIte, Nat.reduceAdd, Nat.reduceSub])
   (refine AW.seq_k ?_; intro K hK)
   refine AW.region ?_
   refine awP (op_lss rfl rfl rfl) ?_
   refine AWL.nil ?_
   (refine hK _ ?_; clear hK K; (try simp only [nA, Nat.reduceBEq, Nat.reduceEqDiff, ↓reduceIte, Nat.reduceAdd, Nat.reduceSub]))
   (refine AW.seq_k ?_; intro K hK)
   refine AW.cond rfl rfl rfl (fun hc => ?_) (fun hc => ?_)
   ·
    (skip); have hc2 := hc; have hlt : i < m := (by simpa using hc2)
    refine AW.skip ?_
    (refine hK _ ?_; clear hK K; (try simp only [nA, Nat.reduceBEq, Nat.reduceEqDiff, ↓reduceIte, Nat.reduceAdd, Nat.reduceSub]))
    (refine AW.seq_k ?_; intro K hK)
    refine AW.block ?_
    (refine AW.seq_k ?_; intro K hK)
    refine AW.region ?_
    refine awP (op_move rfl rfl) ?_
    refine awP (op_assign rfl rfl) ?_
    refine AWL.nil ?_
    (refine hK _ ?_; clear hK K; (try simp only [nA, Nat.reduceBEq, Nat.reduceEqDiff, ↓reduceIte, Nat.reduceAdd, Nat.reduceSub]))
    refine AW.region ?_
    refine awP (op_move rfl rfl) ?_
    refine awP (op_move rfl rfl) ?_
    (first | refine awP (op_addi rfl rfl rfl (by omega)) ?_ | refine awP (op_add rfl rfl rfl rfl) ?_)
    refine awP (op_build2 (xs := [_, _, .v (.int .i64 0), .v (.bool false), .v (.slice none 0 0), .v (.slice none 0 0), .v (.slice none 0 0)]) rfl pl26 ze26 [(0, [_]), (1, [_])] rfl rfl rfl) ?_
    refine awJ (OpJ.frz (op_buildSlice rfl [(0, onV ((i : Int) + 1) 1 0)] [onV ((i : Int) + 1) 1 0] Try.underlying38 ze26 rfl (by simp) rfl (by simp) rfl (Nat.le_of_ble_eq_true rfl) (by simp [maxLen])) (by simp [flatA]) rfl) ?_; (try simp only [nA, Nat.reduceBEq, Nat.reduceEqDiff, ↓reduceIte, Nat.reduceAdd, Nat.reduceSub])
    refine awJ (op_app (r := 0) (rows := [onV ((i : Int) + 1) 1 0]) rfl rfl rfl rfl (by simp) .ro Try.underlying38 ze26 (by decide) (by simp) (by simp; omega) (by decide) (newV_succ i) (n := i + 1) (by simp)) ?_; (try simp only [nA, Nat.reduceBEq, Nat.reduceEqDiff, ↓reduceIte, Nat.reduceAdd, Nat.reduceSub])
    refine awP (op_assign rfl rfl) ?_
    refine AWL.nil ?_
    (try simp only [thenE, inBlk, Nat.reduceEqDiff, ↓reduceIte])
    (refine hK _ ?_; clear hK K; (try simp only [nA, Nat.reduceBEq, Nat.reduceEqDiff, ↓reduceIte, Nat.reduceAdd, Nat.reduceSub]))
    refine AW.region ?_
    (first | refine awP (op_addi rfl rfl rfl (by omega)) ?_ | refine awP (op_add rfl rfl rfl rfl) ?_)
    refine awP (op_move rfl rfl) ?_
    skip
    refine AWL.nil ?_
    refine ⟨(i + 1, _, _), by dsimp only; omega, by dsimp only; omega, ⟨rfl, rfl, rfl, trivial⟩, (by first | rfl | trivial), (by first | rfl | trivial)⟩
   ·
    (skip); have hc2 := hc; have hnl : ¬ i < m := (by simpa using hc2); obtain rfl : i = m := (by omega)
    refine AW.exit ?_; (try simp only [thenE, inBlk, Nat.reduceEqDiff, ↓reduceIte])
    clear hK K
    (refine hK _ ?_; clear hK K; (try simp only [nA, Nat.reduceBEq, Nat.reduceEqDiff, ↓reduceIte, Nat.reduceAdd, Nat.reduceSub]))
    (refine AW.seq_k ?_; intro K hK)
    refine AW.region ?_
    refine awP (op_move rfl rfl) ?_
    refine awP (op_assign rfl rfl) ?_
    refine awP (op_assign rfl rfl) ?_
    refine AWL.nil ?_
    (refine hK _ ?_; clear hK K; (try simp only [nA, Nat.reduceBEq, Nat.reduceEqDiff, ↓reduceIte, Nat.reduceAdd, Nat.reduceSub]))
    refine AW.gh (Gh.slot2 (r := 0) (es' := ((List.range i).map (fun (k : Nat) => onH ((k : Int) + 1) 1 0)).map Hand.av) rfl (by simp) (newV_le _)) ?_; (try simp only [nA, Nat.reduceBEq, Nat.reduceEqDiff, ↓reduceIte, Nat.reduceAdd, Nat.reduceSub]); refine AW.gh (Gh.freeze 2 (Nat.le_of_ble_eq_true rfl) rfl rfl (hav_flat _) (es' := ((List.range i).map (fun (k : Nat) => onH ((k : Int) + 1) 1 0)).map Hand.av) (List.take_of_length_le (by simp))) ?_; (try simp only [nA, Nat.reduceBEq, Nat.reduceEqDiff, ↓reduceIte, Nat.reduceAdd, Nat.reduceSub])
    refine AW.ret ?_; (try simp only [thenE, inBlk, Nat.reduceEqDiff, ↓reduceIte]); rw [(new_yes g1).1, (new_yes g1).2]; exact RQ.of0 rfl (.tmp (Nat.le_of_ble_eq_true rfl) rfl rfl (.tmp (Nat.le_of_ble_eq_true rfl) rfl rfl .nil))
end Go.Proofs.Ytdnofpggdddimaa
namespace Go.Proofs.Ytdnofpggdddimaa
open Go.RowKit
set_option linter.unusedSimpArgs false
set_option linter.unusedVariables false
set_option maxRecDepth 100000
abbrev exP : Piece := ⟨⟨0, 117, 1000⟩, 12, 0⟩
abbrev exQ : Piece := ⟨⟨0, 117, 1001⟩, 12, 0⟩
abbrev exC : Container := ⟨4, flightN 0, 31, 100, 9, 0, 0, []⟩
abbrev exG : Grant := ⟨exP, flightN 0⟩
abbrev exO (t s k : Int) : Op := ⟨t, 1, s, k, 4, exP⟩
abbrev exH (n l : Int) (log : List Op) : Hand := ⟨1, n, l, true, [exG], [exC], log⟩
theorem aw_off : offR (onH 1 1 0) [exG] [exC] = (exH 1 0 [], 0) := by
  have he : offE (onH 1 1 0) [exG] [exC] = 0 := by decide +kernel
  rw [off_ok he]; rfl
theorem aw_granted (p : Piece) : grantedB [exG] p (flightN 0) = piEq p exP := by
  unfold grantedB idxI
  have e : grEq ⟨p, flightN 0⟩ exG = piEq p exP := by
    unfold grEq
    rw [show flEq (flightN 0) (flightN 0) = true from flEq_iff.2 rfl, Bool.and_true]
  cases hp : piEq p exP <;> simp [List.findIdx_cons, e, hp]
theorem aw_load (n l : Int) (log : List Op) (p : Piece) (k : Int) : loadErr (exH n l log) p k = if k ≠ 4 then 6 else if piEq p exP = false then 10 else if loadedB log p.plate then 5 else 0 := by
  unfold loadErr
  have hi : idxI (fun c : Container => decide (c.number = k)) [exC] = if k = 4 then 0 else -1 := by
    unfold idxI
    by_cases hk : k = 4
    · subst hk; simp [List.findIdx_cons]
    · simp [List.findIdx_cons, hk, Ne.symm hk]
  by_cases hk : k = 4
  · subst hk
    rw [show (exH n l log).conts = [exC] from rfl, hi, if_pos rfl, if_neg (by decide : ¬ ((0 : Int) < 0))]
    rw [show (exH n l log).grants = [exG] from rfl, show ([exC].getD (0 : Int).toNat default).flight = flightN 0 from rfl, aw_granted, if_neg (by decide : ¬ ((4 : Int) ≠ 4))]
  · rw [show (exH n l log).conts = [exC] from rfl, hi, if_neg hk, if_pos (by decide), if_pos hk]
theorem aw_scan (n l : Int) (log : List Op) (p : Piece) (k c t : Int) (hv : valH (exH n l log) = 0) (hk : (!decide (k = 1) && !decide (k = 2)) = false) (hp : ((!piB p || !inB c 1 999) || !inB t 0 1048576) = false) (ht : ¬ t < l) (hn : (decide (n = 1048576) || decide ((log.length : Int) = 60)) = false) :
    scanE (exH n l log) k p c t = if decide (k = 1) then loadErr (exH n l log) p c else 0 := by
  unfold scanE
  rw [if_neg (by rw [hv]; decide), if_neg (by rw [hk]; decide), if_neg (by rw [hp]; decide), if_neg ht, if_neg (by show ¬ ((decide (n = 1048576) || (true && decide ((log.length : Int) = 60))) = true); rw [Bool.true_and, hn]; decide)]
  rfl
theorem aw_v1 : valH (exH 1 0 []) = 0 := by decide +kernel
theorem aw_v2 : valH (exH 2 10 [exO 10 1 1]) = 0 := by decide +kernel
theorem aw_v3 : valH (exH 3 11 [exO 10 1 1, exO 11 2 2]) = 0 := by decide +kernel
theorem aw_1 : scanR (exH 1 0 []) 1 exP 4 10 = (exH 2 10 [exO 10 1 1], exO 10 1 1, 0) := by
  have he : scanE (exH 1 0 []) 1 exP 4 10 = 0 := by
    rw [aw_scan _ _ _ _ _ _ _ aw_v1 (by decide) (by decide +kernel) (by decide) (by decide), if_pos (by decide), aw_load]
    decide +kernel
  rw [scan_on he rfl]; rfl
theorem aw_2 : (scanR (exH 2 10 [exO 10 1 1]) 1 exP 4 11) = (zeroH, zeroO, 5) := by
  refine scan_err ?_ (by decide)
  rw [aw_scan _ _ _ _ _ _ _ aw_v2 (by decide) (by decide +kernel) (by decide) (by decide), if_pos (by decide), aw_load]
  decide +kernel
theorem aw_3 : scanR (exH 2 10 [exO 10 1 1]) 2 exP 4 11 = (exH 3 11 [exO 10 1 1, exO 11 2 2], exO 11 2 2, 0) := by
  have he : scanE (exH 2 10 [exO 10 1 1]) 2 exP 4 11 = 0 := by
    rw [aw_scan _ _ _ _ _ _ _ aw_v2 (by decide) (by decide +kernel) (by decide) (by decide), if_neg (by decide)]
  rw [scan_on he rfl]; rfl
theorem aw_4 : scanR (exH 3 11 [exO 10 1 1, exO 11 2 2]) 1 exP 4 12 = (exH 4 12 [exO 10 1 1, exO 11 2 2, exO 12 3 1], exO 12 3 1, 0) := by
  have he : scanE (exH 3 11 [exO 10 1 1, exO 11 2 2]) 1 exP 4 12 = 0 := by
    rw [aw_scan _ _ _ _ _ _ _ aw_v3 (by decide) (by decide +kernel) (by decide) (by decide), if_pos (by decide), aw_load]
    decide +kernel
  rw [scan_on he rfl]; rfl
theorem aw_5 : scanR (exH 3 11 [exO 10 1 1, exO 11 2 2]) 1 exQ 4 12 = (zeroH, zeroO, 10) := by
  refine scan_err ?_ (by decide)
  rw [aw_scan _ _ _ _ _ _ _ aw_v3 (by decide) (by decide +kernel) (by decide) (by decide), if_pos (by decide), aw_load]
  decide +kernel
theorem aw_6 : scanR (exH 3 11 [exO 10 1 1, exO 11 2 2]) 1 exP 5 12 = (zeroH, zeroO, 6) := by
  refine scan_err ?_ (by decide)
  rw [aw_scan _ _ _ _ _ _ _ aw_v3 (by decide) (by decide +kernel) (by decide) (by decide), if_pos (by decide), aw_load]
  decide +kernel
theorem awH_sm (n l : Int) {log : List Op} (h : log.length ≤ 1000) : (exH n l log).Sm := ⟨by simp, by simp, h, by simp⟩
theorem awC26 {n l : Int} {log : List Op} {k c t : Int} {p : Piece} {x : Hand × Op × Int} (hl : log.length ≤ 1000) (h : scanR (exH n l log) k p c t = x) : Fn Try.prog 26 [] [.agg (exH n l log).av, .v (.int .i64 k), .agg p.av, .v (.int .i64 c), .v (.int .i64 t)] [.agg x.1.av, .agg x.2.1.av, .v (.int .i64 x.2.2)] [] := by
  subst h; exact C26 (awH_sm n l hl)
theorem awC57 {i : Nat} (h : i < 100) : Fn Try.prog 57 [] [.v (.int .i64 (i : Int))] [.agg (⟨0, 117, 1000 + i⟩ : Plate).av] [] := by
  have := C57 (i := (i : Int))
  rwa [plates_lt h] at this
theorem awC32 : Fn Try.prog 32 [] [.agg (onH 1 1 0).av, .ro ([exG].map Grant.av), .ro ([exC].map Container.av)] [.agg (exH 1 0 []).av, .v (.int .i64 0)] [] := by
  have := C32 (h := onH 1 1 0) (g := [exG]) (c := [exC]) (on_sm 1 1 0) (by simp) (by simp)
  rwa [aw_off] at this
theorem awC13 : Fn Try.prog 13 [] [.v (.int .i64 2)] [.ro ([onH 1 1 0, onH 2 1 0].map Hand.av), .v (.int .i64 0)] [] := C13 (n := 2)
end Go.Proofs.Ytdnofpggdddimaa
namespace Go.Proofs.Ytdnofpggdddimaa
open Go.RowKit
set_option linter.unusedSimpArgs false
set_option linter.unusedVariables false
set_option maxRecDepth 100000
theorem exC_le : RL (Le2 Try.prog) [nilC exC].flatten ([exC].map Container.av).flatten :=
  RL.cons .same (RL.cons .same (RL.cons .same (RL.cons .same (RL.cons .same (RL.cons .same (RL.cons .same (RL.cons .same (RL.cons .same (RL.cons .same (RL.cons .nil RL.nil))))))))))
theorem C24 : Fn Try.prog 24 [] [] [.v (.bool true)] [] := by
  refine Spec.body Try.func24 rfl Try.ntmps24 (by simp) rfl ?_; intro S0 own0 v0 w0
  (refine AW.seq_k ?_; intro K hK)
  refine AW.region ?_
  refine awP (op_assign rfl rfl) ?_
  refine AWL.nil ?_
  (refine hK _ ?_; clear hK K; (try simp only [nA, Nat.reduceBEq, Nat.reduceEqDiff, ↓reduceIte, Nat.reduceAdd, Nat.reduceSub]))
  (refine AW.seq_k ?_; intro K hK)
  refine AW.region ?_
  refine awJ (op_call (b := false) rfl en45 (C45_0) (RL.cons (by first | exact View.same rfl | exact View.nil | exact View.rof | exact View.src .ro | exact View.src .rof | exact View.src (.sl rfl rfl) | exact View.ptr rfl rfl rfl) (RL.nil)) rfl (fun h => by cases h) rfl rfl) ?_; (try simp only [nA, Nat.reduceBEq, Nat.reduceEqDiff, ↓reduceIte, Nat.reduceAdd, Nat.reduceSub])
  refine awP (op_build2 (xs := [_, _, _, _, _, _, _, _, .v (.int .i64 0), .v (.int .i64 0), .v (.slice none 0 0)]) rfl pl77 ze77 [(0, [_]), (1, [_, _, _, _]), (2, [_]), (3, [_]), (4, [_])] rfl rfl rfl) ?_
  refine awJ (op_buildSlice rfl [(0, nilC exC)] [nilC exC] Try.underlying23 ze77 rfl (by simp) rfl (by simp) rfl (Nat.le_of_ble_eq_true rfl) (by simp [maxLen])) ?_; (try simp only [nA, Nat.reduceBEq, Nat.reduceEqDiff, ↓reduceIte, Nat.reduceAdd, Nat.reduceSub]); refine AWL.gh (Gh.slot2 (r := 0) (es' := [exC].map Container.av) rfl rfl exC_le) ?_; (try simp only [nA, Nat.reduceBEq, Nat.reduceEqDiff, ↓reduceIte, Nat.reduceAdd, Nat.reduceSub]); refine AWL.gh (Gh.freeze 25 (Nat.le_of_ble_eq_true rfl) rfl rfl (conv_flat [exC]) (es' := [exC].map Container.av) rfl) ?_; (try simp only [nA, Nat.reduceBEq, Nat.reduceEqDiff, ↓reduceIte, Nat.reduceAdd, Nat.reduceSub]); (try simp only [nA, Nat.reduceBEq, Nat.reduceEqDiff, ↓reduceIte, Nat.reduceAdd, Nat.reduceSub])
  refine awP (op_assign rfl rfl) ?_
  refine AWL.nil ?_
  (refine hK _ ?_; clear hK K; (try simp only [nA, Nat.reduceBEq, Nat.reduceEqDiff, ↓reduceIte, Nat.reduceAdd, Nat.reduceSub]))
  (refine AW.seq_k ?_; intro K hK)
  refine AW.region ?_
  refine awJ (op_call (b := false) rfl en57 (awC57 (i := 0) (by decide)) (RL.cons (by first | exact View.same rfl | exact View.nil | exact View.rof | exact View.src .ro | exact View.src .rof | exact View.src (.sl rfl rfl) | exact View.ptr rfl rfl rfl) (RL.nil)) rfl (fun h => by cases h) rfl rfl) ?_; (try simp only [nA, Nat.reduceBEq, Nat.reduceEqDiff, ↓reduceIte, Nat.reduceAdd, Nat.reduceSub])
  refine awP (op_build2 (xs := [_, _, _, _, .v (.int .i64 0)]) rfl pl31 ze31 [(0, [_, _, _]), (1, [_])] rfl rfl rfl) ?_
  refine awJ (op_alloc rfl ze31 rfl) ?_; (try simp only [nA, Nat.reduceBEq, Nat.reduceEqDiff, ↓reduceIte, Nat.reduceAdd, Nat.reduceSub])
  refine awJ (op_store rfl rfl rfl rfl rfl rfl sz31 rfl (Nat.le_of_ble_eq_true rfl) rfl) ?_; (try simp only [nA, Nat.reduceBEq, Nat.reduceEqDiff, ↓reduceIte, Nat.reduceAdd, Nat.reduceSub])
  refine AWL.nil ?_
  (refine hK _ ?_; clear hK K; (try simp only [nA, Nat.reduceBEq, Nat.reduceEqDiff, ↓reduceIte, Nat.reduceAdd, Nat.reduceSub]))
  (refine AW.seq_k ?_; intro K hK)
  refine AW.region ?_
  refine awJ (op_call (b := false) rfl en13 (awC13) (RL.cons (by first | exact View.same rfl | exact View.nil | exact View.rof | exact View.src .ro | exact View.src .rof | exact View.src (.sl rfl rfl) | exact View.ptr rfl rfl rfl) (RL.nil)) rfl (fun h => by cases h) rfl rfl) ?_; (try simp only [nA, Nat.reduceBEq, Nat.reduceEqDiff, ↓reduceIte, Nat.reduceAdd, Nat.reduceSub])
  refine awP (op_move rfl rfl) ?_
  refine awP (op_extract rfl rfl rfl) ?_
  refine awP (op_extract rfl rfl rfl) ?_
  refine awP (op_assign rfl rfl) ?_
  refine awP (op_assign rfl rfl) ?_
  refine AWL.nil ?_
  (refine hK _ ?_; clear hK K; (try simp only [nA, Nat.reduceBEq, Nat.reduceEqDiff, ↓reduceIte, Nat.reduceAdd, Nat.reduceSub]))
  (refine AW.seq_k ?_; intro K hK)
  (refine AW.seq_k ?_; intro K hK)
  refine AW.region (AWL.quiet ?_)
  refine aqP (op_move rfl rfl) ?_
  (first | refine aqP (op_neq rfl rfl rfl) ?_ | refine aqP (op_sneq rfl rfl rfl) ?_)
  refine aqP (op_move rfl rfl) ?_
  refine' aqOr' [_, _, _] [35,36,37] rfl rfl rfl rfl rfl rfl rfl rfl rfl rfl rfl rfl (fun hb => ?_) ?_; rotate_left
  ·
   (try simp only [hcS] at hb)
   refine aqP (op_move rfl rfl) ?_
   refine aqP (op_len_ro (n := 2) rfl rfl Try.underlying38 (.inr (.inl ⟨_, rfl, rfl⟩))) ?_
   (first | refine aqP (op_neq rfl rfl rfl) ?_ | refine aqP (op_sneq rfl rfl rfl) ?_)
   (refine aqSeg rfl rfl rfl ?_; repeat (first | exact fun _ _ => rfl | refine upd_out rfl ?_ | refine era_out rfl ?_))
  (try simp only [nA, Nat.reduceBEq, Nat.reduceEqDiff, ↓reduceIte, Nat.reduceAdd, Nat.reduceSub])
  refine AQ.nil ?_
  (refine hK _ ?_; clear hK K; (try simp only [nA, Nat.reduceBEq, Nat.reduceEqDiff, ↓reduceIte, Nat.reduceAdd, Nat.reduceSub]))
  refine AW.cond rfl rfl rfl (fun hc => ?_) (fun hc => ?_)
  · first | (cases hc; done) | (simp at hc; done) | (simp at hc; omega)
  ·
   (try simp only [hcS] at hc); have hc1 := hc; skip
   refine AW.skip ?_
   (refine hK _ ?_; clear hK K; (try simp only [nA, Nat.reduceBEq, Nat.reduceEqDiff, ↓reduceIte, Nat.reduceAdd, Nat.reduceSub]))
   (refine AW.seq_k ?_; intro K hK)
   refine AW.ad [(1, 2, .own 31 [exP.av])] mix rfl ?_
   refine adP 0 rfl (fun T' ok => op_move rfl rfl) (by first | exact trivial | exact ⟨rfl, trivial⟩ | exact ⟨rfl, rfl, trivial⟩ | exact ⟨rfl, rfl, rfl, trivial⟩) (by kernel_rfl) (by kernel_rfl) ?_
   refine adP 1 rfl (fun T' ok => op_ia_ro (es := [onH 1 1 0, onH 2 1 0].map Hand.av) 0 rfl (.inl rfl) rfl Try.underlying38 rfl rfl (by exact sz26) (Nat.le_of_ble_eq_true rfl)) (by first | exact trivial | exact ⟨rfl, trivial⟩ | exact ⟨rfl, rfl, trivial⟩ | exact ⟨rfl, rfl, rfl, trivial⟩) (by kernel_rfl) (by kernel_rfl) ?_
   (first | refine adR 2 rfl (fun T' ok => op_load_ptr rfl rfl (by first | exact ok.1 | exact ok.2.1 | exact ok.2.2.1 | exact ok.2.2.2.1) rfl ag26 sz26 (Nat.le_of_ble_eq_true rfl) rfl) (by first | exact trivial | exact ⟨rfl, trivial⟩ | exact ⟨rfl, rfl, trivial⟩ | exact ⟨rfl, rfl, rfl, trivial⟩) (by kernel_rfl) (by kernel_rfl) ?_ | refine adR 2 rfl (fun T' ok => op_load_rop rfl rfl ag26 sz26 (Nat.le_of_ble_eq_true rfl) (by decide) rfl) (by first | exact trivial | exact ⟨rfl, trivial⟩ | exact ⟨rfl, rfl, trivial⟩ | exact ⟨rfl, rfl, rfl, trivial⟩) (by kernel_rfl) (by kernel_rfl) ?_)
   (first | refine adR 3 rfl (fun T' ok => op_load_ptr rfl rfl (by first | exact ok.1 | exact ok.2.1 | exact ok.2.2.1 | exact ok.2.2.2.1) rfl ag31 sz31 (Nat.le_of_ble_eq_true rfl) rfl) (by first | exact trivial | exact ⟨rfl, trivial⟩ | exact ⟨rfl, rfl, trivial⟩ | exact ⟨rfl, rfl, rfl, trivial⟩) (by kernel_rfl) (by kernel_rfl) ?_ | refine adR 3 rfl (fun T' ok => op_load_rop rfl rfl ag31 sz31 (Nat.le_of_ble_eq_true rfl) (by decide) rfl) (by first | exact trivial | exact ⟨rfl, trivial⟩ | exact ⟨rfl, rfl, trivial⟩ | exact ⟨rfl, rfl, rfl, trivial⟩) (by kernel_rfl) (by kernel_rfl) ?_)
   refine adP 7 rfl (fun T' ok => op_move rfl rfl) (by first | exact trivial | exact ⟨rfl, trivial⟩ | exact ⟨rfl, rfl, trivial⟩ | exact ⟨rfl, rfl, rfl, trivial⟩) (by kernel_rfl) (by kernel_rfl) ?_
   refine adF 4 rfl (fun T' ok => op_callS rfl en45 (C45_0) (RL.cons (by first | exact View.same rfl | exact View.nil | exact View.rof | exact View.src .ro | exact View.src .rof | exact View.src (.sl rfl rfl) | exact View.ptr rfl rfl rfl) (RL.nil)) rfl rfl rfl) (by first | exact trivial | exact ⟨rfl, trivial⟩ | exact ⟨rfl, rfl, trivial⟩ | exact ⟨rfl, rfl, rfl, trivial⟩) (by kernel_rfl) (by kernel_rfl) ?_; (try simp only [nA, Nat.reduceBEq, Nat.reduceEqDiff, ↓reduceIte, Nat.reduceAdd, Nat.reduceSub])
   refine adP 5 rfl (fun T' ok => op_build2 (xs := [_, _, _, _, _, _, _, _, _]) rfl pl75 ze75 [(0, [_, _, _, _, _]), (1, [_, _, _, _])] rfl rfl rfl) (by first | exact trivial | exact ⟨rfl, trivial⟩ | exact ⟨rfl, rfl, trivial⟩ | exact ⟨rfl, rfl, rfl, trivial⟩) (by kernel_rfl) (by kernel_rfl) ?_
   -- READY [6, 12]
   refine adF 6 rfl (fun T' ok => OpJ.frz (op_buildSlice rfl [(0, exG.av)] [exG.av] Try.underlying22 ze75 rfl (by simp) rfl (by simp) rfl (Nat.le_of_ble_eq_true rfl) (by simp [maxLen])) (gav_flat [exG]) rfl) (by first | exact trivial | exact ⟨rfl, trivial⟩ | exact ⟨rfl, rfl, trivial⟩ | exact ⟨rfl, rfl, rfl, trivial⟩) (by kernel_rfl) (by kernel_rfl) ?_; (try simp only [nA, Nat.reduceBEq, Nat.reduceEqDiff, ↓reduceIte, Nat.reduceAdd, Nat.reduceSub])
   refine adF 8 rfl (fun T' ok => op_callS rfl en32 (awC32) (RL.cons (by first | exact View.same rfl | exact View.nil | exact View.rof | exact View.src .ro | exact View.src .rof | exact View.src (.sl rfl rfl) | exact View.ptr rfl rfl rfl) (RL.cons (by first | exact View.same rfl | exact View.nil | exact View.rof | exact View.src .ro | exact View.src .rof | exact View.src (.sl rfl rfl) | exact View.ptr rfl rfl rfl) (RL.cons (by first | exact View.same rfl | exact View.nil | exact View.rof | exact View.src .ro | exact View.src .rof | exact View.src (.sl rfl rfl) | exact View.ptr rfl rfl rfl) (RL.nil)))) rfl rfl rfl) (by first | exact trivial | exact ⟨rfl, trivial⟩ | exact ⟨rfl, rfl, trivial⟩ | exact ⟨rfl, rfl, rfl, trivial⟩) (by kernel_rfl) (by kernel_rfl) ?_; (try simp only [nA, Nat.reduceBEq, Nat.reduceEqDiff, ↓reduceIte, Nat.reduceAdd, Nat.reduceSub])
   refine adP 9 rfl (fun T' ok => op_move rfl rfl) (by first | exact trivial | exact ⟨rfl, trivial⟩ | exact ⟨rfl, rfl, trivial⟩ | exact ⟨rfl, rfl, rfl, trivial⟩) (by kernel_rfl) (by kernel_rfl) ?_
   refine adP 10 rfl (fun T' ok => op_extract rfl rfl rfl) (by first | exact trivial | exact ⟨rfl, trivial⟩ | exact ⟨rfl, rfl, trivial⟩ | exact ⟨rfl, rfl, rfl, trivial⟩) (by kernel_rfl) (by kernel_rfl) ?_
   refine adP 11 rfl (fun T' ok => op_extract rfl rfl rfl) (by first | exact trivial | exact ⟨rfl, trivial⟩ | exact ⟨rfl, rfl, trivial⟩ | exact ⟨rfl, rfl, rfl, trivial⟩) (by kernel_rfl) (by kernel_rfl) ?_
   refine adJ 12 rfl (op_alloc rfl ze26 rfl) (by kernel_rfl) (by first | exact trivial | exact ⟨rfl, trivial⟩ | exact ⟨rfl, rfl, trivial⟩ | exact ⟨rfl, rfl, rfl, trivial⟩) ?_; (try simp only [nA, Nat.reduceBEq, Nat.reduceEqDiff, ↓reduceIte, Nat.reduceAdd, Nat.reduceSub])
   refine adJ 13 rfl (op_store rfl rfl rfl rfl rfl rfl sz26 rfl (Nat.le_of_ble_eq_true rfl) rfl) (by kernel_rfl) (by first | exact trivial | exact ⟨rfl, trivial⟩ | exact ⟨rfl, rfl, trivial⟩ | exact ⟨rfl, rfl, rfl, trivial⟩) ?_; (try simp only [nA, Nat.reduceBEq, Nat.reduceEqDiff, ↓reduceIte, Nat.reduceAdd, Nat.reduceSub])
   refine adP 14 rfl (fun T' ok => op_assign rfl rfl) (by first | exact trivial | exact ⟨rfl, trivial⟩ | exact ⟨rfl, rfl, trivial⟩ | exact ⟨rfl, rfl, rfl, trivial⟩) (by kernel_rfl) (by kernel_rfl) ?_
   refine adDone (by kernel_rfl) ?_
   (refine hK _ ?_; clear hK K; (try simp only [nA, Nat.reduceBEq, Nat.reduceEqDiff, ↓reduceIte, Nat.reduceAdd, Nat.reduceSub]))
   (refine AW.seq_k ?_; intro K hK)
   refine AW.region ?_
   (first | refine awR (op_load_ptr rfl rfl rfl rfl ag26 sz26 (Nat.le_of_ble_eq_true rfl) rfl) ?_ | refine awR (op_load_rop rfl rfl ag26 sz26 (Nat.le_of_ble_eq_true rfl) (by decide) rfl) ?_)
   (first | refine awR (op_load_ptr rfl rfl rfl rfl ag31 sz31 (Nat.le_of_ble_eq_true rfl) rfl) ?_ | refine awR (op_load_rop rfl rfl ag31 sz31 (Nat.le_of_ble_eq_true rfl) (by decide) rfl) ?_)
   refine awJ (op_call (b := false) rfl en26 (awC26 (by simp) aw_1) (RL.cons (by first | exact View.same rfl | exact View.nil | exact View.rof | exact View.src .ro | exact View.src .rof | exact View.src (.sl rfl rfl) | exact View.ptr rfl rfl rfl) (RL.cons (by first | exact View.same rfl | exact View.nil | exact View.rof | exact View.src .ro | exact View.src .rof | exact View.src (.sl rfl rfl) | exact View.ptr rfl rfl rfl) (RL.cons (by first | exact View.same rfl | exact View.nil | exact View.rof | exact View.src .ro | exact View.src .rof | exact View.src (.sl rfl rfl) | exact View.ptr rfl rfl rfl) (RL.cons (by first | exact View.same rfl | exact View.nil | exact View.rof | exact View.src .ro | exact View.src .rof | exact View.src (.sl rfl rfl) | exact View.ptr rfl rfl rfl) (RL.cons (by first | exact View.same rfl | exact View.nil | exact View.rof | exact View.src .ro | exact View.src .rof | exact View.src (.sl rfl rfl) | exact View.ptr rfl rfl rfl) (RL.nil)))))) rfl (fun h => by cases h) rfl rfl) ?_; (try simp only [nA, Nat.reduceBEq, Nat.reduceEqDiff, ↓reduceIte, Nat.reduceAdd, Nat.reduceSub])
   refine awP (op_move rfl rfl) ?_
   refine awP (op_extract rfl rfl rfl) ?_
   refine awP (op_extract rfl rfl rfl) ?_
   refine awP (op_extract rfl rfl rfl) ?_
   refine awJ (op_alloc rfl ze33 rfl) ?_; (try simp only [nA, Nat.reduceBEq, Nat.reduceEqDiff, ↓reduceIte, Nat.reduceAdd, Nat.reduceSub])
   refine awJ (op_store rfl rfl rfl rfl rfl rfl sz26 rfl (Nat.le_of_ble_eq_true rfl) rfl) ?_; (try simp only [nA, Nat.reduceBEq, Nat.reduceEqDiff, ↓reduceIte, Nat.reduceAdd, Nat.reduceSub])
   refine awJ (op_store rfl rfl rfl rfl rfl rfl sz33 rfl (Nat.le_of_ble_eq_true rfl) rfl) ?_; (try simp only [nA, Nat.reduceBEq, Nat.reduceEqDiff, ↓reduceIte, Nat.reduceAdd, Nat.reduceSub])
   refine awP (op_assign rfl rfl) ?_
   refine AWL.nil ?_
   (refine hK _ ?_; clear hK K; (try simp only [nA, Nat.reduceBEq, Nat.reduceEqDiff, ↓reduceIte, Nat.reduceAdd, Nat.reduceSub]))
   (refine AW.seq_k ?_; intro K hK)
   refine AW.region ?_
   (first | refine awR (op_load_ptr rfl rfl rfl rfl ag26 sz26 (Nat.le_of_ble_eq_true rfl) rfl) ?_ | refine awR (op_load_rop rfl rfl ag26 sz26 (Nat.le_of_ble_eq_true rfl) (by decide) rfl) ?_)
   (first | refine awR (op_load_ptr rfl rfl rfl rfl ag31 sz31 (Nat.le_of_ble_eq_true rfl) rfl) ?_ | refine awR (op_load_rop rfl rfl ag31 sz31 (Nat.le_of_ble_eq_true rfl) (by decide) rfl) ?_)
   refine awJ (op_call (b := false) rfl en26 (awC26 (by simp) aw_2) (RL.cons (by first | exact View.same rfl | exact View.nil | exact View.rof | exact View.src .ro | exact View.src .rof | exact View.src (.sl rfl rfl) | exact View.ptr rfl rfl rfl) (RL.cons (by first | exact View.same rfl | exact View.nil | exact View.rof | exact View.src .ro | exact View.src .rof | exact View.src (.sl rfl rfl) | exact View.ptr rfl rfl rfl) (RL.cons (by first | exact View.same rfl | exact View.nil | exact View.rof | exact View.src .ro | exact View.src .rof | exact View.src (.sl rfl rfl) | exact View.ptr rfl rfl rfl) (RL.cons (by first | exact View.same rfl | exact View.nil | exact View.rof | exact View.src .ro | exact View.src .rof | exact View.src (.sl rfl rfl) | exact View.ptr rfl rfl rfl) (RL.cons (by first | exact View.same rfl | exact View.nil | exact View.rof | exact View.src .ro | exact View.src .rof | exact View.src (.sl rfl rfl) | exact View.ptr rfl rfl rfl) (RL.nil)))))) rfl (fun h => by cases h) rfl rfl) ?_; (try simp only [nA, Nat.reduceBEq, Nat.reduceEqDiff, ↓reduceIte, Nat.reduceAdd, Nat.reduceSub])
   refine awP (op_move rfl rfl) ?_
   refine awP (op_extract rfl rfl rfl) ?_
   refine awP (op_extract rfl rfl rfl) ?_
   refine awP (op_extract rfl rfl rfl) ?_
   refine awJ (op_alloc rfl ze26 rfl) ?_; (try simp only [nA, Nat.reduceBEq, Nat.reduceEqDiff, ↓reduceIte, Nat.reduceAdd, Nat.reduceSub])
   refine awJ (op_alloc rfl ze33 rfl) ?_; (try simp only [nA, Nat.reduceBEq, Nat.reduceEqDiff, ↓reduceIte, Nat.reduceAdd, Nat.reduceSub])
   refine awJ (op_store rfl rfl rfl rfl rfl rfl sz26 rfl (Nat.le_of_ble_eq_true rfl) rfl) ?_; (try simp only [nA, Nat.reduceBEq, Nat.reduceEqDiff, ↓reduceIte, Nat.reduceAdd, Nat.reduceSub])
   refine awJ (op_store rfl rfl rfl rfl rfl rfl sz33 rfl (Nat.le_of_ble_eq_true rfl) rfl) ?_; (try simp only [nA, Nat.reduceBEq, Nat.reduceEqDiff, ↓reduceIte, Nat.reduceAdd, Nat.reduceSub])
   refine awP (op_assign rfl rfl) ?_
   refine AWL.nil ?_
   (refine hK _ ?_; clear hK K; (try simp only [nA, Nat.reduceBEq, Nat.reduceEqDiff, ↓reduceIte, Nat.reduceAdd, Nat.reduceSub]))
   (refine AW.seq_k ?_; intro K hK)
   refine AW.region ?_
   (first | refine awR (op_load_ptr rfl rfl rfl rfl ag26 sz26 (Nat.le_of_ble_eq_true rfl) rfl) ?_ | refine awR (op_load_rop rfl rfl ag26 sz26 (Nat.le_of_ble_eq_true rfl) (by decide) rfl) ?_)
   (first | refine awR (op_load_ptr rfl rfl rfl rfl ag31 sz31 (Nat.le_of_ble_eq_true rfl) rfl) ?_ | refine awR (op_load_rop rfl rfl ag31 sz31 (Nat.le_of_ble_eq_true rfl) (by decide) rfl) ?_)
   refine awJ (op_call (b := false) rfl en26 (awC26 (by simp) aw_3) (RL.cons (by first | exact View.same rfl | exact View.nil | exact View.rof | exact View.src .ro | exact View.src .rof | exact View.src (.sl rfl rfl) | exact View.ptr rfl rfl rfl) (RL.cons (by first | exact View.same rfl | exact View.nil | exact View.rof | exact View.src .ro | exact View.src .rof | exact View.src (.sl rfl rfl) | exact View.ptr rfl rfl rfl) (RL.cons (by first | exact View.same rfl | exact View.nil | exact View.rof | exact View.src .ro | exact View.src .rof | exact View.src (.sl rfl rfl) | exact View.ptr rfl rfl rfl) (RL.cons (by first | exact View.same rfl | exact View.nil | exact View.rof | exact View.src .ro | exact View.src .rof | exact View.src (.sl rfl rfl) | exact View.ptr rfl rfl rfl) (RL.cons (by first | exact View.same rfl | exact View.nil | exact View.rof | exact View.src .ro | exact View.src .rof | exact View.src (.sl rfl rfl) | exact View.ptr rfl rfl rfl) (RL.nil)))))) rfl (fun h => by cases h) rfl rfl) ?_; (try simp only [nA, Nat.reduceBEq, Nat.reduceEqDiff, ↓reduceIte, Nat.reduceAdd, Nat.reduceSub])
   refine awP (op_move rfl rfl) ?_
   refine awP (op_extract rfl rfl rfl) ?_
   refine awP (op_extract rfl rfl rfl) ?_
   refine awP (op_extract rfl rfl rfl) ?_
   refine awJ (op_alloc rfl ze33 rfl) ?_; (try simp only [nA, Nat.reduceBEq, Nat.reduceEqDiff, ↓reduceIte, Nat.reduceAdd, Nat.reduceSub])
   refine awJ (op_store rfl rfl rfl rfl rfl rfl sz26 rfl (Nat.le_of_ble_eq_true rfl) rfl) ?_; (try simp only [nA, Nat.reduceBEq, Nat.reduceEqDiff, ↓reduceIte, Nat.reduceAdd, Nat.reduceSub])
   refine awJ (op_store rfl rfl rfl rfl rfl rfl sz33 rfl (Nat.le_of_ble_eq_true rfl) rfl) ?_; (try simp only [nA, Nat.reduceBEq, Nat.reduceEqDiff, ↓reduceIte, Nat.reduceAdd, Nat.reduceSub])
   refine awP (op_assign rfl rfl) ?_
   refine AWL.nil ?_
   (refine hK _ ?_; clear hK K; (try simp only [nA, Nat.reduceBEq, Nat.reduceEqDiff, ↓reduceIte, Nat.reduceAdd, Nat.reduceSub]))
   (refine AW.seq_k ?_; intro K hK)
   refine AW.region ?_
   (first | refine awR (op_load_ptr rfl rfl rfl rfl ag26 sz26 (Nat.le_of_ble_eq_true rfl) rfl) ?_ | refine awR (op_load_rop rfl rfl ag26 sz26 (Nat.le_of_ble_eq_true rfl) (by decide) rfl) ?_)
   (first | refine awR (op_load_ptr rfl rfl rfl rfl ag31 sz31 (Nat.le_of_ble_eq_true rfl) rfl) ?_ | refine awR (op_load_rop rfl rfl ag31 sz31 (Nat.le_of_ble_eq_true rfl) (by decide) rfl) ?_)
   refine awJ (op_call (b := false) rfl en26 (awC26 (by simp) aw_4) (RL.cons (by first | exact View.same rfl | exact View.nil | exact View.rof | exact View.src .ro | exact View.src .rof | exact View.src (.sl rfl rfl) | exact View.ptr rfl rfl rfl) (RL.cons (by first | exact View.same rfl | exact View.nil | exact View.rof | exact View.src .ro | exact View.src .rof | exact View.src (.sl rfl rfl) | exact View.ptr rfl rfl rfl) (RL.cons (by first | exact View.same rfl | exact View.nil | exact View.rof | exact View.src .ro | exact View.src .rof | exact View.src (.sl rfl rfl) | exact View.ptr rfl rfl rfl) (RL.cons (by first | exact View.same rfl | exact View.nil | exact View.rof | exact View.src .ro | exact View.src .rof | exact View.src (.sl rfl rfl) | exact View.ptr rfl rfl rfl) (RL.cons (by first | exact View.same rfl | exact View.nil | exact View.rof | exact View.src .ro | exact View.src .rof | exact View.src (.sl rfl rfl) | exact View.ptr rfl rfl rfl) (RL.nil)))))) rfl (fun h => by cases h) rfl rfl) ?_; (try simp only [nA, Nat.reduceBEq, Nat.reduceEqDiff, ↓reduceIte, Nat.reduceAdd, Nat.reduceSub])
   refine awP (op_move rfl rfl) ?_
   refine awP (op_extract rfl rfl rfl) ?_
   refine awP (op_extract rfl rfl rfl) ?_
   refine awP (op_extract rfl rfl rfl) ?_
   refine awJ (op_alloc rfl ze26 rfl) ?_; (try simp only [nA, Nat.reduceBEq, Nat.reduceEqDiff, ↓reduceIte, Nat.reduceAdd, Nat.reduceSub])
   refine awJ (op_alloc rfl ze33 rfl) ?_; (try simp only [nA, Nat.reduceBEq, Nat.reduceEqDiff, ↓reduceIte, Nat.reduceAdd, Nat.reduceSub])
   refine awJ (op_store rfl rfl rfl rfl rfl rfl sz26 rfl (Nat.le_of_ble_eq_true rfl) rfl) ?_; (try simp only [nA, Nat.reduceBEq, Nat.reduceEqDiff, ↓reduceIte, Nat.reduceAdd, Nat.reduceSub])
   refine awJ (op_store rfl rfl rfl rfl rfl rfl sz33 rfl (Nat.le_of_ble_eq_true rfl) rfl) ?_; (try simp only [nA, Nat.reduceBEq, Nat.reduceEqDiff, ↓reduceIte, Nat.reduceAdd, Nat.reduceSub])
   refine awP (op_assign rfl rfl) ?_
   refine AWL.nil ?_
   (refine hK _ ?_; clear hK K; (try simp only [nA, Nat.reduceBEq, Nat.reduceEqDiff, ↓reduceIte, Nat.reduceAdd, Nat.reduceSub]))
   refine AW.joinG (fun (e : Nat) => [(2, .ptr 1 2 0 0), (5, .ptr 2 3 0 0), (6, .v (.int .i64 0)), (7, .ptr 3 4 0 0), (8, .v (.int .i64 0)), (11, .v (.int .i64 5)), (13, .v (.int .i64 0)), (15, .ptr 8 9 0 0), (16, .v (.int .i64 0)), (19, .v (.int .i64 10))]) (fun e => ⟨[(1, .any), (2, .own 31 [exP.av]), (3, .own 26 [((exH 3 11 [exO 10 1 1, exO 11 2 2])).av]), (4, .own 33 [(exO 10 1 1).av]), (5, .own 26 [zeroH.av]), (6, .own 33 [zeroO.av]), (7, .own 33 [(exO 11 2 2).av]), (8, .own 26 [(exH 4 12 [exO 10 1 1, exO 11 2 2, exO 12 3 1]).av]), (9, .own 33 [(exO 12 3 1).av])], e⟩) (fun _ => True) ?_ ?_
   · refine AW.ado (fun T' => T'.slots[2]? = some (3, .own 26 [((exH 3 11 [exO 10 1 1, exO 11 2 2])).av])) mix rfl ?_
     refine adRo 0 rfl (fun T' ok => op_load_ptr rfl rfl ok rfl ag26 sz26 (Nat.le_of_ble_eq_true rfl) rfl) rfl (by kernel_rfl) (by kernel_rfl) ?_; (try simp only [nA, Nat.reduceBEq, Nat.reduceEqDiff, ↓reduceIte, Nat.reduceAdd, Nat.reduceSub])
     refine adFo 1 rfl (fun T' ok => op_callS rfl en57 (awC57 (i := 1) (by decide)) (RL.cons (by first | exact View.same rfl | exact View.nil | exact View.rof | exact View.src .ro | exact View.src .rof | exact View.src (.sl rfl rfl) | exact View.ptr rfl rfl rfl) RL.nil) rfl rfl rfl) rfl (by kernel_rfl) (by kernel_rfl) ?_; (try simp only [nA, Nat.reduceBEq, Nat.reduceEqDiff, ↓reduceIte, Nat.reduceAdd, Nat.reduceSub])
     refine adPo 2 rfl (fun T' ok => op_build2 (xs := exQ.av) rfl pl31 ze31 [(0, [_, _, _]), (1, [_])] rfl rfl rfl) rfl (by kernel_rfl) (by kernel_rfl) ?_; (try simp only [nA, Nat.reduceBEq, Nat.reduceEqDiff, ↓reduceIte, Nat.reduceAdd, Nat.reduceSub])
     refine adFo 3 rfl (fun T' ok => op_callS rfl en26 (awC26 (by simp) aw_5) (RL.cons (by first | exact View.same rfl | exact View.nil | exact View.rof | exact View.src .ro | exact View.src .rof | exact View.src (.sl rfl rfl) | exact View.ptr rfl rfl rfl) (RL.cons (by first | exact View.same rfl | exact View.nil | exact View.rof | exact View.src .ro | exact View.src .rof | exact View.src (.sl rfl rfl) | exact View.ptr rfl rfl rfl) (RL.cons (by first | exact View.same rfl | exact View.nil | exact View.rof | exact View.src .ro | exact View.src .rof | exact View.src (.sl rfl rfl) | exact View.ptr rfl rfl rfl) (RL.cons (by first | exact View.same rfl | exact View.nil | exact View.rof | exact View.src .ro | exact View.src .rof | exact View.src (.sl rfl rfl) | exact View.ptr rfl rfl rfl) (RL.cons (by first | exact View.same rfl | exact View.nil | exact View.rof | exact View.src .ro | exact View.src .rof | exact View.src (.sl rfl rfl) | exact View.ptr rfl rfl rfl) RL.nil))))) rfl rfl rfl) rfl (by kernel_rfl) (by kernel_rfl) ?_; (try simp only [nA, Nat.reduceBEq, Nat.reduceEqDiff, ↓reduceIte, Nat.reduceAdd, Nat.reduceSub])
     refine adPo 4 rfl (fun T' ok => op_move rfl rfl) rfl (by kernel_rfl) (by kernel_rfl) ?_; (try simp only [nA, Nat.reduceBEq, Nat.reduceEqDiff, ↓reduceIte, Nat.reduceAdd, Nat.reduceSub])
     refine adPo 5 rfl (fun T' ok => op_extract rfl rfl rfl) rfl (by kernel_rfl) (by kernel_rfl) ?_; (try simp only [nA, Nat.reduceBEq, Nat.reduceEqDiff, ↓reduceIte, Nat.reduceAdd, Nat.reduceSub])
     refine adPo 6 rfl (fun T' ok => op_extract rfl rfl rfl) rfl (by kernel_rfl) (by kernel_rfl) ?_; (try simp only [nA, Nat.reduceBEq, Nat.reduceEqDiff, ↓reduceIte, Nat.reduceAdd, Nat.reduceSub])
     refine adPo 7 rfl (fun T' ok => op_extract rfl rfl rfl) rfl (by kernel_rfl) (by kernel_rfl) ?_; (try simp only [nA, Nat.reduceBEq, Nat.reduceEqDiff, ↓reduceIte, Nat.reduceAdd, Nat.reduceSub])
     refine adJ2o 8 9 rfl rfl (op_alloc rfl ze26 rfl) (op_alloc rfl ze33 rfl) (by kernel_rfl) rfl rfl ?_ ?_
     · (try simp only [nA, Nat.reduceBEq, Nat.reduceEqDiff, ↓reduceIte, Nat.reduceAdd, Nat.reduceSub]); refine adJo 9 rfl (op_alloc rfl ze33 rfl) (by kernel_rfl) rfl ?_; (try simp only [nA, Nat.reduceBEq, Nat.reduceEqDiff, ↓reduceIte, Nat.reduceAdd, Nat.reduceSub])
       refine adJo 10 rfl (op_store rfl rfl rfl rfl rfl rfl sz26 rfl (Nat.le_of_ble_eq_true rfl) rfl) (by kernel_rfl) rfl ?_; (try simp only [nA, Nat.reduceBEq, Nat.reduceEqDiff, ↓reduceIte, Nat.reduceAdd, Nat.reduceSub])
       refine adJo 11 rfl (op_store rfl rfl rfl rfl rfl rfl sz33 rfl (Nat.le_of_ble_eq_true rfl) rfl) (by kernel_rfl) rfl ?_; (try simp only [nA, Nat.reduceBEq, Nat.reduceEqDiff, ↓reduceIte, Nat.reduceAdd, Nat.reduceSub])
       refine adPo 12 rfl (fun T' ok => op_assign rfl rfl) rfl (by kernel_rfl) (by kernel_rfl) ?_; (try simp only [nA, Nat.reduceBEq, Nat.reduceEqDiff, ↓reduceIte, Nat.reduceAdd, Nat.reduceSub]); refine adDoneo (by kernel_rfl) ?_; exact ⟨_, Gh.drop 9, _, trivial, ⟨rfl, rfl, rfl, rfl, rfl, rfl, rfl, rfl, rfl, rfl, trivial⟩, rfl, rfl⟩
     · (try simp only [nA, Nat.reduceBEq, Nat.reduceEqDiff, ↓reduceIte, Nat.reduceAdd, Nat.reduceSub]); refine adJo 8 rfl (op_alloc rfl ze26 rfl) (by kernel_rfl) rfl ?_; (try simp only [nA, Nat.reduceBEq, Nat.reduceEqDiff, ↓reduceIte, Nat.reduceAdd, Nat.reduceSub])
       refine adJo 10 rfl (op_store rfl rfl rfl rfl rfl rfl sz26 rfl (Nat.le_of_ble_eq_true rfl) rfl) (by kernel_rfl) rfl ?_; (try simp only [nA, Nat.reduceBEq, Nat.reduceEqDiff, ↓reduceIte, Nat.reduceAdd, Nat.reduceSub])
       refine adJo 11 rfl (op_store rfl rfl rfl rfl rfl rfl sz33 rfl (Nat.le_of_ble_eq_true rfl) rfl) (by kernel_rfl) rfl ?_; (try simp only [nA, Nat.reduceBEq, Nat.reduceEqDiff, ↓reduceIte, Nat.reduceAdd, Nat.reduceSub])
       refine adPo 12 rfl (fun T' ok => op_assign rfl rfl) rfl (by kernel_rfl) (by kernel_rfl) ?_; (try simp only [nA, Nat.reduceBEq, Nat.reduceEqDiff, ↓reduceIte, Nat.reduceAdd, Nat.reduceSub]); refine adDoneo (by kernel_rfl) ?_; exact ⟨_, Gh.drop 9, _, trivial, ⟨rfl, rfl, rfl, rfl, rfl, rfl, rfl, rfl, rfl, rfl, trivial⟩, rfl, rfl⟩
   intro e ρ _; simp only [updL]; (try simp only [nA, Nat.reduceBEq, Nat.reduceEqDiff, ↓reduceIte, Nat.reduceAdd, Nat.reduceSub])
   (refine AW.seq_k ?_; intro K hK)
   refine AW.region ?_
   (first | refine awR (op_load_ptr rfl rfl rfl rfl ag26 sz26 (Nat.le_of_ble_eq_true rfl) rfl) ?_ | refine awR (op_load_rop rfl rfl ag26 sz26 (Nat.le_of_ble_eq_true rfl) (by decide) rfl) ?_)
   (first | refine awR (op_load_ptr rfl rfl rfl rfl ag31 sz31 (Nat.le_of_ble_eq_true rfl) rfl) ?_ | refine awR (op_load_rop rfl rfl ag31 sz31 (Nat.le_of_ble_eq_true rfl) (by decide) rfl) ?_)
   refine awJ (op_call (b := false) rfl en26 (awC26 (by simp) aw_6) (RL.cons (by first | exact View.same rfl | exact View.nil | exact View.rof | exact View.src .ro | exact View.src .rof | exact View.src (.sl rfl rfl) | exact View.ptr rfl rfl rfl) (RL.cons (by first | exact View.same rfl | exact View.nil | exact View.rof | exact View.src .ro | exact View.src .rof | exact View.src (.sl rfl rfl) | exact View.ptr rfl rfl rfl) (RL.cons (by first | exact View.same rfl | exact View.nil | exact View.rof | exact View.src .ro | exact View.src .rof | exact View.src (.sl rfl rfl) | exact View.ptr rfl rfl rfl) (RL.cons (by first | exact View.same rfl | exact View.nil | exact View.rof | exact View.src .ro | exact View.src .rof | exact View.src (.sl rfl rfl) | exact View.ptr rfl rfl rfl) (RL.cons (by first | exact View.same rfl | exact View.nil | exact View.rof | exact View.src .ro | exact View.src .rof | exact View.src (.sl rfl rfl) | exact View.ptr rfl rfl rfl) (RL.nil)))))) rfl (fun h => by cases h) rfl rfl) ?_; (try simp only [nA, Nat.reduceBEq, Nat.reduceEqDiff, ↓reduceIte, Nat.reduceAdd, Nat.reduceSub])
   refine awP (op_move rfl rfl) ?_
   refine awP (op_extract rfl rfl rfl) ?_
   refine awP (op_extract rfl rfl rfl) ?_
   refine awP (op_extract rfl rfl rfl) ?_
   refine awJ (op_alloc rfl ze26 rfl) ?_; (try simp only [nA, Nat.reduceBEq, Nat.reduceEqDiff, ↓reduceIte, Nat.reduceAdd, Nat.reduceSub])
   refine awJ (op_alloc rfl ze33 rfl) ?_; (try simp only [nA, Nat.reduceBEq, Nat.reduceEqDiff, ↓reduceIte, Nat.reduceAdd, Nat.reduceSub])
   refine awJ (op_store rfl rfl rfl rfl rfl rfl sz26 rfl (Nat.le_of_ble_eq_true rfl) rfl) ?_; (try simp only [nA, Nat.reduceBEq, Nat.reduceEqDiff, ↓reduceIte, Nat.reduceAdd, Nat.reduceSub])
   refine awJ (op_store rfl rfl rfl rfl rfl rfl sz33 rfl (Nat.le_of_ble_eq_true rfl) rfl) ?_; (try simp only [nA, Nat.reduceBEq, Nat.reduceEqDiff, ↓reduceIte, Nat.reduceAdd, Nat.reduceSub])
   refine awP (op_assign rfl rfl) ?_
   refine AWL.nil ?_
   (refine hK _ ?_; clear hK K; (try simp only [nA, Nat.reduceBEq, Nat.reduceEqDiff, ↓reduceIte, Nat.reduceAdd, Nat.reduceSub]))
   (refine AW.seq_k ?_; intro K hK)
   refine AW.region (AWL.quiet ?_)
   refine aqP (op_move rfl rfl) ?_
   (first | refine aqP (op_eql rfl rfl rfl) ?_ | refine aqP (op_seql rfl rfl rfl) ?_)
   refine aqP (op_move rfl rfl) ?_
   refine' aqAnd' [_, _] [97,98] rfl rfl rfl rfl rfl rfl rfl rfl rfl rfl rfl rfl (fun hb => ?_) ?_; rotate_left
   ·
    (try simp only [hcS] at hb)
    refine aqP (op_move rfl rfl) ?_
    (first | refine aqP (op_eql rfl rfl rfl) ?_ | refine aqP (op_seql rfl rfl rfl) ?_)
    (refine aqSeg rfl rfl rfl ?_; repeat (first | exact fun _ _ => rfl | refine upd_out rfl ?_ | refine era_out rfl ?_))
   (try simp only [nA, Nat.reduceBEq, Nat.reduceEqDiff, ↓reduceIte, Nat.reduceAdd, Nat.reduceSub])
   refine aqP (op_move rfl rfl) ?_
   refine' aqAnd' [_, _, _] [101,102,103] rfl rfl rfl rfl rfl rfl rfl rfl rfl rfl rfl rfl (fun hb => ?_) ?_; rotate_left
   ·
    (try simp only [hcS] at hb)
    (first | refine aqP (op_fa_ptr rfl rfl rfl fl33_2 (by exact sz3) (by decide) rfl) ?_ | refine aqP (op_fa_rop rfl rfl fl33_2 (by exact sz3) (by decide) (Nat.le_of_ble_eq_true rfl) rfl) ?_)
    (first | refine aqR (op_load_ptr1 rfl rfl rfl rfl ag3 rfl rfl) ?_ | refine aqR (op_load_rop1 rfl rfl ag3) ?_)
    (first | refine aqP (op_eql rfl rfl rfl) ?_ | refine aqP (op_seql rfl rfl rfl) ?_)
    (refine aqSeg rfl rfl rfl ?_; repeat (first | exact fun _ _ => rfl | refine upd_out rfl ?_ | refine era_out rfl ?_))
   (try simp only [nA, Nat.reduceBEq, Nat.reduceEqDiff, ↓reduceIte, Nat.reduceAdd, Nat.reduceSub])
   refine aqP (op_move rfl rfl) ?_
   refine' aqAnd' [_, _] [106,107] rfl rfl rfl rfl rfl rfl rfl rfl rfl rfl rfl rfl (fun hb => ?_) ?_; rotate_left
   ·
    (try simp only [hcS] at hb)
    refine aqP (op_move rfl rfl) ?_
    (first | refine aqP (op_eql rfl rfl rfl) ?_ | refine aqP (op_seql rfl rfl rfl) ?_)
    (refine aqSeg rfl rfl rfl ?_; repeat (first | exact fun _ _ => rfl | refine upd_out rfl ?_ | refine era_out rfl ?_))
   (try simp only [nA, Nat.reduceBEq, Nat.reduceEqDiff, ↓reduceIte, Nat.reduceAdd, Nat.reduceSub])
   refine aqP (op_move rfl rfl) ?_
   refine' aqAnd' [_, _] [110,111] rfl rfl rfl rfl rfl rfl rfl rfl rfl rfl rfl rfl (fun hb => ?_) ?_; rotate_left
   ·
    (try simp only [hcS] at hb)
    refine aqP (op_move rfl rfl) ?_
    (first | refine aqP (op_eql rfl rfl rfl) ?_ | refine aqP (op_seql rfl rfl rfl) ?_)
    (refine aqSeg rfl rfl rfl ?_; repeat (first | exact fun _ _ => rfl | refine upd_out rfl ?_ | refine era_out rfl ?_))
   (try simp only [nA, Nat.reduceBEq, Nat.reduceEqDiff, ↓reduceIte, Nat.reduceAdd, Nat.reduceSub])
   refine aqP (op_move rfl rfl) ?_
   refine' aqAnd' [_, _] [114,115] rfl rfl rfl rfl rfl rfl rfl rfl rfl rfl rfl rfl (fun hb => ?_) ?_; rotate_left
   ·
    (try simp only [hcS] at hb)
    refine aqP (op_move rfl rfl) ?_
    (first | refine aqP (op_eql rfl rfl rfl) ?_ | refine aqP (op_seql rfl rfl rfl) ?_)
    (refine aqSeg rfl rfl rfl ?_; repeat (first | exact fun _ _ => rfl | refine upd_out rfl ?_ | refine era_out rfl ?_))
   (try simp only [nA, Nat.reduceBEq, Nat.reduceEqDiff, ↓reduceIte, Nat.reduceAdd, Nat.reduceSub])
   refine aqP (op_move rfl rfl) ?_
   refine' aqAnd' [_, _, _] [118,119,120] rfl rfl rfl rfl rfl rfl rfl rfl rfl rfl rfl rfl (fun hb => ?_) ?_; rotate_left
   ·
    (try simp only [hcS] at hb)
    (first | refine aqP (op_fa_ptr rfl rfl rfl fl33_2 (by exact sz3) (by decide) rfl) ?_ | refine aqP (op_fa_rop rfl rfl fl33_2 (by exact sz3) (by decide) (Nat.le_of_ble_eq_true rfl) rfl) ?_)
    (first | refine aqR (op_load_ptr1 rfl rfl rfl rfl ag3 rfl rfl) ?_ | refine aqR (op_load_rop1 rfl rfl ag3) ?_)
    (first | refine aqP (op_eql rfl rfl rfl) ?_ | refine aqP (op_seql rfl rfl rfl) ?_)
    (refine aqSeg rfl rfl rfl ?_; repeat (first | exact fun _ _ => rfl | refine upd_out rfl ?_ | refine era_out rfl ?_))
   (try simp only [nA, Nat.reduceBEq, Nat.reduceEqDiff, ↓reduceIte, Nat.reduceAdd, Nat.reduceSub])
   refine aqP (op_move rfl rfl) ?_
   refine' aqAnd' [_, _] [123,124] rfl rfl rfl rfl rfl rfl rfl rfl rfl rfl rfl rfl (fun hb => ?_) ?_; rotate_left
   ·
    (try simp only [hcS] at hb)
    refine aqP (op_move rfl rfl) ?_
    (first | refine aqP (op_eql rfl rfl rfl) ?_ | refine aqP (op_seql rfl rfl rfl) ?_)
    (refine aqSeg rfl rfl rfl ?_; repeat (first | exact fun _ _ => rfl | refine upd_out rfl ?_ | refine era_out rfl ?_))
   (try simp only [nA, Nat.reduceBEq, Nat.reduceEqDiff, ↓reduceIte, Nat.reduceAdd, Nat.reduceSub])
   refine aqP (op_move rfl rfl) ?_
   refine' aqAnd' [_, _] [127,128] rfl rfl rfl rfl rfl rfl rfl rfl rfl rfl rfl rfl (fun hb => ?_) ?_; rotate_left
   ·
    (try simp only [hcS] at hb)
    refine aqP (op_move rfl rfl) ?_
    (first | refine aqP (op_eql rfl rfl rfl) ?_ | refine aqP (op_seql rfl rfl rfl) ?_)
    (refine aqSeg rfl rfl rfl ?_; repeat (first | exact fun _ _ => rfl | refine upd_out rfl ?_ | refine era_out rfl ?_))
   (try simp only [nA, Nat.reduceBEq, Nat.reduceEqDiff, ↓reduceIte, Nat.reduceAdd, Nat.reduceSub])
   refine aqP (op_assign rfl rfl) ?_
   refine AQ.nil ?_
   (refine hK _ ?_; clear hK K; (try simp only [nA, Nat.reduceBEq, Nat.reduceEqDiff, ↓reduceIte, Nat.reduceAdd, Nat.reduceSub]))
   skip
   refine AW.ret ?_; (try simp only [thenE, inBlk, Nat.reduceEqDiff, ↓reduceIte]); exact RQ.of0 rfl (.tmp (Nat.le_of_ble_eq_true rfl) rfl rfl .nil)
end Go.Proofs.Ytdnofpggdddimaa
