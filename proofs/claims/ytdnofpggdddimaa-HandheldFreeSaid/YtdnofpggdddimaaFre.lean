import Derived.Test.YtdnofpggdddimaaFrd
import Derived.RangeFuncNested
import Derived.RangeFuncBound
import Derived.RangeFuncCalls
import Derived.RangeFuncLeaves
import Derived.Shelf.Abstract
import Derived.Shelf.RegionOpen
import Derived.OwnWalkIn
import Derived.TacticsInMore
import Derived.LoopNIn
import Derived.LoopIn
namespace Go.Proofs.Ytdnofpggdddimaa
open Go.RowKit
set_option linter.unusedSimpArgs false
set_option linter.unusedVariables false
set_option maxRecDepth 100000
instance : Inhabited Flight := ⟨⟨⟨#[]⟩, 0, ⟨#[]⟩, 0⟩⟩
instance : Inhabited Grant := ⟨⟨default, default⟩⟩
instance : Inhabited Op := ⟨⟨0, 0, 0, 0, 0, default⟩⟩
def grBad (l : List Grant) (i : Nat) : Bool := !grB (l.getD i default) || (decide ((i : Int) > 0) && decide (cmpP (l.getD (i - 1) default).piece.plate (l.getD i default).piece.plate ≥ 0))
def grsB (l : List Grant) : Bool := decide ((l.length : Int) ≤ 60) && (List.range l.length).all fun i => !grBad l i
theorem grs_no {l : List Grant} {i : Nat} (h : i < l.length) (hb : grBad l i = true) : grsB l = false := by
  unfold grsB
  rw [all_range_no h (by rw [hb]; rfl), Bool.and_false]
theorem grs_yes {l : List Grant} {i : Nat} (h : ¬ i < l.length) (hb : ∀ k, k < i → grBad l k = false) : grsB l = decide ((l.length : Int) ≤ 60) := by
  unfold grsB
  rw [all_range_yes h (fun k hk => by rw [hb k hk]; rfl), Bool.and_true]
theorem all_f_step {f : Nat → Bool} {i : Nat} (h : ∀ k, k < i → f k = false) (h2 : f i = false) : ∀ k, k < i + 1 → f k = false := fun k hk => by
  by_cases e : k = i
  · rw [e, h2]
  · exact h k (by omega)
theorem C48 {h : Hand} (hs : h.Sm) : Fn Try.prog 48 [] [.agg h.av] [.v (.bool (grsB h.grants))] [] := by
  have h1 := hs.g
  refine Spec.body Try.func48 rfl Try.ntmps48 (by simp) rfl ?_; intro S0 own0 v0 w0
  (refine AW.seq_k ?_; intro K hK)
  refine AW.region ?_
  refine awJ (op_box rfl rfl rfl sz87 rfl) ?_; (simp only [nA, Nat.reduceBEq, Nat.reduceEqDiff, ↓reduceIte, Nat.reduceAdd, Nat.reduceSub])
  refine awP (op_assign rfl rfl) ?_
  refine AWL.nil ?_
  (refine hK _ ?_; clear hK K; (simp only [nA, Nat.reduceBEq, Nat.reduceEqDiff, ↓reduceIte, Nat.reduceAdd, Nat.reduceSub]))
  (refine AW.seq_k ?_; intro K hK)
  (refine AW.seq_k ?_; intro K hK)
  refine AW.region ?_
  (refine awP (op_fa_ptr rfl rfl rfl fl87_4 (by exact sz22) (by decide) rfl) ?_)
  (refine awR (op_load_ptr1 rfl rfl rfl rfl ag22 rfl rfl) ?_)
  refine awP (op_len_ro (n := h.grants.length) rfl rfl Try.underlying22 (.inr (.inl ⟨_, rfl, by simp⟩))) ?_
  refine awP (op_gtr rfl rfl rfl) ?_
  refine AWL.nil ?_
  (refine hK _ ?_; clear hK K; (simp only [nA, Nat.reduceBEq, Nat.reduceEqDiff, ↓reduceIte, Nat.reduceAdd, Nat.reduceSub]))
  refine AW.cond rfl rfl rfl (fun hc => ?_) (fun hc => ?_)
  ·
   (try simp only [hcS] at hc); have hc1 := hc; skip
   (refine AW.seq_k ?_; intro K hK)
   refine AW.region ?_
   refine awP (op_assign rfl rfl) ?_
   refine AWL.nil ?_
   (refine hK _ ?_; clear hK K; (simp only [nA, Nat.reduceBEq, Nat.reduceEqDiff, ↓reduceIte, Nat.reduceAdd, Nat.reduceSub]))
   skip
   refine AW.ret ?_; (simp only [thenE, inBlk, Nat.reduceEqDiff, ↓reduceIte]); rw [show grsB h.grants = false by unfold grsB; rw [decide_eq_false (by omega)]; rfl]; exact RQ.of0 rfl (.tmp (Nat.le_of_ble_eq_true rfl) rfl rfl .nil)
  ·
   (try simp only [hcS] at hc); have hc1 := hc; skip
   refine AW.skip ?_
   (refine hK _ ?_; clear hK K; (skip))
   (refine AW.seq_k ?_; intro K hK)
   (refine AW.seq_k ?_; intro K hK)
   refine AW.region ?_
   (refine awP (op_fa_ptr rfl rfl rfl fl87_4 (by exact sz22) (by decide) rfl) ?_)
   (refine awR (op_load_ptr1 rfl rfl rfl rfl ag22 rfl rfl) ?_)
   refine awP (op_len_ro (n := h.grants.length) rfl rfl Try.underlying22 (.inr (.inl ⟨_, rfl, by simp⟩))) ?_
   refine awP (op_move rfl rfl) ?_
   refine AWL.nil ?_
   (refine hK _ ?_; clear hK K; (simp only [nA, Nat.reduceBEq, Nat.reduceEqDiff, ↓reduceIte, Nat.reduceAdd, Nat.reduceSub]))
   refine AW.block ?_
   refine AW.loopI (fun i => [(1, .ptr 0 1 0 0), (10, .ro (h.grants.map Grant.av)), (11, .v (.int .i64 h.grants.length)), (12, .v (.int .i64 (i : Nat)))]) (fun i => ⟨[(1, .own 87 [h.av])], 2 + i⟩) (fun i => i ≤ h.grants.length ∧ ∀ k, k < i → grBad h.grants k = false) (fun i => h.grants.length - i) 0 (by simp) ⟨rfl, rfl, rfl, rfl, trivial⟩ rfl ?_; intro i ρ hi; simp only [updL]
   (refine AW.seq_k ?_; intro K hK)
   refine AW.region ?_
   refine awP (op_lss rfl rfl rfl) ?_
   refine AWL.nil ?_
   (refine hK _ ?_; clear hK K; (simp only [nA, Nat.reduceBEq, Nat.reduceEqDiff, ↓reduceIte, Nat.reduceAdd, Nat.reduceSub]))
   (refine AW.seq_k ?_; intro K hK)
   refine AW.cond rfl rfl rfl (fun hc => ?_) (fun hc => ?_)
   ·
    (try simp only [hcS] at hc); have hc2 := hc; have hlt : i < h.grants.length := (by simpa using hc2)
    refine AW.skip ?_
    (refine hK _ ?_; clear hK K; (skip))
    (refine AW.seq_k ?_; intro K hK)
    refine AW.block ?_
    (refine AW.seq_k ?_; intro K hK)
    refine AW.region ?_
    refine awP (op_move rfl rfl) ?_
    refine awP (op_ia_ro i rfl (.inl rfl) rfl Try.underlying22 rfl (get_mapD (by omega)) (by exact sz75) (Nat.le_of_ble_eq_true rfl)) ?_
    (refine awR (op_load_rop rfl rfl ag75 sz75 (Nat.le_of_ble_eq_true rfl) (by decide) rfl) ?_)
    refine awJ (op_alloc rfl ze75 rfl) ?_; (simp only [nA, Nat.reduceBEq, Nat.reduceEqDiff, ↓reduceIte, Nat.reduceAdd, Nat.reduceSub])
    refine awP (op_assign rfl rfl) ?_
    refine awJ (op_store rfl rfl rfl rfl rfl rfl sz75 rfl (Nat.le_of_ble_eq_true rfl) rfl) ?_; (simp only [nA, Nat.reduceBEq, Nat.reduceEqDiff, ↓reduceIte, Nat.reduceAdd, Nat.reduceSub])
    refine AWL.nil ?_
    (refine hK _ ?_; clear hK K; (skip))
    (refine AW.seq_k ?_; intro K hK)
    refine AW.quiet mix (by kernel_rfl) ?_
    (refine aqR (op_load_ptr rfl rfl rfl rfl ag75 sz75 (Nat.le_of_ble_eq_true rfl) rfl) ?_)
    refine aqQ (op_callQ (b := true) rfl en62 (C62 (g := h.grants.getD i default)) (RL.cons (by exact View.same rfl) (RL.nil)) rfl) ?_; (simp only [nA, Nat.reduceBEq, Nat.reduceEqDiff, ↓reduceIte, Nat.reduceAdd, Nat.reduceSub])
    refine aqP (op_not rfl rfl rfl) ?_
    refine aqP (op_move rfl rfl) ?_
    refine' aqOrN' [_, _, _, _, _, _, _, _, _, _, _, _, _, _, _, _, _] [21,22,23,24,25,26,27,28,29,30,31,32,33,34,35,36,37] rfl rfl rfl rfl rfl rfl rfl rfl rfl rfl rfl rfl (fun hb => ?_) ?_; rotate_left
    ·
     (try simp only [hcS] at hb)
     refine aqP (op_move rfl rfl) ?_
     refine aqP (op_gtr rfl rfl rfl) ?_
     refine aqP (op_move rfl rfl) ?_
     refine' aqAnd' [_, _, _, _, _, _, _, _, _, _, _, _, _] [24,25,26,27,28,29,30,31,32,33,34,35,36] rfl rfl rfl rfl rfl rfl rfl rfl rfl rfl rfl rfl (fun hb => ?_) ?_; rotate_left
     ·
      (try simp only [hcS] at hb)
      (refine aqP (op_fa_ptr rfl rfl rfl fl87_4 (by exact sz22) (by decide) rfl) ?_)
      (refine aqR (op_load_ptr1 rfl rfl rfl rfl ag22 rfl rfl) ?_)
      refine aqP (op_move rfl rfl) ?_
      (refine aqP (op_subi rfl rfl rfl (by omega)) ?_)
      refine aqP (op_ia_ro (i - 1) rfl (.inl rfl) rfl Try.underlying22 (by simp at hb; omega) (get_mapD (by omega)) (by exact sz75) (Nat.le_of_ble_eq_true rfl)) ?_
      (refine aqP (op_fa_rop rfl rfl fl75_0 (by exact sz31) (by decide) (Nat.le_of_ble_eq_true rfl) rfl) ?_)
      (refine aqP (op_fa_rop rfl rfl fl31_0 (by exact sz29) (by decide) (Nat.le_of_ble_eq_true rfl) rfl) ?_)
      (refine aqR (op_load_rop rfl rfl ag29 sz29 (Nat.le_of_ble_eq_true rfl) (by decide) rfl) ?_)
      (refine aqP (op_fa_ptr rfl rfl rfl fl75_0 (by exact sz31) (by decide) rfl) ?_)
      (refine aqP (op_fa_ptr rfl rfl rfl fl31_0 (by exact sz29) (by decide) rfl) ?_)
      (refine aqR (op_load_ptr rfl rfl rfl rfl ag29 sz29 (Nat.le_of_ble_eq_true rfl) rfl) ?_)
      refine aqQ (op_callQ (b := true) rfl en63 (C63 (p := (h.grants.getD (i - 1) default).piece.plate) (q := (h.grants.getD i default).piece.plate)) (RL.cons (by exact View.same rfl) (RL.cons (by exact View.same rfl) (RL.nil))) rfl) ?_; (simp only [nA, Nat.reduceBEq, Nat.reduceEqDiff, ↓reduceIte, Nat.reduceAdd, Nat.reduceSub])
      refine aqP (op_geq rfl rfl rfl) ?_
      (refine aqSeg rfl rfl rfl ?_; repeat (first | exact fun _ _ => rfl | refine upd_out rfl ?_))
     (simp only [nA, Nat.reduceBEq, Nat.reduceEqDiff, ↓reduceIte, Nat.reduceAdd, Nat.reduceSub])
     (refine aqSeg rfl rfl rfl ?_; repeat (first | exact fun _ _ => rfl | refine upd_out rfl ?_ | refine era_out rfl ?_))
    (simp only [nA, Nat.reduceBEq, Nat.reduceEqDiff, ↓reduceIte, Nat.reduceAdd, Nat.reduceSub])
    refine AQ.nil ?_
    (refine hK _ ?_; clear hK K; (skip))
    refine AW.cond rfl rfl rfl (fun hc => ?_) (fun hc => ?_)
    ·
     (try simp only [hcS] at hc); have hc3 := hc; skip
     (refine AW.seq_k ?_; intro K hK)
     refine AW.region ?_
     refine awP (op_assign rfl rfl) ?_
     refine AWL.nil ?_
     (refine hK _ ?_; clear hK K; (simp only [nA, Nat.reduceBEq, Nat.reduceEqDiff, ↓reduceIte, Nat.reduceAdd, Nat.reduceSub]))
     skip
     refine AW.ret ?_; (simp only [thenE, inBlk, Nat.reduceEqDiff, ↓reduceIte]); rw [grs_no hlt (by simpa [grBad] using hc3)]; exact RQ.of0 rfl (.tmp (Nat.le_of_ble_eq_true rfl) rfl rfl .nil)
    ·
     (try simp only [hcS] at hc); have hc3 := hc; skip
     refine AW.skip ?_
     (simp only [thenE, inBlk, Nat.reduceEqDiff, ↓reduceIte])
     (refine hK _ ?_; clear hK K; (skip))
     refine AW.region ?_
     (refine awP (op_addi rfl rfl rfl (by omega)) ?_)
     refine awP (op_move rfl rfl) ?_
     refine AWL.gh (Gh.drop 1) ?_; (simp only [nA, Nat.reduceBEq, Nat.reduceEqDiff, ↓reduceIte, Nat.reduceAdd, Nat.reduceSub])
     refine AWL.nil ?_
     refine ⟨i + 1, ⟨by omega, all_f_step hi.2 (by simp at hc3; simp [grBad]; exact ⟨hc3.1, fun c => hc3.2.resolve_left (by omega)⟩)⟩, by omega, ⟨rfl, rfl, rfl, rfl, trivial⟩, (by rfl), (by rfl)⟩
   ·
    (try simp only [hcS] at hc); have hc2 := hc; skip
    refine AW.exit ?_; (simp only [thenE, inBlk, Nat.reduceEqDiff, ↓reduceIte])
    clear hK K
    (refine hK _ ?_; clear hK K; (skip))
    (refine AW.seq_k ?_; intro K hK)
    refine AW.region ?_
    refine awP (op_assign rfl rfl) ?_
    refine AWL.nil ?_
    (refine hK _ ?_; clear hK K; (simp only [nA, Nat.reduceBEq, Nat.reduceEqDiff, ↓reduceIte, Nat.reduceAdd, Nat.reduceSub]))
    skip
    refine AW.ret ?_; rw [show grsB h.grants = true by rw [grs_yes (i := i) (by simp at hc2; omega) hi.2, decide_eq_true (by omega)]]; exact RQ.of0 rfl (.tmp (Nat.le_of_ble_eq_true rfl) rfl rfl .nil)
theorem C51 {l : List Grant} (h1 : l.length ≤ 1000) : Fn Try.prog 51 [] [.ro (l.map Grant.av)] [.v (.bool (grsB l))] [] := by
  refine Spec.body Try.func51 rfl Try.ntmps51 (by simp) rfl ?_; intro S0 own0 v0 w0
  (refine AW.seq_k ?_; intro K hK)
  refine AW.region ?_
  refine awP (op_assign rfl rfl) ?_
  refine AWL.nil ?_
  (refine hK _ ?_; clear hK K; (simp only [nA, Nat.reduceBEq, Nat.reduceEqDiff, ↓reduceIte, Nat.reduceAdd, Nat.reduceSub]))
  (refine AW.seq_k ?_; intro K hK)
  (refine AW.seq_k ?_; intro K hK)
  refine AW.region ?_
  refine awP (op_assign rfl rfl) ?_
  refine AWL.nil ?_
  (refine hK _ ?_; clear hK K; (simp only [nA, Nat.reduceBEq, Nat.reduceEqDiff, ↓reduceIte, Nat.reduceAdd, Nat.reduceSub]))
  refine AW.block ?_
  refine AW.loopI (fun i => [(0, .ro (l.map Grant.av)), (3, .v (.int .i64 (i : Nat)))]) (fun i => ⟨[], 1⟩) (fun i => i ≤ l.length ∧ ∀ k, k < i → grBad l k = false) (fun i => l.length - i) 0 (by simp) ⟨rfl, rfl, trivial⟩ rfl ?_; intro i ρ hi; simp only [updL]
  (refine AW.seq_k ?_; intro K hK)
  (refine AW.seq_k ?_; intro K hK)
  refine AW.region ?_
  refine awP (op_move rfl rfl) ?_
  refine awP (op_move rfl rfl) ?_
  refine awP (op_len_ro (n := l.length) rfl rfl Try.underlying22 (.inr (.inl ⟨_, rfl, by simp⟩))) ?_
  refine awP (op_lss rfl rfl rfl) ?_
  refine AWL.nil ?_
  (refine hK _ ?_; clear hK K; (simp only [nA, Nat.reduceBEq, Nat.reduceEqDiff, ↓reduceIte, Nat.reduceAdd, Nat.reduceSub]))
  refine AW.cond rfl rfl rfl (fun hc => ?_) (fun hc => ?_)
  ·
   (try simp only [hcS] at hc); have hc1 := hc; have hlt : i < l.length := (by simpa using hc1)
   refine AW.skip ?_
   (refine hK _ ?_; clear hK K; (skip))
   (refine AW.seq_k ?_; intro K hK)
   refine AW.block ?_
   (refine AW.seq_k ?_; intro K hK)
   refine AW.quiet mix (by kernel_rfl) ?_
   refine aqP (op_move rfl rfl) ?_
   refine aqP (op_move rfl rfl) ?_
   refine aqP (op_ia_ro i rfl (.inl rfl) rfl Try.underlying22 rfl (get_mapD (by omega)) (by exact sz75) (Nat.le_of_ble_eq_true rfl)) ?_
   (refine aqR (op_load_rop rfl rfl ag75 sz75 (Nat.le_of_ble_eq_true rfl) (by decide) rfl) ?_)
   refine aqQ (op_callQ (b := true) rfl en67 (C67 (g := l.getD i default)) (RL.cons (by exact View.same rfl) (RL.nil)) rfl) ?_; (simp only [nA, Nat.reduceBEq, Nat.reduceEqDiff, ↓reduceIte, Nat.reduceAdd, Nat.reduceSub])
   refine aqP (op_not rfl rfl rfl) ?_
   refine aqP (op_move rfl rfl) ?_
   refine' aqOrN' [_, _, _, _, _, _, _, _, _, _, _, _, _, _, _, _, _, _, _] [17,18,19,20,21,22,23,24,25,26,27,28,29,30,31,32,33,34,35] rfl rfl rfl rfl rfl rfl rfl rfl rfl rfl rfl rfl (fun hb => ?_) ?_; rotate_left
   ·
    (try simp only [hcS] at hb)
    refine aqP (op_move rfl rfl) ?_
    refine aqP (op_gtr rfl rfl rfl) ?_
    refine aqP (op_move rfl rfl) ?_
    refine' aqAnd' [_, _, _, _, _, _, _, _, _, _, _, _, _, _, _] [20,21,22,23,24,25,26,27,28,29,30,31,32,33,34] rfl rfl rfl rfl rfl rfl rfl rfl rfl rfl rfl rfl (fun hb => ?_) ?_; rotate_left
    ·
     (try simp only [hcS] at hb)
     refine aqP (op_move rfl rfl) ?_
     refine aqP (op_move rfl rfl) ?_
     (refine aqP (op_subi rfl rfl rfl (by omega)) ?_)
     refine aqP (op_ia_ro (i - 1) rfl (.inl rfl) rfl Try.underlying22 (by simp at hb; omega) (get_mapD (by omega)) (by exact sz75) (Nat.le_of_ble_eq_true rfl)) ?_
     (refine aqP (op_fa_rop rfl rfl fl75_0 (by exact sz31) (by decide) (Nat.le_of_ble_eq_true rfl) rfl) ?_)
     (refine aqP (op_fa_rop rfl rfl fl31_0 (by exact sz29) (by decide) (Nat.le_of_ble_eq_true rfl) rfl) ?_)
     (refine aqR (op_load_rop rfl rfl ag29 sz29 (Nat.le_of_ble_eq_true rfl) (by decide) rfl) ?_)
     refine aqP (op_move rfl rfl) ?_
     refine aqP (op_move rfl rfl) ?_
     refine aqP (op_ia_ro i rfl (.inl rfl) rfl Try.underlying22 rfl (get_mapD (by omega)) (by exact sz75) (Nat.le_of_ble_eq_true rfl)) ?_
     (refine aqP (op_fa_rop rfl rfl fl75_0 (by exact sz31) (by decide) (Nat.le_of_ble_eq_true rfl) rfl) ?_)
     (refine aqP (op_fa_rop rfl rfl fl31_0 (by exact sz29) (by decide) (Nat.le_of_ble_eq_true rfl) rfl) ?_)
     (refine aqR (op_load_rop rfl rfl ag29 sz29 (Nat.le_of_ble_eq_true rfl) (by decide) rfl) ?_)
     refine aqQ (op_callQ (b := true) rfl en68 (C68 (p := (l.getD (i - 1) default).piece.plate) (q := (l.getD i default).piece.plate)) (RL.cons (by exact View.same rfl) (RL.cons (by exact View.same rfl) (RL.nil))) rfl) ?_; (simp only [nA, Nat.reduceBEq, Nat.reduceEqDiff, ↓reduceIte, Nat.reduceAdd, Nat.reduceSub])
     refine aqP (op_geq rfl rfl rfl) ?_
     (refine aqSeg rfl rfl rfl ?_; repeat (first | exact fun _ _ => rfl | refine upd_out rfl ?_))
    (simp only [nA, Nat.reduceBEq, Nat.reduceEqDiff, ↓reduceIte, Nat.reduceAdd, Nat.reduceSub])
    (refine aqSeg rfl rfl rfl ?_; repeat (first | exact fun _ _ => rfl | refine upd_out rfl ?_ | refine era_out rfl ?_))
   (simp only [nA, Nat.reduceBEq, Nat.reduceEqDiff, ↓reduceIte, Nat.reduceAdd, Nat.reduceSub])
   refine AQ.nil ?_
   (refine hK _ ?_; clear hK K; (skip))
   refine AW.cond rfl rfl rfl (fun hc => ?_) (fun hc => ?_)
   ·
    (try simp only [hcS] at hc); have hc2 := hc; skip
    (refine AW.seq_k ?_; intro K hK)
    refine AW.region ?_
    refine awP (op_assign rfl rfl) ?_
    refine AWL.nil ?_
    (refine hK _ ?_; clear hK K; (simp only [nA, Nat.reduceBEq, Nat.reduceEqDiff, ↓reduceIte, Nat.reduceAdd, Nat.reduceSub]))
    skip
    refine AW.ret ?_; (simp only [thenE, inBlk, Nat.reduceEqDiff, ↓reduceIte]); rw [grs_no hlt (by simpa [grBad] using hc2)]; exact RQ.of0 rfl (.tmp (Nat.le_of_ble_eq_true rfl) rfl rfl .nil)
   ·
    (try simp only [hcS] at hc); have hc2 := hc; skip
    refine AW.skip ?_
    (simp only [thenE, inBlk, Nat.reduceEqDiff, ↓reduceIte])
    (refine hK _ ?_; clear hK K; (skip))
    refine AW.region ?_
    refine awP (op_move rfl rfl) ?_
    (refine awP (op_addi rfl rfl rfl (by omega)) ?_)
    refine awP (op_assign rfl rfl) ?_
    skip
    refine AWL.nil ?_
    refine ⟨i + 1, ⟨by omega, all_f_step hi.2 (by simp at hc2; simp [grBad]; exact ⟨hc2.1, fun c => hc2.2.resolve_left (by omega)⟩)⟩, by omega, ⟨rfl, rfl, trivial⟩, (by rfl), (by rfl)⟩
  ·
   (try simp only [hcS] at hc); have hc1 := hc; skip
   refine AW.exit ?_; (simp only [thenE, inBlk, Nat.reduceEqDiff, ↓reduceIte])
   clear hK K
   (refine hK _ ?_; clear hK K; (skip))
   (refine AW.seq_k ?_; intro K hK)
   refine AW.region ?_
   refine awP (op_move rfl rfl) ?_
   refine awP (op_len_ro (n := l.length) rfl rfl Try.underlying22 (.inr (.inl ⟨_, rfl, by simp⟩))) ?_
   refine awP (op_leq rfl rfl rfl) ?_
   refine awP (op_assign rfl rfl) ?_
   refine AWL.nil ?_
   (refine hK _ ?_; clear hK K; (simp only [nA, Nat.reduceBEq, Nat.reduceEqDiff, ↓reduceIte, Nat.reduceAdd, Nat.reduceSub]))
   skip
   refine AW.ret ?_; rw [grs_yes (i := i) (by simp at hc1; omega) hi.2]; exact RQ.of0 rfl (.tmp (Nat.le_of_ble_eq_true rfl) rfl rfl .nil)
def empB (l : List Container) : Bool := l.all (fun c => decide (c.pieces.length = 0)) && decide (chkL l = 0)
theorem emp_no {l : List Container} {i : Nat} (h : i < l.length) (hb : ((l.getD i default).pieces.length : Int) > 0) : empB l = false := by
  unfold empB
  rw [List.all_eq_false.2 ⟨l[i], List.getElem_mem h, by
    rw [List.getD_eq_getElem?_getD, List.getElem?_eq_getElem h] at hb
    simp only [Option.getD_some] at hb
    simp only [decide_eq_true_eq]; omega⟩, Bool.false_and]
theorem emp_yes {l : List Container} {i : Nat} (h : ¬ i < l.length) (hb : ∀ k, k < i → (l.getD k default).pieces.length = 0) : empB l = decide (chkL l = 0) := by
  unfold empB
  rw [List.all_eq_true.2 fun c hc => by
    obtain ⟨k, hk, rfl⟩ := List.getElem_of_mem hc
    have := hb k (by omega)
    rw [List.getD_eq_getElem?_getD, List.getElem?_eq_getElem hk] at this
    simpa using this, Bool.true_and]
theorem C49 {h : Hand} (hs : h.Sm) : Fn Try.prog 49 [] [.agg h.av] [.v (.bool (empB h.conts))] [] := by
  have h1 := hs.c
  refine Spec.body Try.func49 rfl Try.ntmps49 (by simp) rfl ?_; intro S0 own0 v0 w0
  (refine AW.seq_k ?_; intro K hK)
  refine AW.region ?_
  refine awJ (op_box rfl rfl rfl sz87 rfl) ?_; (simp only [nA, Nat.reduceBEq, Nat.reduceEqDiff, ↓reduceIte, Nat.reduceAdd, Nat.reduceSub])
  refine awP (op_assign rfl rfl) ?_
  refine AWL.nil ?_
  (refine hK _ ?_; clear hK K; (simp only [nA, Nat.reduceBEq, Nat.reduceEqDiff, ↓reduceIte, Nat.reduceAdd, Nat.reduceSub]))
  (refine AW.seq_k ?_; intro K hK)
  (refine AW.seq_k ?_; intro K hK)
  refine AW.region ?_
  (refine awP (op_fa_ptr rfl rfl rfl fl87_5 (by exact sz23) (by decide) rfl) ?_)
  (refine awR (op_load_ptr1 rfl rfl rfl rfl ag23 rfl rfl) ?_)
  refine awP (op_len_ro (n := h.conts.length) rfl rfl Try.underlying23 (.inr (.inl ⟨_, rfl, by simp⟩))) ?_
  refine awP (op_move rfl rfl) ?_
  refine AWL.nil ?_
  (refine hK _ ?_; clear hK K; (simp only [nA, Nat.reduceBEq, Nat.reduceEqDiff, ↓reduceIte, Nat.reduceAdd, Nat.reduceSub]))
  refine AW.block ?_
  refine AW.loopI (fun i => [(1, .ptr 0 1 0 0), (6, .ro (h.conts.map Container.av)), (7, .v (.int .i64 h.conts.length)), (8, .v (.int .i64 (i : Nat)))]) (fun i => ⟨[(1, .own 87 [h.av])], 2 + i⟩) (fun i => i ≤ h.conts.length ∧ ∀ k, k < i → (h.conts.getD k default).pieces.length = 0) (fun i => h.conts.length - i) 0 (by simp) ⟨rfl, rfl, rfl, rfl, trivial⟩ rfl ?_; intro i ρ hi; simp only [updL]
  (refine AW.seq_k ?_; intro K hK)
  refine AW.region ?_
  refine awP (op_lss rfl rfl rfl) ?_
  refine AWL.nil ?_
  (refine hK _ ?_; clear hK K; (simp only [nA, Nat.reduceBEq, Nat.reduceEqDiff, ↓reduceIte, Nat.reduceAdd, Nat.reduceSub]))
  (refine AW.seq_k ?_; intro K hK)
  refine AW.cond rfl rfl rfl (fun hc => ?_) (fun hc => ?_)
  ·
   (try simp only [hcS] at hc); have hc1 := hc; have hlt : i < h.conts.length := (by simpa using hc1)
   refine AW.skip ?_
   (refine hK _ ?_; clear hK K; (skip))
   (refine AW.seq_k ?_; intro K hK)
   refine AW.block ?_
   (refine AW.seq_k ?_; intro K hK)
   refine AW.region ?_
   refine awP (op_ia_ro i rfl (.inl rfl) rfl Try.underlying23 rfl (get_mapD (by omega)) (by exact sz77) (Nat.le_of_ble_eq_true rfl)) ?_
   (refine awR (op_load_rop rfl rfl ag77 sz77 (Nat.le_of_ble_eq_true rfl) (by decide) rfl) ?_)
   refine awJ (op_alloc rfl ze77 rfl) ?_; (simp only [nA, Nat.reduceBEq, Nat.reduceEqDiff, ↓reduceIte, Nat.reduceAdd, Nat.reduceSub])
   refine awJ (op_store rfl rfl rfl rfl rfl rfl sz77 rfl (Nat.le_of_ble_eq_true rfl) rfl) ?_; (simp only [nA, Nat.reduceBEq, Nat.reduceEqDiff, ↓reduceIte, Nat.reduceAdd, Nat.reduceSub])
   refine AWL.nil ?_
   (refine hK _ ?_; clear hK K; (skip))
   (refine AW.seq_k ?_; intro K hK)
   refine AW.region ?_
   (refine awP (op_fa_ptr rfl rfl rfl fl77_7 (by exact sz53) (by decide) rfl) ?_)
   (refine awR (op_load_ptr1 rfl rfl rfl rfl ag53 rfl rfl) ?_)
   refine awP (op_len_ro (n := (h.conts.getD i default).pieces.length) rfl rfl Try.underlying53 (.inr (.inl ⟨_, rfl, by simp⟩))) ?_
   refine awP (op_gtr rfl rfl rfl) ?_
   refine AWL.nil ?_
   (refine hK _ ?_; clear hK K; (simp only [nA, Nat.reduceBEq, Nat.reduceEqDiff, ↓reduceIte, Nat.reduceAdd, Nat.reduceSub]))
   refine AW.cond rfl rfl rfl (fun hc => ?_) (fun hc => ?_)
   ·
    (try simp only [hcS] at hc); have hc2 := hc; skip
    (refine AW.seq_k ?_; intro K hK)
    refine AW.region ?_
    refine awP (op_assign rfl rfl) ?_
    refine AWL.nil ?_
    (refine hK _ ?_; clear hK K; (simp only [nA, Nat.reduceBEq, Nat.reduceEqDiff, ↓reduceIte, Nat.reduceAdd, Nat.reduceSub]))
    skip
    refine AW.ret ?_; (simp only [thenE, inBlk, Nat.reduceEqDiff, ↓reduceIte]); rw [emp_no hlt (by simpa using hc2)]; exact RQ.of0 rfl (.tmp (Nat.le_of_ble_eq_true rfl) rfl rfl .nil)
   ·
    (try simp only [hcS] at hc); have hc2 := hc; skip
    refine AW.skip ?_
    (simp only [thenE, inBlk, Nat.reduceEqDiff, ↓reduceIte])
    (refine hK _ ?_; clear hK K; (skip))
    refine AW.region ?_
    (refine awP (op_addi rfl rfl rfl (by omega)) ?_)
    refine awP (op_move rfl rfl) ?_
    refine AWL.gh (Gh.drop 1) ?_; (simp only [nA, Nat.reduceBEq, Nat.reduceEqDiff, ↓reduceIte, Nat.reduceAdd, Nat.reduceSub])
    refine AWL.nil ?_
    refine ⟨i + 1, ⟨by omega, fun k hk => ?_⟩, by omega, ⟨rfl, rfl, rfl, rfl, trivial⟩, (by rfl), (by rfl)⟩; (rcases Nat.lt_or_ge k i with h' | h'; exact hi.2 k h'; (obtain rfl : k = i := by omega); (simp at hc2; simpa using hc2))
  ·
   (try simp only [hcS] at hc); have hc1 := hc; skip
   refine AW.exit ?_; (simp only [thenE, inBlk, Nat.reduceEqDiff, ↓reduceIte])
   clear hK K
   (refine hK _ ?_; clear hK K; (skip))
   (refine AW.seq_k ?_; intro K hK)
   refine AW.region ?_
   (refine awP (op_fa_ptr rfl rfl rfl fl87_5 (by exact sz23) (by decide) rfl) ?_)
   (refine awR (op_load_ptr1 rfl rfl rfl rfl ag23 rfl rfl) ?_)
   refine awJ (OpQ.j (op_callQ (b := true) rfl en64 (C64 (xs := h.conts) (by omega)) (RL.cons (by exact View.same rfl) (RL.nil)) rfl)) ?_; (simp only [nA, Nat.reduceBEq, Nat.reduceEqDiff, ↓reduceIte, Nat.reduceAdd, Nat.reduceSub])
   (refine awP (op_eql rfl rfl rfl) ?_)
   refine awP (op_assign rfl rfl) ?_
   refine AWL.nil ?_
   (refine hK _ ?_; clear hK K; (simp only [nA, Nat.reduceBEq, Nat.reduceEqDiff, ↓reduceIte, Nat.reduceAdd, Nat.reduceSub]))
   skip
   refine AW.ret ?_; rw [emp_yes (i := i) (by simp at hc1; omega) hi.2]; exact RQ.of0 rfl (.tmp (Nat.le_of_ble_eq_true rfl) rfl rfl .nil)
end Go.Proofs.Ytdnofpggdddimaa
namespace Go.Proofs.Ytdnofpggdddimaa
open Go.RowKit
set_option linter.unusedSimpArgs false
set_option linter.unusedVariables false
set_option maxRecDepth 100000
def lgBad (h : Hand) (i : Nat) : Bool := ((!opB (h.log.getD i default) || !decide ((h.log.getD i default).device = h.number)) || !decide ((h.log.getD i default).seq = (h.next - h.log.length) + i)) || (decide ((i : Int) > 0) && decide ((h.log.getD i default).time < (h.log.getD (i - 1) default).time))
def lgLast (h : Hand) : Bool := decide ((h.log.length : Int) = 0) || decide ((h.log.getD (h.log.length - 1) default).time ≤ h.last)
def logB (h : Hand) : Bool := (decide ((h.log.length : Int) ≤ 60) && (List.range h.log.length).all fun i => !lgBad h i) && lgLast h
theorem log_no {h : Hand} {i : Nat} (hi : i < h.log.length) (hb : lgBad h i = true) : logB h = false := by
  unfold logB
  rw [all_range_no hi (by rw [hb]; rfl), Bool.and_false, Bool.false_and]
theorem log_yes {h : Hand} {i : Nat} (hi : ¬ i < h.log.length) (hb : ∀ k, k < i → lgBad h k = false) : logB h = (decide ((h.log.length : Int) ≤ 60) && lgLast h) := by
  unfold logB
  rw [all_range_yes hi (fun k hk => by rw [hb k hk]; rfl), Bool.and_true]
theorem or_false_of {a b : Bool} (h : (a || b) = false) : a = false ∧ b = false := by simpa using h
theorem C50 {h : Hand} (hs : h.Sm) (hn : 0 ≤ h.next ∧ h.next ≤ 1048576) : Fn Try.prog 50 [] [.agg h.av] [.v (.bool (logB h))] [] := by
  have h1 := hs.l
  refine Spec.body Try.func50 rfl Try.ntmps50 (by simp) rfl ?_; intro S0 own0 v0 w0
  (refine AW.seq_k ?_; intro K hK)
  refine AW.region ?_
  refine awJ (op_box rfl rfl rfl sz87 rfl) ?_; (simp only [nA, Nat.reduceBEq, Nat.reduceEqDiff, ↓reduceIte, Nat.reduceAdd, Nat.reduceSub])
  refine awP (op_assign rfl rfl) ?_
  refine AWL.nil ?_
  (refine hK _ ?_; clear hK K; (simp only [nA, Nat.reduceBEq, Nat.reduceEqDiff, ↓reduceIte, Nat.reduceAdd, Nat.reduceSub]))
  (refine AW.seq_k ?_; intro K hK)
  (refine AW.seq_k ?_; intro K hK)
  refine AW.region ?_
  (refine awP (op_fa_ptr rfl rfl rfl fl87_6 (by exact sz24) (by decide) rfl) ?_)
  (refine awR (op_load_ptr1 rfl rfl rfl rfl ag24 rfl rfl) ?_)
  refine awP (op_len_ro (n := h.log.length) rfl rfl Try.underlying24 (.inr (.inl ⟨_, rfl, by simp⟩))) ?_
  refine awP (op_gtr rfl rfl rfl) ?_
  refine AWL.nil ?_
  (refine hK _ ?_; clear hK K; (simp only [nA, Nat.reduceBEq, Nat.reduceEqDiff, ↓reduceIte, Nat.reduceAdd, Nat.reduceSub]))
  refine AW.cond rfl rfl rfl (fun hc => ?_) (fun hc => ?_)
  ·
   have hc1 := hc; skip
   (refine AW.seq_k ?_; intro K hK)
   refine AW.region ?_
   refine awP (op_assign rfl rfl) ?_
   refine AWL.nil ?_
   (refine hK _ ?_; clear hK K; (simp only [nA, Nat.reduceBEq, Nat.reduceEqDiff, ↓reduceIte, Nat.reduceAdd, Nat.reduceSub]))
   skip
   refine AW.ret ?_; (simp only [thenE, inBlk, Nat.reduceEqDiff, ↓reduceIte]); rw [show logB h = false by unfold logB; rw [decide_eq_false (by have := of_decide_eq_true hc1; omega)]; rfl]; exact RQ.of0 rfl (.tmp (Nat.le_of_ble_eq_true rfl) rfl rfl .nil)
  ·
   have hc1 := hc; skip
   refine AW.skip ?_
   (refine hK _ ?_; clear hK K; (skip))
   (refine AW.seq_k ?_; intro K hK)
   (refine AW.seq_k ?_; intro K hK)
   refine AW.region ?_
   (refine awP (op_fa_ptr rfl rfl rfl fl87_6 (by exact sz24) (by decide) rfl) ?_)
   (refine awR (op_load_ptr1 rfl rfl rfl rfl ag24 rfl rfl) ?_)
   refine awP (op_len_ro (n := h.log.length) rfl rfl Try.underlying24 (.inr (.inl ⟨_, rfl, by simp⟩))) ?_
   refine awP (op_move rfl rfl) ?_
   refine AWL.nil ?_
   (refine hK _ ?_; clear hK K; (simp only [nA, Nat.reduceBEq, Nat.reduceEqDiff, ↓reduceIte, Nat.reduceAdd, Nat.reduceSub]))
   refine AW.block ?_
   refine AW.loopI (fun i => [(1, .ptr 0 1 0 0), (10, .ro (h.log.map Op.av)), (11, .v (.int .i64 h.log.length)), (12, .v (.int .i64 (i : Nat)))]) (fun i => ⟨[(1, .own 87 [h.av])], 2 + i⟩) (fun i => i ≤ h.log.length ∧ ∀ k, k < i → lgBad h k = false) (fun i => h.log.length - i) 0 (by simp) ⟨rfl, rfl, rfl, rfl, trivial⟩ rfl ?_; intro i ρ hi; simp only [updL]
   (refine AW.seq_k ?_; intro K hK)
   refine AW.region ?_
   refine awP (op_lss rfl rfl rfl) ?_
   refine AWL.nil ?_
   (refine hK _ ?_; clear hK K; (simp only [nA, Nat.reduceBEq, Nat.reduceEqDiff, ↓reduceIte, Nat.reduceAdd, Nat.reduceSub]))
   (refine AW.seq_k ?_; intro K hK)
   refine AW.cond rfl rfl rfl (fun hc => ?_) (fun hc => ?_)
   ·
    have hc2 := hc; have hlt : i < h.log.length := (by simpa using hc2)
    refine AW.skip ?_
    (refine hK _ ?_; clear hK K; (skip))
    (refine AW.seq_k ?_; intro K hK)
    refine AW.block ?_
    (refine AW.seq_k ?_; intro K hK)
    refine AW.region ?_
    refine awP (op_move rfl rfl) ?_
    refine awP (op_ia_ro i rfl (.inl rfl) rfl Try.underlying24 rfl (get_mapD (by omega)) (by exact sz33) (Nat.le_of_ble_eq_true rfl)) ?_
    (refine awR (op_load_rop rfl rfl ag33 sz33 (Nat.le_of_ble_eq_true rfl) (by decide) rfl) ?_)
    refine awJ (op_alloc rfl ze33 rfl) ?_; (simp only [nA, Nat.reduceBEq, Nat.reduceEqDiff, ↓reduceIte, Nat.reduceAdd, Nat.reduceSub])
    refine awP (op_assign rfl rfl) ?_
    refine awJ (op_store rfl rfl rfl rfl rfl rfl sz33 rfl (Nat.le_of_ble_eq_true rfl) rfl) ?_; (simp only [nA, Nat.reduceBEq, Nat.reduceEqDiff, ↓reduceIte, Nat.reduceAdd, Nat.reduceSub])
    refine AWL.nil ?_
    (refine hK _ ?_; clear hK K; (skip))
    (refine AW.seq_k ?_; intro K hK)
    refine AW.quiet mix (by kernel_rfl) ?_
    (refine aqR (op_load_ptr rfl rfl rfl rfl ag33 sz33 (Nat.le_of_ble_eq_true rfl) rfl) ?_)
    refine aqQ (op_callQ (b := true) rfl en20 (C20 (o := h.log.getD i default)) (RL.cons (by exact View.same rfl) (RL.nil)) rfl) ?_; (simp only [nA, Nat.reduceBEq, Nat.reduceEqDiff, ↓reduceIte, Nat.reduceAdd, Nat.reduceSub])
    refine aqP (op_not rfl rfl rfl) ?_
    refine aqP (op_move rfl rfl) ?_
    refine' aqOr' [_, _, _, _, _] [21,22,23,24,25] rfl rfl rfl rfl rfl rfl rfl rfl rfl rfl rfl rfl (fun hb => ?_) ?_; rotate_left
    ·
     (try simp only [hcS] at hb)
     (refine aqP (op_fa_ptr rfl rfl rfl fl33_1 (by exact sz3) (by decide) rfl) ?_)
     (refine aqR (op_load_ptr1 rfl rfl rfl rfl ag3 rfl rfl) ?_)
     (refine aqP (op_fa_ptr rfl rfl rfl fl87_0 (by exact sz3) (by decide) rfl) ?_)
     (refine aqR (op_load_ptr1 rfl rfl rfl rfl ag3 rfl rfl) ?_)
     (refine aqP (op_neq rfl rfl rfl) ?_)
     (refine aqSeg rfl rfl rfl ?_; repeat (first | exact fun _ _ => rfl | refine upd_out rfl ?_))
    (simp only [nA, Nat.reduceBEq, Nat.reduceEqDiff, ↓reduceIte, Nat.reduceAdd, Nat.reduceSub])
    refine aqP (op_move rfl rfl) ?_
    refine' aqOr' [_, _, _, _, _, _, _, _, _, _, _] [28,29,30,31,32,33,34,35,36,37,38] rfl rfl rfl rfl rfl rfl rfl rfl rfl rfl rfl rfl (fun hb => ?_) ?_; rotate_left
    ·
     (try simp only [hcS] at hb)
     (refine aqP (op_fa_ptr rfl rfl rfl fl33_2 (by exact sz3) (by decide) rfl) ?_)
     (refine aqR (op_load_ptr1 rfl rfl rfl rfl ag3 rfl rfl) ?_)
     (refine aqP (op_fa_ptr rfl rfl rfl fl87_1 (by exact sz3) (by decide) rfl) ?_)
     (refine aqR (op_load_ptr1 rfl rfl rfl rfl ag3 rfl rfl) ?_)
     (refine aqP (op_fa_ptr rfl rfl rfl fl87_6 (by exact sz24) (by decide) rfl) ?_)
     (refine aqR (op_load_ptr1 rfl rfl rfl rfl ag24 rfl rfl) ?_)
     refine aqP (op_len_ro (n := h.log.length) rfl rfl Try.underlying24 (.inr (.inl ⟨_, rfl, by simp⟩))) ?_
     (refine aqP (op_subi rfl rfl rfl (by omega)) ?_)
     refine aqP (op_move rfl rfl) ?_
     (refine aqP (op_addi rfl rfl rfl (by omega)) ?_)
     (refine aqP (op_neq rfl rfl rfl) ?_)
     (refine aqSeg rfl rfl rfl ?_; repeat (first | exact fun _ _ => rfl | refine upd_out rfl ?_))
    (simp only [nA, Nat.reduceBEq, Nat.reduceEqDiff, ↓reduceIte, Nat.reduceAdd, Nat.reduceSub])
    refine aqP (op_move rfl rfl) ?_
    refine' aqOrN' [_, _, _, _, _, _, _, _, _, _, _, _, _, _] [41,42,43,44,45,46,47,48,49,50,51,52,53,54] rfl rfl rfl rfl rfl rfl rfl rfl rfl rfl rfl rfl (fun hb => ?_) ?_; rotate_left
    ·
     (try simp only [hcS] at hb)
     refine aqP (op_move rfl rfl) ?_
     refine aqP (op_gtr rfl rfl rfl) ?_
     refine aqP (op_move rfl rfl) ?_
     refine' aqAnd' [_, _, _, _, _, _, _, _, _, _] [44,45,46,47,48,49,50,51,52,53] rfl rfl rfl rfl rfl rfl rfl rfl rfl rfl rfl rfl (fun hb => ?_) ?_; rotate_left
     ·
      (try simp only [hcS] at hb)
      (refine aqP (op_fa_ptr rfl rfl rfl fl33_0 (by exact sz3) (by decide) rfl) ?_)
      (refine aqR (op_load_ptr1 rfl rfl rfl rfl ag3 rfl rfl) ?_)
      (refine aqP (op_fa_ptr rfl rfl rfl fl87_6 (by exact sz24) (by decide) rfl) ?_)
      (refine aqR (op_load_ptr1 rfl rfl rfl rfl ag24 rfl rfl) ?_)
      refine aqP (op_move rfl rfl) ?_
      (refine aqP (op_subi rfl rfl rfl (by omega)) ?_)
      refine aqP (op_ia_ro (i - 1) rfl (.inl rfl) rfl Try.underlying24 (by simp at hb; omega) (get_mapD (by omega)) (by exact sz33) (Nat.le_of_ble_eq_true rfl)) ?_
      (refine aqP (op_fa_rop rfl rfl fl33_0 (by exact sz3) (by decide) (Nat.le_of_ble_eq_true rfl) rfl) ?_)
      (refine aqR (op_load_rop1 rfl rfl ag3) ?_)
      refine aqP (op_lss rfl rfl rfl) ?_
      (refine aqSeg rfl rfl rfl ?_; repeat (first | exact fun _ _ => rfl | refine upd_out rfl ?_))
     (simp only [nA, Nat.reduceBEq, Nat.reduceEqDiff, ↓reduceIte, Nat.reduceAdd, Nat.reduceSub])
     (refine aqSeg rfl rfl rfl ?_; repeat (first | exact fun _ _ => rfl | refine upd_out rfl ?_ | refine era_out rfl ?_))
    (simp only [nA, Nat.reduceBEq, Nat.reduceEqDiff, ↓reduceIte, Nat.reduceAdd, Nat.reduceSub])
    refine AQ.nil ?_
    (refine hK _ ?_; clear hK K; (skip))
    refine AW.cond rfl rfl rfl (fun hc => ?_) (fun hc => ?_)
    ·
     have hc3 := hc; skip
     (refine AW.seq_k ?_; intro K hK)
     refine AW.region ?_
     refine awP (op_assign rfl rfl) ?_
     refine AWL.nil ?_
     (refine hK _ ?_; clear hK K; (simp only [nA, Nat.reduceBEq, Nat.reduceEqDiff, ↓reduceIte, Nat.reduceAdd, Nat.reduceSub]))
     skip
     refine AW.ret ?_; (simp only [thenE, inBlk, Nat.reduceEqDiff, ↓reduceIte]); rw [log_no hlt hc3]; exact RQ.of0 rfl (.tmp (Nat.le_of_ble_eq_true rfl) rfl rfl .nil)
    ·
     have hc3 := hc; skip
     refine AW.skip ?_
     (simp only [thenE, inBlk, Nat.reduceEqDiff, ↓reduceIte])
     (refine hK _ ?_; clear hK K; (skip))
     refine AW.region ?_
     (refine awP (op_addi rfl rfl rfl (by omega)) ?_)
     refine awP (op_move rfl rfl) ?_
     refine AWL.gh (Gh.drop 1) ?_; (simp only [nA, Nat.reduceBEq, Nat.reduceEqDiff, ↓reduceIte, Nat.reduceAdd, Nat.reduceSub])
     refine AWL.nil ?_
     refine ⟨i + 1, ⟨by omega, all_f_step hi.2 hc3⟩, by omega, ⟨rfl, rfl, rfl, rfl, trivial⟩, (by rfl), (by rfl)⟩
   ·
    have hc2 := hc; have hnl : ¬ i < h.log.length := (by simpa using hc2)
    refine AW.exit ?_; (simp only [thenE, inBlk, Nat.reduceEqDiff, ↓reduceIte])
    clear hK K
    (refine hK _ ?_; clear hK K; (skip))
    (refine AW.seq_k ?_; intro K hK)
    refine AW.quiet mix (by kernel_rfl) ?_
    (refine aqP (op_fa_ptr rfl rfl rfl fl87_6 (by exact sz24) (by decide) rfl) ?_)
    (refine aqR (op_load_ptr1 rfl rfl rfl rfl ag24 rfl rfl) ?_)
    refine aqP (op_len_ro (n := h.log.length) rfl rfl Try.underlying24 (.inr (.inl ⟨_, rfl, by simp⟩))) ?_
    (refine aqP (op_eql rfl rfl rfl) ?_)
    refine aqP (op_move rfl rfl) ?_
    refine' aqOr' [_, _, _, _, _, _, _, _, _, _, _, _] [62,63,64,65,66,67,68,69,70,71,72,73] rfl rfl rfl rfl rfl rfl rfl rfl rfl rfl rfl rfl (fun hb => ?_) ?_; rotate_left
    ·
     (try simp only [hcS] at hb)
     (refine aqP (op_fa_ptr rfl rfl rfl fl87_6 (by exact sz24) (by decide) rfl) ?_)
     (refine aqR (op_load_ptr1 rfl rfl rfl rfl ag24 rfl rfl) ?_)
     (refine aqP (op_fa_ptr rfl rfl rfl fl87_6 (by exact sz24) (by decide) rfl) ?_)
     (refine aqR (op_load_ptr1 rfl rfl rfl rfl ag24 rfl rfl) ?_)
     refine aqP (op_len_ro (n := h.log.length) rfl rfl Try.underlying24 (.inr (.inl ⟨_, rfl, by simp⟩))) ?_
     (refine aqP (op_subi rfl rfl rfl (by omega)) ?_)
     refine aqP (op_ia_ro (h.log.length - 1) rfl (.inl rfl) rfl Try.underlying24 (by omega) (get_mapD (by omega)) (by exact sz33) (Nat.le_of_ble_eq_true rfl)) ?_
     (refine aqP (op_fa_rop rfl rfl fl33_0 (by exact sz3) (by decide) (Nat.le_of_ble_eq_true rfl) rfl) ?_)
     (refine aqR (op_load_rop1 rfl rfl ag3) ?_)
     (refine aqP (op_fa_ptr rfl rfl rfl fl87_2 (by exact sz3) (by decide) rfl) ?_)
     (refine aqR (op_load_ptr1 rfl rfl rfl rfl ag3 rfl rfl) ?_)
     refine aqP (op_leq rfl rfl rfl) ?_
     (refine aqSeg rfl rfl rfl ?_; repeat (first | exact fun _ _ => rfl | refine upd_out rfl ?_))
    (simp only [nA, Nat.reduceBEq, Nat.reduceEqDiff, ↓reduceIte, Nat.reduceAdd, Nat.reduceSub])
    refine aqP (op_assign rfl rfl) ?_
    refine AQ.nil ?_
    (refine hK _ ?_; clear hK K; (simp only [nA, Nat.reduceBEq, Nat.reduceEqDiff, ↓reduceIte, Nat.reduceAdd, Nat.reduceSub]))
    skip
    refine AW.ret ?_; rw [show logB h = lgLast h by rw [log_yes hnl hi.2, decide_eq_true (by have := of_decide_eq_false hc1; omega), Bool.true_and]]; exact RQ.of0 rfl (.tmp (Nat.le_of_ble_eq_true rfl) rfl rfl .nil)
end Go.Proofs.Ytdnofpggdddimaa
namespace Go.Proofs.Ytdnofpggdddimaa
open Go.RowKit
set_option linter.unusedSimpArgs false
set_option linter.unusedVariables false
set_option maxRecDepth 100000
def lgBadR (h : Hand) (i : Nat) : Bool := lgBad h i || decide ((h.log.getD i default).time > h.last)
def logR (h : Hand) : Bool := ((List.range h.log.length).all fun i => !lgBadR h i) && decide ((h.log.length : Int) ≤ 60)
theorem asc_time {h : Hand} (hb : ∀ k, k < h.log.length → lgBad h k = false) : ∀ (d i : Nat), i + d < h.log.length → (h.log.getD i default).time ≤ (h.log.getD (i + d) default).time
  | 0, i, _ => Int.le_refl _
  | d + 1, i, hl => by
    have h1 := asc_time hb d i (by omega)
    have h2 := (or_false_of (hb (i + d + 1) hl)).2
    rw [show i + d + 1 - 1 = i + d by omega, decide_eq_true (by omega), Bool.true_and, decide_eq_false_iff_not] at h2
    rw [show i + (d + 1) = i + d + 1 by omega]
    omega
theorem logR_eq (h : Hand) : logR h = logB h := by
  by_cases hb : ∀ k, k < h.log.length → lgBad h k = false
  · rw [log_yes (i := h.log.length) (by omega) hb]
    unfold logR
    rw [Bool.and_comm]
    congr 1
    by_cases h0 : h.log.length = 0
    · rw [show lgLast h = true by unfold lgLast; rw [decide_eq_true (by omega), Bool.true_or], h0]; rfl
    · have e : lgLast h = decide ((h.log.getD (h.log.length - 1) default).time ≤ h.last) := by unfold lgLast; rw [decide_eq_false (by omega), Bool.false_or]
      rw [e]
      by_cases hl : (h.log.getD (h.log.length - 1) default).time ≤ h.last
      · rw [decide_eq_true hl]
        refine all_range_yes (i := h.log.length) (by omega) fun k hk => ?_
        have := asc_time hb (h.log.length - 1 - k) k (by omega)
        rw [show k + (h.log.length - 1 - k) = h.log.length - 1 by omega] at this
        unfold lgBadR
        rw [hb k hk, decide_eq_false (by omega)]; rfl
      · rw [decide_eq_false hl]
        exact all_range_no (i := h.log.length - 1) (by omega) (by unfold lgBadR; rw [decide_eq_true (by omega)]; simp)
  · have : ∃ k, k < h.log.length ∧ lgBad h k = true := by
      refine Classical.byContradiction fun hc => hb fun k hk => ?_
      cases e : lgBad h k with
      | false => rfl
      | true => exact absurd ⟨k, hk, e⟩ hc
    obtain ⟨k, hk, e⟩ := this
    rw [log_no hk e]
    unfold logR
    rw [all_range_no hk (by unfold lgBadR; rw [e]; rfl), Bool.false_and]
theorem C53r {h : Hand} (hs : h.Sm) (hn : 0 ≤ h.next ∧ h.next ≤ 1048576) : Fn Try.prog 53 [] [.agg h.av] [.v (.bool (logR h))] [] := by
  have h1 := hs.l
  refine Spec.body Try.func53 rfl Try.ntmps53 (by simp) rfl ?_; intro S0 own0 v0 w0
  (refine AW.seq_k ?_; intro K hK)
  refine AW.region ?_
  refine awJ (op_box rfl rfl rfl sz26 rfl) ?_; (simp only [nA, Nat.reduceBEq, Nat.reduceEqDiff, ↓reduceIte, Nat.reduceAdd, Nat.reduceSub])
  refine awP (op_assign rfl rfl) ?_
  refine AWL.nil ?_
  (refine hK _ ?_; clear hK K; (simp only [nA, Nat.reduceBEq, Nat.reduceEqDiff, ↓reduceIte, Nat.reduceAdd, Nat.reduceSub]))
  (refine AW.seq_k ?_; intro K hK)
  (refine AW.seq_k ?_; intro K hK)
  refine AW.region ?_
  refine awP (op_assign rfl rfl) ?_
  refine AWL.nil ?_
  (refine hK _ ?_; clear hK K; (simp only [nA, Nat.reduceBEq, Nat.reduceEqDiff, ↓reduceIte, Nat.reduceAdd, Nat.reduceSub]))
  refine AW.block ?_
  refine AW.loopI (fun i => [(1, .ptr 0 1 0 0), (3, .v (.int .i64 (i : Nat)))]) (fun i => ⟨[(1, .own 26 [h.av])], 2 + i⟩) (fun i => i ≤ h.log.length ∧ ∀ k, k < i → lgBadR h k = false) (fun i => h.log.length - i) 0 (by simp) ⟨rfl, rfl, trivial⟩ rfl ?_; intro i ρ hi; simp only [updL]
  (refine AW.seq_k ?_; intro K hK)
  (refine AW.seq_k ?_; intro K hK)
  refine AW.region ?_
  refine awP (op_move rfl rfl) ?_
  (refine awP (op_fa_ptr rfl rfl rfl fl26_6 (by exact sz24) (by decide) rfl) ?_)
  (refine awR (op_load_ptr1 rfl rfl rfl rfl ag24 rfl rfl) ?_)
  refine awP (op_len_ro (n := h.log.length) rfl rfl Try.underlying24 (.inr (.inl ⟨_, rfl, by simp⟩))) ?_
  refine awP (op_lss rfl rfl rfl) ?_
  refine AWL.nil ?_
  (refine hK _ ?_; clear hK K; (simp only [nA, Nat.reduceBEq, Nat.reduceEqDiff, ↓reduceIte, Nat.reduceAdd, Nat.reduceSub]))
  refine AW.cond rfl rfl rfl (fun hc => ?_) (fun hc => ?_)
  ·
   have hc1 := hc; have hlt : i < h.log.length := (by simpa using hc1)
   refine AW.skip ?_
   (refine hK _ ?_; clear hK K; (skip))
   (refine AW.seq_k ?_; intro K hK)
   refine AW.block ?_
   (refine AW.seq_k ?_; intro K hK)
   refine AW.region ?_
   (refine awP (op_fa_ptr rfl rfl rfl fl26_6 (by exact sz24) (by decide) rfl) ?_)
   (refine awR (op_load_ptr1 rfl rfl rfl rfl ag24 rfl rfl) ?_)
   refine awP (op_move rfl rfl) ?_
   refine awP (op_ia_ro i rfl (.inl rfl) rfl Try.underlying24 rfl (get_mapD (by omega)) (by exact sz33) (Nat.le_of_ble_eq_true rfl)) ?_
   (refine awR (op_load_rop rfl rfl ag33 sz33 (Nat.le_of_ble_eq_true rfl) (by decide) rfl) ?_)
   refine awJ (op_alloc rfl ze33 rfl) ?_; (simp only [nA, Nat.reduceBEq, Nat.reduceEqDiff, ↓reduceIte, Nat.reduceAdd, Nat.reduceSub])
   refine awJ (op_store rfl rfl rfl rfl rfl rfl sz33 rfl (Nat.le_of_ble_eq_true rfl) rfl) ?_; (simp only [nA, Nat.reduceBEq, Nat.reduceEqDiff, ↓reduceIte, Nat.reduceAdd, Nat.reduceSub])
   refine AWL.nil ?_
   (refine hK _ ?_; clear hK K; (skip))
   (refine AW.seq_k ?_; intro K hK)
   refine AW.quiet mix (by kernel_rfl) ?_
   (refine aqR (op_load_ptr rfl rfl rfl rfl ag33 sz33 (Nat.le_of_ble_eq_true rfl) rfl) ?_)
   refine aqQ (op_callQ (b := true) rfl en21 (C21 (o := h.log.getD i default)) (RL.cons (by exact View.same rfl) (RL.nil)) rfl) ?_; (simp only [nA, Nat.reduceBEq, Nat.reduceEqDiff, ↓reduceIte, Nat.reduceAdd, Nat.reduceSub])
   refine aqP (op_not rfl rfl rfl) ?_
   refine aqP (op_move rfl rfl) ?_
   refine' aqOr' [_, _, _, _, _] [21,22,23,24,25] rfl rfl rfl rfl rfl rfl rfl rfl rfl rfl rfl rfl (fun hb => ?_) ?_; rotate_left
   ·
    (try simp only [hcS] at hb)
    (refine aqP (op_fa_ptr rfl rfl rfl fl33_1 (by exact sz3) (by decide) rfl) ?_)
    (refine aqR (op_load_ptr1 rfl rfl rfl rfl ag3 rfl rfl) ?_)
    (refine aqP (op_fa_ptr rfl rfl rfl fl26_0 (by exact sz3) (by decide) rfl) ?_)
    (refine aqR (op_load_ptr1 rfl rfl rfl rfl ag3 rfl rfl) ?_)
    (refine aqP (op_neq rfl rfl rfl) ?_)
    (refine aqSeg rfl rfl rfl ?_; repeat (first | exact fun _ _ => rfl | refine upd_out rfl ?_))
   (simp only [nA, Nat.reduceBEq, Nat.reduceEqDiff, ↓reduceIte, Nat.reduceAdd, Nat.reduceSub])
   refine aqP (op_move rfl rfl) ?_
   refine' aqOr' [_, _, _, _, _, _, _, _, _, _, _] [28,29,30,31,32,33,34,35,36,37,38] rfl rfl rfl rfl rfl rfl rfl rfl rfl rfl rfl rfl (fun hb => ?_) ?_; rotate_left
   ·
    (try simp only [hcS] at hb)
    (refine aqP (op_fa_ptr rfl rfl rfl fl33_2 (by exact sz3) (by decide) rfl) ?_)
    (refine aqR (op_load_ptr1 rfl rfl rfl rfl ag3 rfl rfl) ?_)
    (refine aqP (op_fa_ptr rfl rfl rfl fl26_1 (by exact sz3) (by decide) rfl) ?_)
    (refine aqR (op_load_ptr1 rfl rfl rfl rfl ag3 rfl rfl) ?_)
    (refine aqP (op_fa_ptr rfl rfl rfl fl26_6 (by exact sz24) (by decide) rfl) ?_)
    (refine aqR (op_load_ptr1 rfl rfl rfl rfl ag24 rfl rfl) ?_)
    refine aqP (op_len_ro (n := h.log.length) rfl rfl Try.underlying24 (.inr (.inl ⟨_, rfl, by simp⟩))) ?_
    (refine aqP (op_subi rfl rfl rfl (by omega)) ?_)
    refine aqP (op_move rfl rfl) ?_
    (refine aqP (op_addi rfl rfl rfl (by omega)) ?_)
    (refine aqP (op_neq rfl rfl rfl) ?_)
    (refine aqSeg rfl rfl rfl ?_; repeat (first | exact fun _ _ => rfl | refine upd_out rfl ?_))
   (simp only [nA, Nat.reduceBEq, Nat.reduceEqDiff, ↓reduceIte, Nat.reduceAdd, Nat.reduceSub])
   refine aqP (op_move rfl rfl) ?_
   refine' aqOrN' [_, _, _, _, _, _, _, _, _, _, _, _, _, _] [41,42,43,44,45,46,47,48,49,50,51,52,53,54] rfl rfl rfl rfl rfl rfl rfl rfl rfl rfl rfl rfl (fun hb => ?_) ?_; rotate_left
   ·
    (try simp only [hcS] at hb)
    refine aqP (op_move rfl rfl) ?_
    refine aqP (op_gtr rfl rfl rfl) ?_
    refine aqP (op_move rfl rfl) ?_
    refine' aqAnd' [_, _, _, _, _, _, _, _, _, _] [44,45,46,47,48,49,50,51,52,53] rfl rfl rfl rfl rfl rfl rfl rfl rfl rfl rfl rfl (fun hb => ?_) ?_; rotate_left
    ·
     (try simp only [hcS] at hb)
     (refine aqP (op_fa_ptr rfl rfl rfl fl33_0 (by exact sz3) (by decide) rfl) ?_)
     (refine aqR (op_load_ptr1 rfl rfl rfl rfl ag3 rfl rfl) ?_)
     (refine aqP (op_fa_ptr rfl rfl rfl fl26_6 (by exact sz24) (by decide) rfl) ?_)
     (refine aqR (op_load_ptr1 rfl rfl rfl rfl ag24 rfl rfl) ?_)
     refine aqP (op_move rfl rfl) ?_
     (refine aqP (op_subi rfl rfl rfl (by omega)) ?_)
     refine aqP (op_ia_ro (i - 1) rfl (.inl rfl) rfl Try.underlying24 (by simp at hb; omega) (get_mapD (by omega)) (by exact sz33) (Nat.le_of_ble_eq_true rfl)) ?_
     (refine aqP (op_fa_rop rfl rfl fl33_0 (by exact sz3) (by decide) (Nat.le_of_ble_eq_true rfl) rfl) ?_)
     (refine aqR (op_load_rop1 rfl rfl ag3) ?_)
     refine aqP (op_lss rfl rfl rfl) ?_
     (refine aqSeg rfl rfl rfl ?_; repeat (first | exact fun _ _ => rfl | refine upd_out rfl ?_))
    (simp only [nA, Nat.reduceBEq, Nat.reduceEqDiff, ↓reduceIte, Nat.reduceAdd, Nat.reduceSub])
    (refine aqSeg rfl rfl rfl ?_; repeat (first | exact fun _ _ => rfl | refine upd_out rfl ?_ | refine era_out rfl ?_))
   (simp only [nA, Nat.reduceBEq, Nat.reduceEqDiff, ↓reduceIte, Nat.reduceAdd, Nat.reduceSub])
   refine aqP (op_move rfl rfl) ?_
   refine' aqOr' [_, _, _, _, _] [57,58,59,60,61] rfl rfl rfl rfl rfl rfl rfl rfl rfl rfl rfl rfl (fun hb => ?_) ?_; rotate_left
   ·
    (try simp only [hcS] at hb)
    (refine aqP (op_fa_ptr rfl rfl rfl fl33_0 (by exact sz3) (by decide) rfl) ?_)
    (refine aqR (op_load_ptr1 rfl rfl rfl rfl ag3 rfl rfl) ?_)
    (refine aqP (op_fa_ptr rfl rfl rfl fl26_2 (by exact sz3) (by decide) rfl) ?_)
    (refine aqR (op_load_ptr1 rfl rfl rfl rfl ag3 rfl rfl) ?_)
    refine aqP (op_gtr rfl rfl rfl) ?_
    (refine aqSeg rfl rfl rfl ?_; repeat (first | exact fun _ _ => rfl | refine upd_out rfl ?_))
   (simp only [nA, Nat.reduceBEq, Nat.reduceEqDiff, ↓reduceIte, Nat.reduceAdd, Nat.reduceSub])
   refine AQ.nil ?_
   (refine hK _ ?_; clear hK K; (skip))
   refine AW.cond rfl rfl rfl (fun hc => ?_) (fun hc => ?_)
   ·
    have hc2 := hc; skip
    (refine AW.seq_k ?_; intro K hK)
    refine AW.region ?_
    refine awP (op_assign rfl rfl) ?_
    refine AWL.nil ?_
    (refine hK _ ?_; clear hK K; (simp only [nA, Nat.reduceBEq, Nat.reduceEqDiff, ↓reduceIte, Nat.reduceAdd, Nat.reduceSub]))
    skip
    refine AW.ret ?_; (simp only [thenE, inBlk, Nat.reduceEqDiff, ↓reduceIte]); rw [show logR h = false by unfold logR; rw [all_range_no hlt (by rw [show lgBadR h i = true from hc2]; rfl), Bool.false_and]]; exact RQ.of0 rfl (.tmp (Nat.le_of_ble_eq_true rfl) rfl rfl .nil)
   ·
    have hc2 := hc; skip
    refine AW.skip ?_
    (simp only [thenE, inBlk, Nat.reduceEqDiff, ↓reduceIte])
    (refine hK _ ?_; clear hK K; (skip))
    refine AW.region ?_
    refine awP (op_move rfl rfl) ?_
    (refine awP (op_addi rfl rfl rfl (by omega)) ?_)
    refine awP (op_assign rfl rfl) ?_
    refine AWL.gh (Gh.drop 1) ?_; (simp only [nA, Nat.reduceBEq, Nat.reduceEqDiff, ↓reduceIte, Nat.reduceAdd, Nat.reduceSub])
    refine AWL.nil ?_
    refine ⟨i + 1, ⟨by omega, all_f_step hi.2 hc2⟩, by omega, ⟨rfl, rfl, trivial⟩, (by rfl), (by rfl)⟩
  ·
   have hc1 := hc; have hnl : ¬ i < h.log.length := (by simpa using hc1)
   refine AW.exit ?_; (simp only [thenE, inBlk, Nat.reduceEqDiff, ↓reduceIte])
   clear hK K
   (refine hK _ ?_; clear hK K; (skip))
   (refine AW.seq_k ?_; intro K hK)
   refine AW.region ?_
   (refine awP (op_fa_ptr rfl rfl rfl fl26_6 (by exact sz24) (by decide) rfl) ?_)
   (refine awR (op_load_ptr1 rfl rfl rfl rfl ag24 rfl rfl) ?_)
   refine awP (op_len_ro (n := h.log.length) rfl rfl Try.underlying24 (.inr (.inl ⟨_, rfl, by simp⟩))) ?_
   refine awP (op_leq rfl rfl rfl) ?_
   refine awP (op_assign rfl rfl) ?_
   refine AWL.nil ?_
   (refine hK _ ?_; clear hK K; (simp only [nA, Nat.reduceBEq, Nat.reduceEqDiff, ↓reduceIte, Nat.reduceAdd, Nat.reduceSub]))
   skip
   refine AW.ret ?_; rw [show logR h = decide ((h.log.length : Int) ≤ 60) by unfold logR; rw [all_range_yes hnl (fun k hk => by rw [hi.2 k hk]; rfl), Bool.true_and]]; exact RQ.of0 rfl (.tmp (Nat.le_of_ble_eq_true rfl) rfl rfl .nil)
theorem C53 {h : Hand} (hs : h.Sm) (hn : 0 ≤ h.next ∧ h.next ≤ 1048576) : Fn Try.prog 53 [] [.agg h.av] [.v (.bool (logB h))] [] := by
  rw [← logR_eq]; exact C53r hs hn
end Go.Proofs.Ytdnofpggdddimaa
namespace Go.Proofs.Ytdnofpggdddimaa
open Go.RowKit
set_option linter.unusedSimpArgs false
set_option linter.unusedVariables false
set_option maxRecDepth 100000
def valH (h : Hand) : Int := if (((numB h && barB h) && grsB h.grants) && empB h.conts) && logB h then 0 else 1
def numR (h : Hand) : Bool := ((((decide (h.number < 1) || decide (h.number > 6)) || decide (h.next < 1)) || decide (h.next > 1048576)) || decide (h.last < 0)) || decide (h.last > 1048576)
theorem numR_eq (h : Hand) : numR h = !numB h := by
  unfold numR numB inB
  rw [show decide (h.number < 1) = !decide (h.number ≥ 1) from by rw [← decide_not]; exact decide_eq_decide.2 (by omega), show decide (h.number > 6) = !decide (h.number ≤ 6) from by rw [← decide_not]; exact decide_eq_decide.2 (by omega),
    show decide (h.next < 1) = !decide (h.next ≥ 1) from by rw [← decide_not]; exact decide_eq_decide.2 (by omega), show decide (h.next > 1048576) = !decide (h.next ≤ 1048576) from by rw [← decide_not]; exact decide_eq_decide.2 (by omega),
    show decide (h.last < 0) = !decide (h.last ≥ 0) from by rw [← decide_not]; exact decide_eq_decide.2 (by omega), show decide (h.last > 1048576) = !decide (h.last ≤ 1048576) from by rw [← decide_not]; exact decide_eq_decide.2 (by omega)]
  simp [Bool.or_assoc]
theorem num_next {h : Hand} (hn : numB h = true) : 1 ≤ h.next ∧ h.next ≤ 1048576 := by
  unfold numB inB at hn
  simp at hn
  omega
theorem val_1 {h : Hand} (hn : numB h = false) : valH h = 1 := by unfold valH; rw [hn]; rfl
theorem val_2 {h : Hand} (hn : barB h = false) : valH h = 1 := by unfold valH; rw [hn]; simp
theorem val_3 {h : Hand} (hn : grsB h.grants = false) : valH h = 1 := by unfold valH; rw [hn]; simp
theorem val_4 {h : Hand} (hn : empB h.conts = false) : valH h = 1 := by unfold valH; rw [hn]; simp
theorem val_5 {h : Hand} (hn : logB h = false) : valH h = 1 := by unfold valH; rw [hn]; simp
theorem val_0 {h : Hand} (h1 : numB h = true) (h2 : barB h = true) (h3 : grsB h.grants = true) (h4 : empB h.conts = true) (h5 : logB h = true) : valH h = 0 := by unfold valH; rw [h1, h2, h3, h4, h5]; rfl
def lensR (h : Hand) : Bool := (decide ((h.grants.length : Int) > 0) || decide ((h.conts.length : Int) > 0)) || decide ((h.log.length : Int) > 0)
theorem val_on {h : Hand} (hn : numB h = true) (ho : h.offline = false) : valH h = if lensR h then 1 else 0 := by
  by_cases hl : lensR h = true
  · rw [if_pos hl]
    refine val_2 ?_
    unfold barB
    rw [ho, Bool.false_or, decide_eq_false]
    unfold lensR at hl
    simp at hl
    rcases hl with (hl | hl) | hl <;> omega
  · rw [if_neg hl]
    unfold lensR at hl
    simp at hl
    obtain ⟨⟨h1, h2⟩, h3⟩ := hl
    refine val_0 hn ?_ ?_ ?_ ?_
    · unfold barB; rw [h1, h2, h3]; simp
    · rw [h1]; rfl
    · rw [h2]; rfl
    · unfold logB lgLast; rw [h3]; rfl
def badR (h : Hand) : Bool := (((decide ((h.grants.length : Int) > 60) || decide ((h.log.length : Int) > 60)) || !grsB h.grants) || !decide (chkL h.conts = 0)) || !logB h
theorem val_bad {h : Hand} (hb : badR h = true) : valH h = 1 := by
  unfold badR at hb
  simp only [Bool.or_eq_true, Bool.not_eq_true', decide_eq_true_eq] at hb
  rcases hb with (((hb | hb) | hb) | hb) | hb
  · exact val_3 (by unfold grsB; rw [decide_eq_false (by omega)]; rfl)
  · exact val_5 (by unfold logB; rw [decide_eq_false (by omega)]; rfl)
  · exact val_3 hb
  · exact val_4 (by unfold empB; rw [hb, Bool.and_false])
  · exact val_5 hb
theorem val_good {h : Hand} (hn : numB h = true) (ho : h.offline = true) (hb : badR h = false) : valH h = if h.conts.all (fun c => decide (c.pieces.length = 0)) then 0 else 1 := by
  unfold badR at hb
  simp only [Bool.or_eq_false_iff, Bool.not_eq_false'] at hb
  obtain ⟨⟨⟨⟨b1, b2⟩, b3⟩, b4⟩, b5⟩ := hb
  have e : empB h.conts = h.conts.all (fun c => decide (c.pieces.length = 0)) := by unfold empB; rw [b4, Bool.and_true]
  rw [← e]
  unfold valH barB
  rw [hn, ho, b3, b5]
  simp
theorem all0_no {l : List Container} {i : Nat} (h : i < l.length) (hb : ((l.getD i default).pieces.length : Int) > 0) : l.all (fun c => decide (c.pieces.length = 0)) = false := by
  refine List.all_eq_false.2 ⟨l[i], List.getElem_mem h, ?_⟩
  rw [List.getD_eq_getElem?_getD, List.getElem?_eq_getElem h] at hb
  simp only [Option.getD_some] at hb
  simp only [decide_eq_true_eq]; omega
theorem all0_yes {l : List Container} {i : Nat} (h : ¬ i < l.length) (hb : ∀ k, k < i → (l.getD k default).pieces.length = 0) : l.all (fun c => decide (c.pieces.length = 0)) = true := by
  refine List.all_eq_true.2 fun c hc => ?_
  obtain ⟨k, hk, rfl⟩ := List.getElem_of_mem hc
  have := hb k (by omega)
  rw [List.getD_eq_getElem?_getD, List.getElem?_eq_getElem hk] at this
  simpa using this
theorem C19 {h : Hand} (hs : h.Sm) : Fn Try.prog 19 [] [.agg h.av] [.v (.int .i64 (valH h))] [] := by
  have h1 := hs.g; have h2 := hs.c; have h3 := hs.l; have hp : ∀ c ∈ h.conts, c.pieces.length ≤ 1000000000 := fun c hc => Nat.le_trans (hs.p c hc) (by omega)
  refine Spec.body Try.func19 rfl Try.ntmps19 (by simp) rfl ?_; intro S0 own0 v0 w0
  (refine AW.seq_k ?_; intro K hK)
  refine AW.region ?_
  refine awJ (op_box rfl rfl rfl sz26 rfl) ?_; (simp only [nA, Nat.reduceBEq, Nat.reduceEqDiff, ↓reduceIte, Nat.reduceAdd, Nat.reduceSub])
  refine awP (op_assign rfl rfl) ?_
  refine AWL.nil ?_
  (refine hK _ ?_; clear hK K; (simp only [nA, Nat.reduceBEq, Nat.reduceEqDiff, ↓reduceIte, Nat.reduceAdd, Nat.reduceSub]))
  (refine AW.seq_k ?_; intro K hK)
  (refine AW.seq_k ?_; intro K hK)
  refine AW.region (AWL.quiet ?_)
  (refine aqP (op_fa_ptr rfl rfl rfl fl26_0 (by exact sz3) (by decide) rfl) ?_)
  (refine aqR (op_load_ptr1 rfl rfl rfl rfl ag3 rfl rfl) ?_)
  refine aqP (op_lss rfl rfl rfl) ?_
  refine aqP (op_move rfl rfl) ?_
  refine' aqOr' [_, _, _] [8,9,10] rfl rfl rfl rfl rfl rfl rfl rfl rfl rfl rfl rfl (fun hb => ?_) ?_; rotate_left
  ·
   (try simp only [hcS] at hb)
   (refine aqP (op_fa_ptr rfl rfl rfl fl26_0 (by exact sz3) (by decide) rfl) ?_)
   (refine aqR (op_load_ptr1 rfl rfl rfl rfl ag3 rfl rfl) ?_)
   refine aqP (op_gtr rfl rfl rfl) ?_
   (refine aqSeg rfl rfl rfl ?_; repeat (first | exact fun _ _ => rfl | refine upd_out rfl ?_))
  (simp only [nA, Nat.reduceBEq, Nat.reduceEqDiff, ↓reduceIte, Nat.reduceAdd, Nat.reduceSub])
  refine aqP (op_move rfl rfl) ?_
  refine' aqOr' [_, _, _] [13,14,15] rfl rfl rfl rfl rfl rfl rfl rfl rfl rfl rfl rfl (fun hb => ?_) ?_; rotate_left
  ·
   (try simp only [hcS] at hb)
   (refine aqP (op_fa_ptr rfl rfl rfl fl26_1 (by exact sz3) (by decide) rfl) ?_)
   (refine aqR (op_load_ptr1 rfl rfl rfl rfl ag3 rfl rfl) ?_)
   refine aqP (op_lss rfl rfl rfl) ?_
   (refine aqSeg rfl rfl rfl ?_; repeat (first | exact fun _ _ => rfl | refine upd_out rfl ?_))
  (simp only [nA, Nat.reduceBEq, Nat.reduceEqDiff, ↓reduceIte, Nat.reduceAdd, Nat.reduceSub])
  refine aqP (op_move rfl rfl) ?_
  refine' aqOr' [_, _, _] [18,19,20] rfl rfl rfl rfl rfl rfl rfl rfl rfl rfl rfl rfl (fun hb => ?_) ?_; rotate_left
  ·
   (try simp only [hcS] at hb)
   (refine aqP (op_fa_ptr rfl rfl rfl fl26_1 (by exact sz3) (by decide) rfl) ?_)
   (refine aqR (op_load_ptr1 rfl rfl rfl rfl ag3 rfl rfl) ?_)
   refine aqP (op_gtr rfl rfl rfl) ?_
   (refine aqSeg rfl rfl rfl ?_; repeat (first | exact fun _ _ => rfl | refine upd_out rfl ?_))
  (simp only [nA, Nat.reduceBEq, Nat.reduceEqDiff, ↓reduceIte, Nat.reduceAdd, Nat.reduceSub])
  refine aqP (op_move rfl rfl) ?_
  refine' aqOr' [_, _, _] [23,24,25] rfl rfl rfl rfl rfl rfl rfl rfl rfl rfl rfl rfl (fun hb => ?_) ?_; rotate_left
  ·
   (try simp only [hcS] at hb)
   (refine aqP (op_fa_ptr rfl rfl rfl fl26_2 (by exact sz3) (by decide) rfl) ?_)
   (refine aqR (op_load_ptr1 rfl rfl rfl rfl ag3 rfl rfl) ?_)
   refine aqP (op_lss rfl rfl rfl) ?_
   (refine aqSeg rfl rfl rfl ?_; repeat (first | exact fun _ _ => rfl | refine upd_out rfl ?_))
  (simp only [nA, Nat.reduceBEq, Nat.reduceEqDiff, ↓reduceIte, Nat.reduceAdd, Nat.reduceSub])
  refine aqP (op_move rfl rfl) ?_
  refine' aqOr' [_, _, _] [28,29,30] rfl rfl rfl rfl rfl rfl rfl rfl rfl rfl rfl rfl (fun hb => ?_) ?_; rotate_left
  ·
   (try simp only [hcS] at hb)
   (refine aqP (op_fa_ptr rfl rfl rfl fl26_2 (by exact sz3) (by decide) rfl) ?_)
   (refine aqR (op_load_ptr1 rfl rfl rfl rfl ag3 rfl rfl) ?_)
   refine aqP (op_gtr rfl rfl rfl) ?_
   (refine aqSeg rfl rfl rfl ?_; repeat (first | exact fun _ _ => rfl | refine upd_out rfl ?_))
  (simp only [nA, Nat.reduceBEq, Nat.reduceEqDiff, ↓reduceIte, Nat.reduceAdd, Nat.reduceSub])
  refine AQ.nil ?_
  (refine hK _ ?_; clear hK K; (skip))
  refine AW.cond rfl rfl rfl (fun hc => ?_) (fun hc => ?_)
  ·
   have hc1 := hc; have hn : numB h = false := (by have e := numR_eq h; rw [show numR h = true from hc1] at e; simpa using e)
   (refine AW.seq_k ?_; intro K hK)
   refine AW.region ?_
   refine awP (op_assign rfl rfl) ?_
   refine AWL.nil ?_
   (refine hK _ ?_; clear hK K; (simp only [nA, Nat.reduceBEq, Nat.reduceEqDiff, ↓reduceIte, Nat.reduceAdd, Nat.reduceSub]))
   skip
   refine AW.ret ?_; (simp only [thenE, inBlk, Nat.reduceEqDiff, ↓reduceIte]); rw [val_1 hn]; exact RQ.of0 rfl (.tmp (Nat.le_of_ble_eq_true rfl) rfl rfl .nil)
  ·
   have hc1 := hc; have hn : numB h = true := (by have e := numR_eq h; rw [show numR h = false from hc1] at e; simpa using e); have hnx := num_next hn
   refine AW.skip ?_
   (refine hK _ ?_; clear hK K; (skip))
   (refine AW.seq_k ?_; intro K hK)
   (refine AW.seq_k ?_; intro K hK)
   refine AW.region ?_
   (refine awP (op_fa_ptr rfl rfl rfl fl26_3 (by exact sz4) (by decide) rfl) ?_)
   (refine awR (op_load_ptr1 rfl rfl rfl rfl ag4 rfl rfl) ?_)
   refine awP (op_not rfl rfl rfl) ?_
   refine AWL.nil ?_
   (refine hK _ ?_; clear hK K; (simp only [nA, Nat.reduceBEq, Nat.reduceEqDiff, ↓reduceIte, Nat.reduceAdd, Nat.reduceSub]))
   refine AW.cond rfl rfl rfl (fun hc => ?_) (fun hc => ?_)
   ·
    have hc2 := hc; have ho : h.offline = false := (by simpa using hc2)
    (refine AW.seq_k ?_; intro K hK)
    (refine AW.seq_k ?_; intro K hK)
    refine AW.region (AWL.quiet ?_)
    (refine aqP (op_fa_ptr rfl rfl rfl fl26_4 (by exact sz22) (by decide) rfl) ?_)
    (refine aqR (op_load_ptr1 rfl rfl rfl rfl ag22 rfl rfl) ?_)
    refine aqP (op_len_ro (n := h.grants.length) rfl rfl Try.underlying22 (.inr (.inl ⟨_, rfl, by simp⟩))) ?_
    refine aqP (op_gtr rfl rfl rfl) ?_
    refine aqP (op_move rfl rfl) ?_
    refine' aqOr' [_, _, _, _] [40,41,42,43] rfl rfl rfl rfl rfl rfl rfl rfl rfl rfl rfl rfl (fun hb => ?_) ?_; rotate_left
    ·
     (try simp only [hcS] at hb)
     (refine aqP (op_fa_ptr rfl rfl rfl fl26_5 (by exact sz23) (by decide) rfl) ?_)
     (refine aqR (op_load_ptr1 rfl rfl rfl rfl ag23 rfl rfl) ?_)
     refine aqP (op_len_ro (n := h.conts.length) rfl rfl Try.underlying23 (.inr (.inl ⟨_, rfl, by simp⟩))) ?_
     refine aqP (op_gtr rfl rfl rfl) ?_
     (refine aqSeg rfl rfl rfl ?_; repeat (first | exact fun _ _ => rfl | refine upd_out rfl ?_))
    (simp only [nA, Nat.reduceBEq, Nat.reduceEqDiff, ↓reduceIte, Nat.reduceAdd, Nat.reduceSub])
    refine aqP (op_move rfl rfl) ?_
    refine' aqOr' [_, _, _, _] [46,47,48,49] rfl rfl rfl rfl rfl rfl rfl rfl rfl rfl rfl rfl (fun hb => ?_) ?_; rotate_left
    ·
     (try simp only [hcS] at hb)
     (refine aqP (op_fa_ptr rfl rfl rfl fl26_6 (by exact sz24) (by decide) rfl) ?_)
     (refine aqR (op_load_ptr1 rfl rfl rfl rfl ag24 rfl rfl) ?_)
     refine aqP (op_len_ro (n := h.log.length) rfl rfl Try.underlying24 (.inr (.inl ⟨_, rfl, by simp⟩))) ?_
     refine aqP (op_gtr rfl rfl rfl) ?_
     (refine aqSeg rfl rfl rfl ?_; repeat (first | exact fun _ _ => rfl | refine upd_out rfl ?_))
    (simp only [nA, Nat.reduceBEq, Nat.reduceEqDiff, ↓reduceIte, Nat.reduceAdd, Nat.reduceSub])
    refine AQ.nil ?_
    (refine hK _ ?_; clear hK K; (skip))
    refine AW.cond rfl rfl rfl (fun hc => ?_) (fun hc => ?_)
    ·
     have hc3 := hc; skip
     (refine AW.seq_k ?_; intro K hK)
     refine AW.region ?_
     refine awP (op_assign rfl rfl) ?_
     refine AWL.nil ?_
     (refine hK _ ?_; clear hK K; (simp only [nA, Nat.reduceBEq, Nat.reduceEqDiff, ↓reduceIte, Nat.reduceAdd, Nat.reduceSub]))
     skip
     refine AW.ret ?_; (simp only [thenE, inBlk, Nat.reduceEqDiff, ↓reduceIte]); rw [val_on hn ho, if_pos (show lensR h = true from hc3)]; exact RQ.of0 rfl (.tmp (Nat.le_of_ble_eq_true rfl) rfl rfl .nil)
    ·
     have hc3 := hc; skip
     refine AW.skip ?_
     (refine hK _ ?_; clear hK K; (skip))
     (refine AW.seq_k ?_; intro K hK)
     refine AW.region ?_
     refine awP (op_assign rfl rfl) ?_
     refine AWL.nil ?_
     (refine hK _ ?_; clear hK K; (simp only [nA, Nat.reduceBEq, Nat.reduceEqDiff, ↓reduceIte, Nat.reduceAdd, Nat.reduceSub]))
     skip
     refine AW.ret ?_; (simp only [thenE, inBlk, Nat.reduceEqDiff, ↓reduceIte]); rw [val_on hn ho, if_neg (by rw [show lensR h = false from hc3]; decide)]; exact RQ.of0 rfl (.tmp (Nat.le_of_ble_eq_true rfl) rfl rfl .nil)
   ·
    have hc2 := hc; have ho : h.offline = true := (by simpa using hc2)
    refine AW.skip ?_
    (refine hK _ ?_; clear hK K; (skip))
    (refine AW.seq_k ?_; intro K hK)
    (refine AW.seq_k ?_; intro K hK)
    refine AW.region (AWL.quiet ?_)
    (refine aqP (op_fa_ptr rfl rfl rfl fl26_4 (by exact sz22) (by decide) rfl) ?_)
    (refine aqR (op_load_ptr1 rfl rfl rfl rfl ag22 rfl rfl) ?_)
    refine aqP (op_len_ro (n := h.grants.length) rfl rfl Try.underlying22 (.inr (.inl ⟨_, rfl, by simp⟩))) ?_
    refine aqP (op_gtr rfl rfl rfl) ?_
    refine aqP (op_move rfl rfl) ?_
    refine' aqOr' [_, _, _, _] [56,57,58,59] rfl rfl rfl rfl rfl rfl rfl rfl rfl rfl rfl rfl (fun hb => ?_) ?_; rotate_left
    ·
     (try simp only [hcS] at hb)
     (refine aqP (op_fa_ptr rfl rfl rfl fl26_6 (by exact sz24) (by decide) rfl) ?_)
     (refine aqR (op_load_ptr1 rfl rfl rfl rfl ag24 rfl rfl) ?_)
     refine aqP (op_len_ro (n := h.log.length) rfl rfl Try.underlying24 (.inr (.inl ⟨_, rfl, by simp⟩))) ?_
     refine aqP (op_gtr rfl rfl rfl) ?_
     (refine aqSeg rfl rfl rfl ?_; repeat (first | exact fun _ _ => rfl | refine upd_out rfl ?_))
    (simp only [nA, Nat.reduceBEq, Nat.reduceEqDiff, ↓reduceIte, Nat.reduceAdd, Nat.reduceSub])
    refine aqP (op_move rfl rfl) ?_
    refine' aqOr' [_, _, _, _] [62,63,64,65] rfl rfl rfl rfl rfl rfl rfl rfl rfl rfl rfl rfl (fun hb => ?_) ?_; rotate_left
    ·
     (try simp only [hcS] at hb)
     (refine aqP (op_fa_ptr rfl rfl rfl fl26_4 (by exact sz22) (by decide) rfl) ?_)
     (refine aqR (op_load_ptr1 rfl rfl rfl rfl ag22 rfl rfl) ?_)
     refine aqQ (op_callQ (b := true) rfl en51 (C51 (l := h.grants) hs.g) (RL.cons (by exact View.same rfl) (RL.nil)) rfl) ?_; (simp only [nA, Nat.reduceBEq, Nat.reduceEqDiff, ↓reduceIte, Nat.reduceAdd, Nat.reduceSub])
     refine aqP (op_not rfl rfl rfl) ?_
     (refine aqSeg rfl rfl rfl ?_; repeat (first | exact fun _ _ => rfl | refine upd_out rfl ?_))
    (simp only [nA, Nat.reduceBEq, Nat.reduceEqDiff, ↓reduceIte, Nat.reduceAdd, Nat.reduceSub])
    refine aqP (op_move rfl rfl) ?_
    refine' aqOr' [_, _, _, _] [68,69,70,71] rfl rfl rfl rfl rfl rfl rfl rfl rfl rfl rfl rfl (fun hb => ?_) ?_; rotate_left
    ·
     (try simp only [hcS] at hb)
     (refine aqP (op_fa_ptr rfl rfl rfl fl26_5 (by exact sz23) (by decide) rfl) ?_)
     (refine aqR (op_load_ptr1 rfl rfl rfl rfl ag23 rfl rfl) ?_)
     refine aqQ (op_callQ (b := true) rfl en52 (C52 (xs := h.conts) (by omega) hp) (RL.cons (by exact View.same rfl) (RL.nil)) rfl) ?_; (simp only [nA, Nat.reduceBEq, Nat.reduceEqDiff, ↓reduceIte, Nat.reduceAdd, Nat.reduceSub])
     (refine aqP (op_neq rfl rfl rfl) ?_)
     (refine aqSeg rfl rfl rfl ?_; repeat (first | exact fun _ _ => rfl | refine upd_out rfl ?_))
    (simp only [nA, Nat.reduceBEq, Nat.reduceEqDiff, ↓reduceIte, Nat.reduceAdd, Nat.reduceSub])
    refine aqP (op_move rfl rfl) ?_
    refine' aqOr' [_, _, _] [74,75,76] rfl rfl rfl rfl rfl rfl rfl rfl rfl rfl rfl rfl (fun hb => ?_) ?_; rotate_left
    ·
     (try simp only [hcS] at hb)
     (refine aqR (op_load_ptr rfl rfl rfl rfl ag26 sz26 (Nat.le_of_ble_eq_true rfl) rfl) ?_)
     refine aqQ (op_callQ (b := true) rfl en53 (C53 (h := h) hs (by omega)) (RL.cons (by exact View.same rfl) (RL.nil)) rfl) ?_; (simp only [nA, Nat.reduceBEq, Nat.reduceEqDiff, ↓reduceIte, Nat.reduceAdd, Nat.reduceSub])
     refine aqP (op_not rfl rfl rfl) ?_
     (refine aqSeg rfl rfl rfl ?_; repeat (first | exact fun _ _ => rfl | refine upd_out rfl ?_))
    (simp only [nA, Nat.reduceBEq, Nat.reduceEqDiff, ↓reduceIte, Nat.reduceAdd, Nat.reduceSub])
    refine AQ.nil ?_
    (refine hK _ ?_; clear hK K; (skip))
    refine AW.cond rfl rfl rfl (fun hc => ?_) (fun hc => ?_)
    ·
     have hc4 := hc; skip
     (refine AW.seq_k ?_; intro K hK)
     refine AW.region ?_
     refine awP (op_assign rfl rfl) ?_
     refine AWL.nil ?_
     (refine hK _ ?_; clear hK K; (simp only [nA, Nat.reduceBEq, Nat.reduceEqDiff, ↓reduceIte, Nat.reduceAdd, Nat.reduceSub]))
     skip
     refine AW.ret ?_; (simp only [thenE, inBlk, Nat.reduceEqDiff, ↓reduceIte]); rw [val_bad hc4]; exact RQ.of0 rfl (.tmp (Nat.le_of_ble_eq_true rfl) rfl rfl .nil)
    ·
     have hc4 := hc; skip
     refine AW.skip ?_
     (refine hK _ ?_; clear hK K; (skip))
     (refine AW.seq_k ?_; intro K hK)
     (refine AW.seq_k ?_; intro K hK)
     refine AW.region ?_
     refine awP (op_assign rfl rfl) ?_
     refine AWL.nil ?_
     (refine hK _ ?_; clear hK K; (simp only [nA, Nat.reduceBEq, Nat.reduceEqDiff, ↓reduceIte, Nat.reduceAdd, Nat.reduceSub]))
     refine AW.block ?_
     refine AW.loopI (fun i => [(1, .ptr 0 1 0 0), (3, .v (.int .i64 (i : Nat)))]) (fun i => ⟨[(1, .own 26 [h.av])], 2⟩) (fun i => i ≤ h.conts.length ∧ ∀ k, k < i → (h.conts.getD k default).pieces.length = 0) (fun i => h.conts.length - i) 0 (by simp) ⟨rfl, rfl, trivial⟩ rfl ?_; intro i ρ hi; simp only [updL]
     (refine AW.seq_k ?_; intro K hK)
     (refine AW.seq_k ?_; intro K hK)
     refine AW.region ?_
     refine awP (op_move rfl rfl) ?_
     (refine awP (op_fa_ptr rfl rfl rfl fl26_5 (by exact sz23) (by decide) rfl) ?_)
     (refine awR (op_load_ptr1 rfl rfl rfl rfl ag23 rfl rfl) ?_)
     refine awP (op_len_ro (n := h.conts.length) rfl rfl Try.underlying23 (.inr (.inl ⟨_, rfl, by simp⟩))) ?_
     refine awP (op_lss rfl rfl rfl) ?_
     refine AWL.nil ?_
     (refine hK _ ?_; clear hK K; (simp only [nA, Nat.reduceBEq, Nat.reduceEqDiff, ↓reduceIte, Nat.reduceAdd, Nat.reduceSub]))
     refine AW.cond rfl rfl rfl (fun hc => ?_) (fun hc => ?_)
     ·
      have hc5 := hc; have hlt : i < h.conts.length := (by simpa using hc5)
      refine AW.skip ?_
      (refine hK _ ?_; clear hK K; (skip))
      (refine AW.seq_k ?_; intro K hK)
      refine AW.block ?_
      (refine AW.seq_k ?_; intro K hK)
      refine AW.region ?_
      (refine awP (op_fa_ptr rfl rfl rfl fl26_5 (by exact sz23) (by decide) rfl) ?_)
      (refine awR (op_load_ptr1 rfl rfl rfl rfl ag23 rfl rfl) ?_)
      refine awP (op_move rfl rfl) ?_
      refine awP (op_ia_ro i rfl (.inl rfl) rfl Try.underlying23 rfl (get_mapD (by omega)) (by exact sz77) (Nat.le_of_ble_eq_true rfl)) ?_
      (refine awP (op_fa_rop rfl rfl fl77_7 (by exact sz53) (by decide) (Nat.le_of_ble_eq_true rfl) rfl) ?_)
      (refine awR (op_load_rop1 rfl rfl ag53) ?_)
      refine awP (op_len_ro (n := (h.conts.getD i default).pieces.length) rfl rfl Try.underlying53 (.inr (.inl ⟨_, rfl, by simp⟩))) ?_
      refine awP (op_gtr rfl rfl rfl) ?_
      refine AWL.nil ?_
      (refine hK _ ?_; clear hK K; (simp only [nA, Nat.reduceBEq, Nat.reduceEqDiff, ↓reduceIte, Nat.reduceAdd, Nat.reduceSub]))
      refine AW.cond rfl rfl rfl (fun hc => ?_) (fun hc => ?_)
      ·
       have hc6 := hc; skip
       (refine AW.seq_k ?_; intro K hK)
       refine AW.region ?_
       refine awP (op_assign rfl rfl) ?_
       refine AWL.nil ?_
       (refine hK _ ?_; clear hK K; (simp only [nA, Nat.reduceBEq, Nat.reduceEqDiff, ↓reduceIte, Nat.reduceAdd, Nat.reduceSub]))
       skip
       refine AW.ret ?_; (simp only [thenE, inBlk, Nat.reduceEqDiff, ↓reduceIte]); rw [val_good hn ho hc4, if_neg (by rw [all0_no hlt (by simpa using hc6)]; decide)]; exact RQ.of0 rfl (.tmp (Nat.le_of_ble_eq_true rfl) rfl rfl .nil)
      ·
       have hc6 := hc; skip
       refine AW.skip ?_
       (simp only [thenE, inBlk, Nat.reduceEqDiff, ↓reduceIte])
       (refine hK _ ?_; clear hK K; (skip))
       refine AW.region ?_
       refine awP (op_move rfl rfl) ?_
       (refine awP (op_addi rfl rfl rfl (by omega)) ?_)
       refine awP (op_assign rfl rfl) ?_
       skip
       refine AWL.nil ?_
       refine ⟨i + 1, ⟨by omega, fun k hk => ?_⟩, by omega, ⟨rfl, rfl, trivial⟩, (by rfl), (by rfl)⟩; (rcases Nat.lt_or_ge k i with h' | h'; exact hi.2 k h'; (obtain rfl : k = i := by omega); (simp at hc6; simpa using hc6))
     ·
      have hc5 := hc; have hnl : ¬ i < h.conts.length := (by simpa using hc5)
      refine AW.exit ?_; (simp only [thenE, inBlk, Nat.reduceEqDiff, ↓reduceIte])
      clear hK K
      (refine hK _ ?_; clear hK K; (skip))
      (refine AW.seq_k ?_; intro K hK)
      refine AW.region ?_
      refine awP (op_assign rfl rfl) ?_
      refine AWL.nil ?_
      (refine hK _ ?_; clear hK K; (simp only [nA, Nat.reduceBEq, Nat.reduceEqDiff, ↓reduceIte, Nat.reduceAdd, Nat.reduceSub]))
      skip
      refine AW.ret ?_; rw [val_good hn ho hc4, if_pos (all0_yes hnl hi.2)]; exact RQ.of0 rfl (.tmp (Nat.le_of_ble_eq_true rfl) rfl rfl .nil)
end Go.Proofs.Ytdnofpggdddimaa
namespace Go.Proofs.Ytdnofpggdddimaa
open Go.RowKit
set_option linter.unusedSimpArgs false
set_option linter.unusedVariables false
set_option maxRecDepth 100000
theorem ze49 : zeroIs Try.prog 49 .nilFunc 1 8 := ⟨by kernel_rfl, rfl, by simp [Value.cells, Value.oneCell']⟩
theorem sz49 : sizeIs Try.prog 49 1 := by unfold sizeIs; kernel_rfl
theorem ag49 : aggB Try.prog 49 = some false := by kernel_rfl
def chkH (h : Hand) : Nat → Bool
  | 0 => numB h
  | 1 => barB h
  | 2 => grsB h.grants
  | 3 => empB h.conts
  | _ => logB h
abbrev bmR (h : Hand) (k : Nat) : List AV := [.bm (46 + k) h.av]
theorem C46x {h : Hand} (hs : h.Sm) {i : Nat} (hi : i < 5) (hp : ∀ k, k < i → chkH h k = true) : Fn Try.prog (46 + i) [] [.agg h.av] [.v (.bool (chkH h i))] [] := by
  match i, hi with
  | 0, _ => exact C46
  | 1, _ => exact C47 hs
  | 2, _ => exact C48 hs
  | 3, _ => exact C49 hs
  | 4, _ =>
    have := num_next (h := h) (hp 0 (by decide))
    exact C50 hs (by omega)
theorem en46x {i : Nat} (hi : i < 5) : Enters Try.prog (46 + i) := by
  match i, hi with
  | 0, _ => exact en46
  | 1, _ => exact en47
  | 2, _ => exact en48
  | 3, _ => exact en49
  | 4, _ => exact en50
theorem val_of_chk {h : Hand} (hp : ∀ k, k < 5 → chkH h k = true) : valH h = 0 := val_0 (hp 0 (by decide)) (hp 1 (by decide)) (hp 2 (by decide)) (hp 3 (by decide)) (hp 4 (by decide))
theorem val_of_no {h : Hand} {i : Nat} (hi : i < 5) (hc : chkH h i = false) : valH h = 1 := by
  match i, hi with
  | 0, _ => exact val_1 hc
  | 1, _ => exact val_2 hc
  | 2, _ => exact val_3 hc
  | 3, _ => exact val_4 hc
  | 4, _ => exact val_5 hc
theorem bm_flat (h : Hand) : ∀ r ∈ (List.range 5).map (bmR h), ∀ c ∈ r, flatA c = true := fun r hr c hc => by
  obtain ⟨k, _, rfl⟩ := List.mem_map.1 hr
  rw [List.mem_singleton.1 hc]; rfl
theorem bm_get (h : Hand) {i : Nat} (hi : i < 5) : ((List.range 5).map (bmR h))[i]? = some (bmR h i) := by
  rw [List.getElem?_map, List.getElem?_range hi]; rfl
theorem C18 {h : Hand} (hs : h.Sm) : Fn Try.prog 18 [] [.agg h.av] [.v (.int .i64 (valH h))] [] := by
  refine Spec.body Try.func18 rfl Try.ntmps18 (by simp) rfl ?_; intro S0 own0 v0 w0
  (refine AW.seq_k ?_; intro K hK)
  refine AW.region ?_
  refine awJ (op_box rfl rfl rfl sz26 rfl) ?_; (simp only [nA, Nat.reduceBEq, Nat.reduceEqDiff, ↓reduceIte, Nat.reduceAdd, Nat.reduceSub])
  refine awP (op_assign rfl rfl) ?_; (simp only [nA, Nat.reduceBEq, Nat.reduceEqDiff, ↓reduceIte, Nat.reduceAdd, Nat.reduceSub])
  refine AWL.nil ?_
  (refine hK _ ?_; clear hK K; (simp only [nA, Nat.reduceBEq, Nat.reduceEqDiff, ↓reduceIte, Nat.reduceAdd, Nat.reduceSub]))
  (refine AW.seq_k ?_; intro K hK)
  refine AW.region ?_
  (refine awR (op_load_ptr rfl rfl rfl rfl ag26 sz26 (Nat.le_of_ble_eq_true rfl) rfl) ?_); (simp only [nA, Nat.reduceBEq, Nat.reduceEqDiff, ↓reduceIte, Nat.reduceAdd, Nat.reduceSub])
  refine awJ (op_alloc rfl ze87 rfl) ?_; (simp only [nA, Nat.reduceBEq, Nat.reduceEqDiff, ↓reduceIte, Nat.reduceAdd, Nat.reduceSub])
  refine awJ (op_store rfl rfl rfl rfl rfl rfl sz87 rfl (Nat.le_of_ble_eq_true rfl) rfl) ?_; (simp only [nA, Nat.reduceBEq, Nat.reduceEqDiff, ↓reduceIte, Nat.reduceAdd, Nat.reduceSub])
  refine AWL.nil ?_
  (refine hK _ ?_; clear hK K; (skip))
  (refine AW.seq_k ?_; intro K hK)
  (refine AW.seq_k ?_; intro K hK)
  refine AW.region ?_
  (refine awR (op_load_ptr rfl rfl rfl rfl ag87 sz87 (Nat.le_of_ble_eq_true rfl) rfl) ?_); (simp only [nA, Nat.reduceBEq, Nat.reduceEqDiff, ↓reduceIte, Nat.reduceAdd, Nat.reduceSub])
  refine awP (op_bind rfl rfl rfl) ?_; (simp only [nA, Nat.reduceBEq, Nat.reduceEqDiff, ↓reduceIte, Nat.reduceAdd, Nat.reduceSub])
  (refine awR (op_load_ptr rfl rfl rfl rfl ag87 sz87 (Nat.le_of_ble_eq_true rfl) rfl) ?_); (simp only [nA, Nat.reduceBEq, Nat.reduceEqDiff, ↓reduceIte, Nat.reduceAdd, Nat.reduceSub])
  refine awP (op_bind rfl rfl rfl) ?_; (simp only [nA, Nat.reduceBEq, Nat.reduceEqDiff, ↓reduceIte, Nat.reduceAdd, Nat.reduceSub])
  (refine awR (op_load_ptr rfl rfl rfl rfl ag87 sz87 (Nat.le_of_ble_eq_true rfl) rfl) ?_); (simp only [nA, Nat.reduceBEq, Nat.reduceEqDiff, ↓reduceIte, Nat.reduceAdd, Nat.reduceSub])
  refine awP (op_bind rfl rfl rfl) ?_; (simp only [nA, Nat.reduceBEq, Nat.reduceEqDiff, ↓reduceIte, Nat.reduceAdd, Nat.reduceSub])
  (refine awR (op_load_ptr rfl rfl rfl rfl ag87 sz87 (Nat.le_of_ble_eq_true rfl) rfl) ?_); (simp only [nA, Nat.reduceBEq, Nat.reduceEqDiff, ↓reduceIte, Nat.reduceAdd, Nat.reduceSub])
  refine awP (op_bind rfl rfl rfl) ?_; (simp only [nA, Nat.reduceBEq, Nat.reduceEqDiff, ↓reduceIte, Nat.reduceAdd, Nat.reduceSub])
  (refine awR (op_load_ptr rfl rfl rfl rfl ag87 sz87 (Nat.le_of_ble_eq_true rfl) rfl) ?_); (simp only [nA, Nat.reduceBEq, Nat.reduceEqDiff, ↓reduceIte, Nat.reduceAdd, Nat.reduceSub])
  refine awP (op_bind rfl rfl rfl) ?_; (simp only [nA, Nat.reduceBEq, Nat.reduceEqDiff, ↓reduceIte, Nat.reduceAdd, Nat.reduceSub])
  refine awJ (OpJ.frz (op_buildSlice rfl [(0, bmR h 0), (1, bmR h 1), (2, bmR h 2), (3, bmR h 3), (4, bmR h 4)] ((List.range 5).map (bmR h)) Try.underlying88 ze49 rfl (by simp) rfl (by simp) rfl (Nat.le_of_ble_eq_true rfl) (by simp [maxLen])) (bm_flat h) rfl) ?_; (simp only [nA, Nat.reduceBEq, Nat.reduceEqDiff, ↓reduceIte, Nat.reduceAdd, Nat.reduceSub])
  refine awP (op_len_ro (n := 5) rfl rfl Try.underlying88 (.inr (.inl ⟨_, rfl, rfl⟩))) ?_; (simp only [nA, Nat.reduceBEq, Nat.reduceEqDiff, ↓reduceIte, Nat.reduceAdd, Nat.reduceSub])
  refine awP (op_move rfl rfl) ?_; (simp only [nA, Nat.reduceBEq, Nat.reduceEqDiff, ↓reduceIte, Nat.reduceAdd, Nat.reduceSub])
  refine AWL.nil ?_
  (refine hK _ ?_; clear hK K; (skip))
  refine AW.block ?_
  refine AW.loopI (fun i => [(17, .ro ((List.range 5).map (bmR h))), (18, .v (.int .i64 (5 : Nat))), (19, .v (.int .i64 (i : Nat)))]) (fun i => ⟨[(1, .own 26 [h.av]), (2, .own 87 [h.av])], 3⟩) (fun i => i ≤ 5 ∧ ∀ k, k < i → chkH h k = true) (fun i => 5 - i) 0 (by simp) ⟨rfl, rfl, rfl, trivial⟩ rfl ?_; intro i ρ hi; simp only [updL]
  (refine AW.seq_k ?_; intro K hK)
  refine AW.region ?_
  refine awP (op_lss rfl rfl rfl) ?_; (simp only [nA, Nat.reduceBEq, Nat.reduceEqDiff, ↓reduceIte, Nat.reduceAdd, Nat.reduceSub])
  refine AWL.nil ?_
  (refine hK _ ?_; clear hK K; (skip))
  (refine AW.seq_k ?_; intro K hK)
  refine AW.cond rfl rfl rfl (fun hc => ?_) (fun hc => ?_)
  ·
   (try simp only [hcS] at hc); have hc1 := hc; have hlt : i < 5 := (by simp at hc1; omega)
   refine AW.skip ?_
   (refine hK _ ?_; clear hK K; (skip))
   (refine AW.seq_k ?_; intro K hK)
   refine AW.block ?_
   (refine AW.seq_k ?_; intro K hK)
   refine AW.region ?_
   refine awP (op_ia_ro i rfl (.inl rfl) rfl Try.underlying88 rfl (bm_get h hlt) (by exact sz49) (Nat.le_of_ble_eq_true rfl)) ?_; (simp only [nA, Nat.reduceBEq, Nat.reduceEqDiff, ↓reduceIte, Nat.reduceAdd, Nat.reduceSub])
   (refine awR (op_load_rop1 rfl rfl ag49) ?_); (simp only [nA, Nat.reduceBEq, Nat.reduceEqDiff, ↓reduceIte, Nat.reduceAdd, Nat.reduceSub])
   refine awP (op_assign rfl rfl) ?_; (simp only [nA, Nat.reduceBEq, Nat.reduceEqDiff, ↓reduceIte, Nat.reduceAdd, Nat.reduceSub])
   refine AWL.nil ?_
   (refine hK _ ?_; clear hK K; (skip))
   (refine AW.seq_k ?_; intro K hK)
   refine AW.region ?_
   refine awP (op_move rfl rfl) ?_; (simp only [nA, Nat.reduceBEq, Nat.reduceEqDiff, ↓reduceIte, Nat.reduceAdd, Nat.reduceSub])
   refine awJ (OpQ.j (op_bmQ rfl rfl (en46x hlt) (C46x hs hlt hi.2) rfl)) ?_; (simp only [nA, Nat.reduceBEq, Nat.reduceEqDiff, ↓reduceIte, Nat.reduceAdd, Nat.reduceSub])
   refine awP (op_not rfl rfl rfl) ?_; (simp only [nA, Nat.reduceBEq, Nat.reduceEqDiff, ↓reduceIte, Nat.reduceAdd, Nat.reduceSub])
   refine AWL.nil ?_
   (refine hK _ ?_; clear hK K; (skip))
   refine AW.cond rfl rfl rfl (fun hc => ?_) (fun hc => ?_)
   ·
    (try simp only [hcS] at hc); have hc2 := hc; skip
    (refine AW.seq_k ?_; intro K hK)
    refine AW.region ?_
    refine awP (op_assign rfl rfl) ?_; (simp only [nA, Nat.reduceBEq, Nat.reduceEqDiff, ↓reduceIte, Nat.reduceAdd, Nat.reduceSub])
    refine AWL.nil ?_
    (refine hK _ ?_; clear hK K; (skip))
    skip
    refine AW.ret ?_; (simp only [thenE, inBlk, Nat.reduceEqDiff, ↓reduceIte]); rw [val_of_no hlt (by simpa using hc2)]; exact RQ.of0 rfl (.tmp (Nat.le_of_ble_eq_true rfl) rfl rfl .nil)
   ·
    (try simp only [hcS] at hc); have hc2 := hc; skip
    refine AW.skip ?_
    (simp only [thenE, inBlk, Nat.reduceEqDiff, ↓reduceIte])
    (refine hK _ ?_; clear hK K; (skip))
    refine AW.region ?_
    (refine awP (op_addi rfl rfl rfl (by omega)) ?_); (simp only [nA, Nat.reduceBEq, Nat.reduceEqDiff, ↓reduceIte, Nat.reduceAdd, Nat.reduceSub])
    refine awP (op_move rfl rfl) ?_; (simp only [nA, Nat.reduceBEq, Nat.reduceEqDiff, ↓reduceIte, Nat.reduceAdd, Nat.reduceSub])
    skip
    refine AWL.nil ?_
    refine ⟨i + 1, ⟨by omega, all_b_step hi.2 (by simpa using hc2)⟩, by omega, ⟨rfl, rfl, rfl, trivial⟩, (by rfl), (by rfl)⟩
  ·
   (try simp only [hcS] at hc); have hc1 := hc; have hnl : ¬ i < 5 := (by simp at hc1; omega)
   refine AW.exit ?_; (simp only [thenE, inBlk, Nat.reduceEqDiff, ↓reduceIte])
   clear hK K
   (refine hK _ ?_; clear hK K; (skip))
   (refine AW.seq_k ?_; intro K hK)
   refine AW.region ?_
   refine awP (op_assign rfl rfl) ?_; (simp only [nA, Nat.reduceBEq, Nat.reduceEqDiff, ↓reduceIte, Nat.reduceAdd, Nat.reduceSub])
   refine AWL.nil ?_
   (refine hK _ ?_; clear hK K; (skip))
   skip
   refine AW.ret ?_; rw [val_of_chk fun k hk => hi.2 k (by omega)]; exact RQ.of0 rfl (.tmp (Nat.le_of_ble_eq_true rfl) rfl rfl .nil)
end Go.Proofs.Ytdnofpggdddimaa
namespace Go.Proofs.Ytdnofpggdddimaa
open Go.RowKit
set_option linter.unusedSimpArgs false
set_option linter.unusedVariables false
set_option maxRecDepth 100000
end Go.Proofs.Ytdnofpggdddimaa
namespace Go.Proofs.Ytdnofpggdddimaa
open Go.RowKit
set_option linter.unusedSimpArgs false
set_option linter.unusedVariables false
set_option maxRecDepth 100000
section
variable {S0 : Nat → Prop} {own0 : List Nat} {v0 : List Value} {w0 : World} {o : Oper} {ev : Operand → AV} {T : Sl} {yt : TypeId} {y z : Operand}
end
def noL (l : List Piece) (p : Plate) : List Piece := l.filter fun x => decide (x.plate ≠ p)
end Go.Proofs.Ytdnofpggdddimaa
namespace Go.Proofs.Ytdnofpggdddimaa
open Go.RowKit
set_option linter.unusedSimpArgs false
set_option linter.unusedVariables false
set_option maxRecDepth 100000
theorem st75 : Try.prog.stoodInHeld 75 = false := by kernel_rfl
theorem fo75 : Try.prog.underlying 75 = some (.struct (Try.prog.fieldsOf 75)) := by
  unfold Program.fieldsOf; rw [Try.underlying75]
theorem ty75 : Try.prog.eqGuardType Try.prog.depth 75 = false := by kernel_rfl
theorem st33 : Try.prog.stoodInHeld 33 = false := by kernel_rfl
theorem fo33 : Try.prog.underlying 33 = some (.struct (Try.prog.fieldsOf 33)) := by
  unfold Program.fieldsOf; rw [Try.underlying33]
theorem ty33 : Try.prog.eqGuardType Try.prog.depth 33 = false := by kernel_rfl
def grEq (g h : Grant) : Bool := piEq g.piece h.piece && flEq g.flight h.flight
def opEq (g h : Op) : Bool := (g.time == h.time) && ((g.device == h.device) && ((g.seq == h.seq) && ((g.kind == h.kind) && ((g.cont == h.cont) && piEq g.piece h.piece))))
abbrev Grant.vs (g : Grant) : List Value := [.int .i64 g.piece.plate.lead, .int .i64 g.piece.plate.airline, .int .i64 g.piece.plate.serial, .int .i64 g.piece.weight, .int .i64 g.piece.category, .string g.flight.carrier, .int .i64 g.flight.number, .string g.flight.suffix, .int .i64 g.flight.day]
abbrev Op.vs (o : Op) : List Value := [.int .i64 o.time, .int .i64 o.device, .int .i64 o.seq, .int .i64 o.kind, .int .i64 o.cont, .int .i64 o.piece.plate.lead, .int .i64 o.piece.plate.airline, .int .i64 o.piece.plate.serial, .int .i64 o.piece.weight, .int .i64 o.piece.category]
theorem ite_ok {p : Prop} [Decidable p] {b : Bool} {w : World} : (if p then Result.ok (Value.bool b) w else Result.ok (Value.bool false) w) = Result.ok (Value.bool (decide p && b)) w := by
  by_cases h : p <;> simp [h]
theorem ite_no {p : Prop} [Decidable p] {b : Bool} {w : World} : (if p then Result.ok (Value.bool b) w else Result.ok (Value.bool true) w) = Result.ok (Value.bool (!decide p || b)) w := by
  by_cases h : p <;> simp [h]
theorem run_eq75 (p q : Grant) (w : World) : (binOp .eql 75 (.agg p.vs.toArray) (.agg q.vs.toArray)).run Try.prog w = .ok (.bool (grEq p q)) w := by
  obtain ⟨⟨⟨x, y, z⟩, b, c⟩, ⟨d, e, f, g⟩⟩ := p
  obtain ⟨⟨⟨x', y', z'⟩, b', c'⟩, ⟨d', e', f', g'⟩⟩ := q
  unfold binOp
  simp only [Op.equal]
  rw [Sem.run_bind, show Op.maxDepth = 9996 + 1 + 1 + 1 + 1 from rfl, run_equalIn_struct w _ 75 _ _ fo75 st75]
  unfold Program.fieldsOf; rw [Try.underlying75]
  simp only [Op.eqFields]
  go_simp
  simp only [ite_ok]
  unfold grEq piEq
  unfold flEq
  simp [Bool.and_assoc, Bool.beq_eq_decide_eq]
theorem run_tye75 (p q : Operand) (x y : Array Value) (w : World) : (eqGuard .eql 75 p q (.agg x) (.agg y)).run Try.prog w = .ok () w := by
  unfold eqGuard
  simp [ty75, run_program]
theorem run_neq33 (p q : Op) (w : World) : (binOp .neq 33 (.agg p.vs.toArray) (.agg q.vs.toArray)).run Try.prog w = .ok (.bool (!opEq p q)) w := by
  obtain ⟨d, e, f, g, k, ⟨⟨x, y, z⟩, b, c⟩⟩ := p
  obtain ⟨d', e', f', g', k', ⟨⟨x', y', z'⟩, b', c'⟩⟩ := q
  unfold binOp
  simp only [Op.equal]
  rw [Sem.run_bind, show Op.maxDepth = 9996 + 1 + 1 + 1 + 1 from rfl, run_equalIn_struct w _ 33 _ _ fo33 st33]
  unfold Program.fieldsOf; rw [Try.underlying33]
  simp only [Op.eqFields]
  go_simp
  simp only [ite_no]
  unfold opEq piEq
  simp [Bool.and_assoc, Bool.beq_eq_decide_eq]
theorem run_tyn33 (p q : Operand) (x y : Array Value) (w : World) : (eqGuard .neq 33 p q (.agg x) (.agg y)).run Try.prog w = .ok () w := by
  unfold eqGuard
  simp [ty33, run_program]
abbrev Piece.vs (p : Piece) : List Value := [.int .i64 p.plate.lead, .int .i64 p.plate.airline, .int .i64 p.plate.serial, .int .i64 p.weight, .int .i64 p.category]
theorem run_eq31 (p q : Piece) (w : World) : (binOp .eql 31 (.agg p.vs.toArray) (.agg q.vs.toArray)).run Try.prog w = .ok (.bool (piEq p q)) w := by
  obtain ⟨⟨x, y, z⟩, b, c⟩ := p
  obtain ⟨⟨x', y', z'⟩, b', c'⟩ := q
  unfold binOp
  simp only [Op.equal]
  rw [Sem.run_bind, show Op.maxDepth = 9997 + 1 + 1 + 1 from rfl, run_equalIn_struct w _ 31 _ _ fo31 st31]
  unfold Program.fieldsOf; rw [Try.underlying31]
  simp only [Op.eqFields]
  go_simp
  simp only [ite_ok]
  unfold piEq
  simp [Bool.and_assoc, Bool.beq_eq_decide_eq]
theorem run_tye31 (p q : Operand) (x y : Array Value) (w : World) : (eqGuard .eql 31 p q (.agg x) (.agg y)).run Try.prog w = .ok () w := by
  unfold eqGuard
  simp [ty31, run_program]
section
variable {S0 : Nat → Prop} {own0 : List Nat} {v0 : List Value} {w0 : World} {o : Oper} {ev : Operand → AV} {T : Sl} {yt : TypeId} {y z : Operand}
theorem op_eq75 {p q : Grant} (ho : o.op = .binOp .eql 75 y z yt) (hy : ev y = .agg p.av) (hz : ev z = .agg q.av) : OpP ⟨Try.prog, S0, own0, v0, w0⟩ o ev T (.v (.bool (grEq p q))) :=
  op_bin_agg (xs := p.vs) (ys := q.vs) ho hy hz (fun w => run_tye75 _ _ _ _ w) (fun w => run_eq75 p q w) rfl
theorem op_neq33 {p q : Op} (ho : o.op = .binOp .neq 33 y z yt) (hy : ev y = .agg p.av) (hz : ev z = .agg q.av) : OpP ⟨Try.prog, S0, own0, v0, w0⟩ o ev T (.v (.bool (!opEq p q))) :=
  op_bin_agg (xs := p.vs) (ys := q.vs) ho hy hz (fun w => run_tyn33 _ _ _ _ w) (fun w => run_neq33 p q w) rfl
theorem op_eq31 {p q : Piece} (ho : o.op = .binOp .eql 31 y z yt) (hy : ev y = .agg p.av) (hz : ev z = .agg q.av) : OpP ⟨Try.prog, S0, own0, v0, w0⟩ o ev T (.v (.bool (piEq p q))) :=
  op_bin_agg (xs := p.vs) (ys := q.vs) ho hy hz (fun w => run_tye31 _ _ _ _ w) (fun w => run_eq31 p q w) rfl
end
end Go.Proofs.Ytdnofpggdddimaa
namespace Go.Proofs.Ytdnofpggdddimaa
open Go.RowKit
set_option linter.unusedSimpArgs false
set_option linter.unusedVariables false
set_option maxRecDepth 100000
def idxI {α : Type} (p : α → Bool) (l : List α) : Int := if l.findIdx p < l.length then (l.findIdx p : Int) else -1
theorem getD_of {α : Type} [Inhabited α] {l : List α} {i : Nat} (h : i < l.length) : l.getD i default = l[i] := by
  rw [List.getD_eq_getElem?_getD, List.getElem?_eq_getElem h]; rfl
theorem idx_yes {α : Type} [Inhabited α] {p : α → Bool} {l : List α} {i : Nat} (hi : i < l.length) (hn : ∀ k, k < i → p (l.getD k default) = false) (hp : p (l.getD i default) = true) : idxI p l = i := by
  have e : l.findIdx p = i := (List.findIdx_eq hi).2 ⟨by rw [← getD_of hi]; exact hp, fun j hj => by
    have := hn j hj
    rw [getD_of (by omega)] at this
    exact this⟩
  unfold idxI
  rw [e, if_pos hi]
theorem idx_no {α : Type} [Inhabited α] {p : α → Bool} {l : List α} {i : Nat} (hi : ¬ i < l.length) (hn : ∀ k, k < i → p (l.getD k default) = false) : idxI p l = -1 := by
  unfold idxI
  rw [if_neg]
  intro h
  have := List.findIdx_getElem (w := h)
  have h2 := hn (l.findIdx p) (by omega)
  rw [getD_of h] at h2
  rw [h2] at this
  cases this
theorem C89 {l : List Grant} {g : Grant} (h1 : l.length ≤ 1000) : Fn Try.prog 89 [] [.ro (l.map Grant.av), .agg g.av] [.v (.int .i64 (idxI (fun x => grEq g x) l))] [] := by
  refine Spec.body Try.func89 rfl Try.ntmps89 (by simp) rfl ?_; intro S0 own0 v0 w0
  (refine AW.seq_k ?_; intro K hK)
  refine AW.region ?_
  refine awJ (op_box rfl rfl rfl sz75 rfl) ?_; (simp only [nA, Nat.reduceBEq, Nat.reduceEqDiff, ↓reduceIte, Nat.reduceAdd, Nat.reduceSub])
  refine awP (op_assign rfl rfl) ?_
  refine AWL.nil ?_
  (refine hK _ ?_; clear hK K; (simp only [nA, Nat.reduceBEq, Nat.reduceEqDiff, ↓reduceIte, Nat.reduceAdd, Nat.reduceSub]))
  (refine AW.seq_k ?_; intro K hK)
  (refine AW.seq_k ?_; intro K hK)
  refine AW.region ?_
  refine awP (op_move rfl rfl) ?_
  refine awP (op_len_ro (n := l.length) rfl rfl Try.underlying22 (.inr (.inl ⟨_, rfl, by simp⟩))) ?_
  refine awP (op_move rfl rfl) ?_
  refine AWL.nil ?_
  (refine hK _ ?_; clear hK K; (simp only [nA, Nat.reduceBEq, Nat.reduceEqDiff, ↓reduceIte, Nat.reduceAdd, Nat.reduceSub]))
  refine AW.block ?_
  refine AW.loopI (fun i => [(0, .ro (l.map Grant.av)), (3, .ptr 0 1 0 0), (7, .v (.int .i64 l.length)), (8, .v (.int .i64 (i : Nat)))]) (fun i => ⟨[(1, .own 75 [g.av])], 2⟩) (fun i => i ≤ l.length ∧ ∀ k, k < i → grEq g (l.getD k default) = false) (fun i => l.length - i) 0 (by simp) ⟨rfl, rfl, rfl, rfl, trivial⟩ rfl ?_; intro i ρ hi; simp only [updL]
  (refine AW.seq_k ?_; intro K hK)
  refine AW.region ?_
  refine awP (op_lss rfl rfl rfl) ?_
  refine AWL.nil ?_
  (refine hK _ ?_; clear hK K; (simp only [nA, Nat.reduceBEq, Nat.reduceEqDiff, ↓reduceIte, Nat.reduceAdd, Nat.reduceSub]))
  (refine AW.seq_k ?_; intro K hK)
  refine AW.cond rfl rfl rfl (fun hc => ?_) (fun hc => ?_)
  ·
   have hc1 := hc; have hlt : i < l.length := (by simpa using hc1)
   refine AW.skip ?_
   (refine hK _ ?_; clear hK K; (skip))
   (refine AW.seq_k ?_; intro K hK)
   refine AW.block ?_
   (refine AW.seq_k ?_; intro K hK)
   refine AW.region ?_
   refine awP (op_move rfl rfl) ?_
   refine awP (op_assign rfl rfl) ?_
   refine AWL.nil ?_
   (refine hK _ ?_; clear hK K; (simp only [nA, Nat.reduceBEq, Nat.reduceEqDiff, ↓reduceIte, Nat.reduceAdd, Nat.reduceSub]))
   (refine AW.seq_k ?_; intro K hK)
   refine AW.quiet mix (by kernel_rfl) ?_
   (refine aqR (op_load_ptr rfl rfl rfl rfl ag75 sz75 (Nat.le_of_ble_eq_true rfl) rfl) ?_)
   refine aqP (op_move rfl rfl) ?_
   refine aqP (op_move rfl rfl) ?_
   refine aqP (op_ia_ro i rfl (.inl rfl) rfl Try.underlying22 rfl (get_mapD (by omega)) (by exact sz75) (Nat.le_of_ble_eq_true rfl)) ?_
   (refine aqR (op_load_rop rfl rfl ag75 sz75 (Nat.le_of_ble_eq_true rfl) (by decide) rfl) ?_)
   refine aqP (op_eq75 (p := g) (q := l.getD i default) rfl rfl rfl) ?_; (simp only [nA, Nat.reduceBEq, Nat.reduceEqDiff, ↓reduceIte, Nat.reduceAdd, Nat.reduceSub])
   refine AQ.nil ?_
   (refine hK _ ?_; clear hK K; (skip))
   refine AW.cond rfl rfl rfl (fun hc => ?_) (fun hc => ?_)
   ·
    have hc2 := hc; skip
    (refine AW.seq_k ?_; intro K hK)
    refine AW.region ?_
    refine awP (op_move rfl rfl) ?_
    refine awP (op_assign rfl rfl) ?_
    refine AWL.nil ?_
    (refine hK _ ?_; clear hK K; (simp only [nA, Nat.reduceBEq, Nat.reduceEqDiff, ↓reduceIte, Nat.reduceAdd, Nat.reduceSub]))
    skip
    refine AW.ret ?_; (simp only [thenE, inBlk, Nat.reduceEqDiff, ↓reduceIte]); rw [idx_yes hlt hi.2 hc2]; exact RQ.of0 rfl (.tmp (Nat.le_of_ble_eq_true rfl) rfl rfl .nil)
   ·
    have hc2 := hc; skip
    refine AW.skip ?_
    (simp only [thenE, inBlk, Nat.reduceEqDiff, ↓reduceIte])
    (refine hK _ ?_; clear hK K; (skip))
    refine AW.region ?_
    (refine awP (op_addi rfl rfl rfl (by omega)) ?_)
    refine awP (op_move rfl rfl) ?_
    skip
    refine AWL.nil ?_
    refine ⟨i + 1, ⟨by omega, all_f_step hi.2 hc2⟩, by omega, ⟨rfl, rfl, rfl, rfl, trivial⟩, (by rfl), (by rfl)⟩
  ·
   have hc1 := hc; have hnl : ¬ i < l.length := (by simpa using hc1)
   refine AW.exit ?_; (simp only [thenE, inBlk, Nat.reduceEqDiff, ↓reduceIte])
   clear hK K
   (refine hK _ ?_; clear hK K; (skip))
   (refine AW.seq_k ?_; intro K hK)
   refine AW.region ?_
   refine awP (op_assign rfl rfl) ?_
   refine AWL.nil ?_
   (refine hK _ ?_; clear hK K; (simp only [nA, Nat.reduceBEq, Nat.reduceEqDiff, ↓reduceIte, Nat.reduceAdd, Nat.reduceSub]))
   skip
   refine AW.ret ?_; rw [idx_no hnl hi.2]; exact RQ.of0 rfl (.tmp (Nat.le_of_ble_eq_true rfl) rfl rfl .nil)
theorem C76 {l : List Grant} {g : Grant} (h1 : l.length ≤ 1000) : Fn Try.prog 76 [] [.ro (l.map Grant.av), .agg g.av] [.v (.bool (decide (idxI (fun x => grEq g x) l ≥ 0)))] [] := by
  refine Spec.body Try.func76 rfl Try.ntmps76 (by simp) rfl ?_; intro S0 own0 v0 w0
  (refine AW.seq_k ?_; intro K hK)
  refine AW.region ?_
  refine awJ (op_box rfl rfl rfl sz75 rfl) ?_; (simp only [nA, Nat.reduceBEq, Nat.reduceEqDiff, ↓reduceIte, Nat.reduceAdd, Nat.reduceSub])
  refine awP (op_assign rfl rfl) ?_
  refine AWL.nil ?_
  (refine hK _ ?_; clear hK K; (simp only [nA, Nat.reduceBEq, Nat.reduceEqDiff, ↓reduceIte, Nat.reduceAdd, Nat.reduceSub]))
  (refine AW.seq_k ?_; intro K hK)
  refine AW.region ?_
  refine awP (op_move rfl rfl) ?_
  (refine awR (op_load_ptr rfl rfl rfl rfl ag75 sz75 (Nat.le_of_ble_eq_true rfl) rfl) ?_)
  refine awJ (OpQ.j (op_callQ (b := true) rfl en89 (C89 (l := l) (g := g) h1) (RL.cons (by exact View.same rfl) (RL.cons (by exact View.same rfl) (RL.nil))) rfl)) ?_; (simp only [nA, Nat.reduceBEq, Nat.reduceEqDiff, ↓reduceIte, Nat.reduceAdd, Nat.reduceSub])
  refine awP (op_geq rfl rfl rfl) ?_
  refine awP (op_assign rfl rfl) ?_
  refine AWL.nil ?_
  (refine hK _ ?_; clear hK K; (simp only [nA, Nat.reduceBEq, Nat.reduceEqDiff, ↓reduceIte, Nat.reduceAdd, Nat.reduceSub]))
  skip
  refine AW.ret ?_; exact RQ.of0 rfl (.tmp (Nat.le_of_ble_eq_true rfl) rfl rfl .nil)
theorem C75 {c : Container} {n : Int} : Fn Try.prog 75 [] [.agg c.av, .rop [.v (.int .i64 n)]] [.v (.bool (decide (c.number = n)))] [] := by
  refine Spec.body Try.func75 rfl Try.ntmps75 (by simp) rfl ?_; intro S0 own0 v0 w0
  (refine AW.seq_k ?_; intro K hK)
  refine AW.region ?_
  refine awJ (op_box rfl rfl rfl sz77 rfl) ?_; (simp only [nA, Nat.reduceBEq, Nat.reduceEqDiff, ↓reduceIte, Nat.reduceAdd, Nat.reduceSub])
  refine awP (op_assign rfl rfl) ?_
  refine AWL.nil ?_
  (refine hK _ ?_; clear hK K; (simp only [nA, Nat.reduceBEq, Nat.reduceEqDiff, ↓reduceIte, Nat.reduceAdd, Nat.reduceSub]))
  (refine AW.seq_k ?_; intro K hK)
  refine AW.region ?_
  (refine awP (op_fa_ptr rfl rfl rfl fl77_0 (by exact sz3) (by decide) rfl) ?_)
  (refine awR (op_load_ptr1 rfl rfl rfl rfl ag3 rfl rfl) ?_)
  (refine awR (op_load_rop1 rfl rfl ag3) ?_)
  (refine awP (op_eql rfl rfl rfl) ?_)
  refine awP (op_assign rfl rfl) ?_
  refine AWL.nil ?_
  (refine hK _ ?_; clear hK K; (simp only [nA, Nat.reduceBEq, Nat.reduceEqDiff, ↓reduceIte, Nat.reduceAdd, Nat.reduceSub]))
  skip
  refine AW.ret ?_; exact RQ.of0 rfl (.tmp (Nat.le_of_ble_eq_true rfl) rfl rfl .nil)
theorem C74 {l : List Container} {n : Int} (h1 : l.length ≤ 1000) : Fn Try.prog 74 [] [.ro (l.map Container.av), .clo 75 [.rop [.v (.int .i64 n)]]] [.v (.int .i64 (idxI (fun c : Container => decide (c.number = n)) l))] [] := by
  refine Spec.body Try.func74 rfl Try.ntmps74 (by simp) rfl ?_; intro S0 own0 v0 w0
  (refine AW.seq_k ?_; intro K hK)
  refine AW.region ?_
  refine awP (op_assign rfl rfl) ?_
  refine AWL.nil ?_
  (refine hK _ ?_; clear hK K; (simp only [nA, Nat.reduceBEq, Nat.reduceEqDiff, ↓reduceIte, Nat.reduceAdd, Nat.reduceSub]))
  (refine AW.seq_k ?_; intro K hK)
  (refine AW.seq_k ?_; intro K hK)
  refine AW.region ?_
  refine awP (op_move rfl rfl) ?_
  refine awP (op_len_ro (n := l.length) rfl rfl Try.underlying23 (.inr (.inl ⟨_, rfl, by simp⟩))) ?_
  refine awP (op_move rfl rfl) ?_
  refine AWL.nil ?_
  (refine hK _ ?_; clear hK K; (simp only [nA, Nat.reduceBEq, Nat.reduceEqDiff, ↓reduceIte, Nat.reduceAdd, Nat.reduceSub]))
  refine AW.block ?_
  refine AW.loopI (fun i => [(0, .ro (l.map Container.av)), (1, .clo 75 [.rop [.v (.int .i64 n)]]), (7, .v (.int .i64 l.length)), (8, .v (.int .i64 (i : Nat)))]) (fun i => ⟨[], 1⟩) (fun i => i ≤ l.length ∧ ∀ k, k < i → decide ((l.getD k default).number = n) = false) (fun i => l.length - i) 0 (by simp) ⟨rfl, rfl, rfl, rfl, trivial⟩ rfl ?_; intro i ρ hi; simp only [updL]
  (refine AW.seq_k ?_; intro K hK)
  refine AW.region ?_
  refine awP (op_lss rfl rfl rfl) ?_
  refine AWL.nil ?_
  (refine hK _ ?_; clear hK K; (simp only [nA, Nat.reduceBEq, Nat.reduceEqDiff, ↓reduceIte, Nat.reduceAdd, Nat.reduceSub]))
  (refine AW.seq_k ?_; intro K hK)
  refine AW.cond rfl rfl rfl (fun hc => ?_) (fun hc => ?_)
  ·
   have hc1 := hc; have hlt : i < l.length := (by simpa using hc1)
   refine AW.skip ?_
   (refine hK _ ?_; clear hK K; (skip))
   (refine AW.seq_k ?_; intro K hK)
   refine AW.block ?_
   (refine AW.seq_k ?_; intro K hK)
   refine AW.region ?_
   refine awP (op_move rfl rfl) ?_
   refine awP (op_assign rfl rfl) ?_
   refine AWL.nil ?_
   (refine hK _ ?_; clear hK K; (simp only [nA, Nat.reduceBEq, Nat.reduceEqDiff, ↓reduceIte, Nat.reduceAdd, Nat.reduceSub]))
   (refine AW.seq_k ?_; intro K hK)
   refine AW.region ?_
   refine awP (op_move rfl rfl) ?_
   refine awP (op_move rfl rfl) ?_
   refine awP (op_move rfl rfl) ?_
   refine awP (op_ia_ro i rfl (.inl rfl) rfl Try.underlying23 rfl (get_mapD (by omega)) (by exact sz77) (Nat.le_of_ble_eq_true rfl)) ?_
   (refine awR (op_load_rop rfl rfl ag77 sz77 (Nat.le_of_ble_eq_true rfl) (by decide) rfl) ?_)
   refine awJ (OpQ.j (op_cloQ (b := true) rfl rfl en75 (C75 (c := l.getD i default) (n := n)) (RL.cons (by exact View.same rfl) (RL.nil)) rfl)) ?_; (simp only [nA, Nat.reduceBEq, Nat.reduceEqDiff, ↓reduceIte, Nat.reduceAdd, Nat.reduceSub])
   refine AWL.nil ?_
   (refine hK _ ?_; clear hK K; (skip))
   refine AW.cond rfl rfl rfl (fun hc => ?_) (fun hc => ?_)
   ·
    have hc2 := hc; skip
    (refine AW.seq_k ?_; intro K hK)
    refine AW.region ?_
    refine awP (op_move rfl rfl) ?_
    refine awP (op_assign rfl rfl) ?_
    refine AWL.nil ?_
    (refine hK _ ?_; clear hK K; (simp only [nA, Nat.reduceBEq, Nat.reduceEqDiff, ↓reduceIte, Nat.reduceAdd, Nat.reduceSub]))
    skip
    refine AW.ret ?_; (simp only [thenE, inBlk, Nat.reduceEqDiff, ↓reduceIte]); rw [idx_yes (p := fun c : Container => decide (c.number = n)) hlt hi.2 hc2]; exact RQ.of0 rfl (.tmp (Nat.le_of_ble_eq_true rfl) rfl rfl .nil)
   ·
    have hc2 := hc; skip
    refine AW.skip ?_
    (simp only [thenE, inBlk, Nat.reduceEqDiff, ↓reduceIte])
    (refine hK _ ?_; clear hK K; (skip))
    refine AW.region ?_
    (refine awP (op_addi rfl rfl rfl (by omega)) ?_)
    refine awP (op_move rfl rfl) ?_
    skip
    refine AWL.nil ?_
    refine ⟨i + 1, ⟨by omega, all_f_step (f := fun k => decide ((l.getD k default).number = n)) hi.2 hc2⟩, by omega, ⟨rfl, rfl, rfl, rfl, trivial⟩, (by rfl), (by rfl)⟩
  ·
   have hc1 := hc; have hnl : ¬ i < l.length := (by simpa using hc1)
   refine AW.exit ?_; (simp only [thenE, inBlk, Nat.reduceEqDiff, ↓reduceIte])
   clear hK K
   (refine hK _ ?_; clear hK K; (skip))
   (refine AW.seq_k ?_; intro K hK)
   refine AW.region ?_
   refine awP (op_assign rfl rfl) ?_
   refine AWL.nil ?_
   (refine hK _ ?_; clear hK K; (simp only [nA, Nat.reduceBEq, Nat.reduceEqDiff, ↓reduceIte, Nat.reduceAdd, Nat.reduceSub]))
   skip
   refine AW.ret ?_; rw [idx_no (p := fun c : Container => decide (c.number = n)) hnl hi.2]; exact RQ.of0 rfl (.tmp (Nat.le_of_ble_eq_true rfl) rfl rfl .nil)
def listEq {α : Type} [Inhabited α] (eq : α → α → Bool) (a b : List α) : Bool := decide ((a.length : Int) = b.length) && (List.range a.length).all fun i => eq (a.getD i default) (b.getD i default)
def loadedB (l : List Op) (p : Plate) : Bool := ((l.reverse.find? fun o => decide (o.piece.plate = p)).map fun o => decide (o.kind = 1)).getD false
theorem loaded_t {l : List Op} {i : Nat} {p : Plate} (hi : i < l.length) (hp : decide ((l.getD i default).piece.plate = p) = true) : decide ((l.getD i default).kind = 1) = loadedB (l.take (i + 1)) p := by
  unfold loadedB
  rw [List.take_add_one, List.getElem?_eq_getElem hi, List.reverse_append]
  rw [getD_of hi] at hp ⊢
  simp only [Option.toList, List.reverse_cons, List.reverse_nil, List.nil_append, List.cons_append]
  rw [List.find?_cons_of_pos (p := fun o : Op => decide (o.piece.plate = p)) hp]
  rfl
theorem loaded_f {l : List Op} {i : Nat} {p : Plate} (hi : i < l.length) (hp : decide ((l.getD i default).piece.plate = p) = false) : loadedB (l.take i) p = loadedB (l.take (i + 1)) p := by
  unfold loadedB
  rw [List.take_add_one, List.getElem?_eq_getElem hi, List.reverse_append]
  rw [getD_of hi] at hp
  simp only [Option.toList, List.reverse_cons, List.reverse_nil, List.nil_append, List.cons_append]
  rw [List.find?_cons_of_neg (p := fun o : Op => decide (o.piece.plate = p)) (by rw [hp]; decide)]
theorem C39 {l : List Op} {p : Plate} (h1 : l.length ≤ 1000000) : Fn Try.prog 39 [] [.ro (l.map Op.av), .agg p.av] [.v (.bool (loadedB l p))] [] := by
  refine Spec.body Try.func39 rfl Try.ntmps39 (by simp) rfl ?_; intro S0 own0 v0 w0
  (refine AW.seq_k ?_; intro K hK)
  refine AW.region ?_
  refine awJ (op_box rfl rfl rfl sz29 rfl) ?_; (simp only [nA, Nat.reduceBEq, Nat.reduceEqDiff, ↓reduceIte, Nat.reduceAdd, Nat.reduceSub])
  refine awP (op_assign rfl rfl) ?_
  refine AWL.nil ?_
  (refine hK _ ?_; clear hK K; (simp only [nA, Nat.reduceBEq, Nat.reduceEqDiff, ↓reduceIte, Nat.reduceAdd, Nat.reduceSub]))
  (refine AW.seq_k ?_; intro K hK)
  refine AW.region ?_
  refine awP (op_assign rfl rfl) ?_
  refine AWL.nil ?_
  (refine hK _ ?_; clear hK K; (simp only [nA, Nat.reduceBEq, Nat.reduceEqDiff, ↓reduceIte, Nat.reduceAdd, Nat.reduceSub]))
  (refine AW.seq_k ?_; intro K hK)
  (refine AW.seq_k ?_; intro K hK)
  refine AW.region ?_
  refine awP (op_assign rfl rfl) ?_
  refine AWL.nil ?_
  (refine hK _ ?_; clear hK K; (simp only [nA, Nat.reduceBEq, Nat.reduceEqDiff, ↓reduceIte, Nat.reduceAdd, Nat.reduceSub]))
  refine AW.block ?_
  refine AW.loopI (fun i => [(0, .ro (l.map Op.av)), (3, .ptr 0 1 0 0), (5, .v (.bool (loadedB (l.take i) p))), (6, .v (.int .i64 (i : Nat)))]) (fun i => ⟨[(1, .own 29 [p.av])], 2⟩) (fun i => i ≤ l.length) (fun i => l.length - i) 0 (by simp) ⟨rfl, rfl, rfl, rfl, trivial⟩ rfl ?_; intro i ρ hi; simp only [updL]
  (refine AW.seq_k ?_; intro K hK)
  (refine AW.seq_k ?_; intro K hK)
  refine AW.region ?_
  refine awP (op_move rfl rfl) ?_
  refine awP (op_move rfl rfl) ?_
  refine awP (op_len_ro (n := l.length) rfl rfl Try.underlying24 (.inr (.inl ⟨_, rfl, by simp⟩))) ?_
  refine awP (op_lss rfl rfl rfl) ?_
  refine AWL.nil ?_
  (refine hK _ ?_; clear hK K; (simp only [nA, Nat.reduceBEq, Nat.reduceEqDiff, ↓reduceIte, Nat.reduceAdd, Nat.reduceSub]))
  refine AW.cond rfl rfl rfl (fun hc => ?_) (fun hc => ?_)
  ·
   have hc1 := hc; have hlt : i < l.length := (by simpa using hc1)
   refine AW.skip ?_
   (refine hK _ ?_; clear hK K; (skip))
   (refine AW.seq_k ?_; intro K hK)
   refine AW.block ?_
   (refine AW.seq_k ?_; intro K hK)
   refine AW.quiet mix (by kernel_rfl) ?_
   refine aqP (op_move rfl rfl) ?_
   refine aqP (op_move rfl rfl) ?_
   refine aqP (op_ia_ro i rfl (.inl rfl) rfl Try.underlying24 rfl (get_mapD (by omega)) (by exact sz33) (Nat.le_of_ble_eq_true rfl)) ?_
   (refine aqP (op_fa_rop rfl rfl fl33_5 (by exact sz31) (by decide) (Nat.le_of_ble_eq_true rfl) rfl) ?_)
   (refine aqP (op_fa_rop rfl rfl fl31_0 (by exact sz29) (by decide) (Nat.le_of_ble_eq_true rfl) rfl) ?_)
   (refine aqR (op_load_rop rfl rfl ag29 sz29 (Nat.le_of_ble_eq_true rfl) (by decide) rfl) ?_)
   (refine aqR (op_load_ptr rfl rfl rfl rfl ag29 sz29 (Nat.le_of_ble_eq_true rfl) rfl) ?_)
   refine aqP (op_eq29 (p := (l.getD i default).piece.plate) (q := p) rfl rfl rfl) ?_; (simp only [nA, Nat.reduceBEq, Nat.reduceEqDiff, ↓reduceIte, Nat.reduceAdd, Nat.reduceSub])
   refine AQ.nil ?_
   (refine hK _ ?_; clear hK K; (skip))
   refine AW.cond rfl rfl rfl (fun hc => ?_) (fun hc => ?_)
   ·
    have hc2 := hc; skip
    refine AW.region ?_
    refine awP (op_move rfl rfl) ?_
    refine awP (op_move rfl rfl) ?_
    refine awP (op_ia_ro i rfl (.inl rfl) rfl Try.underlying24 rfl (get_mapD (by omega)) (by exact sz33) (Nat.le_of_ble_eq_true rfl)) ?_
    (refine awP (op_fa_rop rfl rfl fl33_3 (by exact sz3) (by decide) (Nat.le_of_ble_eq_true rfl) rfl) ?_)
    (refine awR (op_load_rop1 rfl rfl ag3) ?_)
    (refine awP (op_eql rfl rfl rfl) ?_)
    refine awP (op_assign rfl rfl) ?_
    refine AWL.nil ?_
    (simp only [thenE, inBlk, Nat.reduceEqDiff, ↓reduceIte])
    (refine hK _ ?_; clear hK K; (simp only [nA, Nat.reduceBEq, Nat.reduceEqDiff, ↓reduceIte, Nat.reduceAdd, Nat.reduceSub]))
    refine AW.region ?_
    refine awP (op_move rfl rfl) ?_
    (refine awP (op_addi rfl rfl rfl (by omega)) ?_)
    refine awP (op_assign rfl rfl) ?_
    skip
    refine AWL.nil ?_
    refine ⟨i + 1, by omega, by omega, ⟨rfl, rfl, (by rw [← loaded_t hlt hc2]; rfl), rfl, trivial⟩, (by rfl), (by rfl)⟩
   ·
    have hc2 := hc; skip
    refine AW.skip ?_
    (simp only [thenE, inBlk, Nat.reduceEqDiff, ↓reduceIte])
    (refine hK _ ?_; clear hK K; (skip))
    refine AW.region ?_
    refine awP (op_move rfl rfl) ?_
    (refine awP (op_addi rfl rfl rfl (by omega)) ?_)
    refine awP (op_assign rfl rfl) ?_
    skip
    refine AWL.nil ?_
    refine ⟨i + 1, by omega, by omega, ⟨rfl, rfl, (by rw [← loaded_f hlt hc2]; rfl), rfl, trivial⟩, (by rfl), (by rfl)⟩
  ·
   have hc1 := hc; have hnl : ¬ i < l.length := (by simpa using hc1)
   refine AW.exit ?_; (simp only [thenE, inBlk, Nat.reduceEqDiff, ↓reduceIte])
   clear hK K
   (refine hK _ ?_; clear hK K; (skip))
   (refine AW.seq_k ?_; intro K hK)
   refine AW.region ?_
   refine awP (op_move rfl rfl) ?_
   refine awP (op_assign rfl rfl) ?_
   refine AWL.nil ?_
   (refine hK _ ?_; clear hK K; (simp only [nA, Nat.reduceBEq, Nat.reduceEqDiff, ↓reduceIte, Nat.reduceAdd, Nat.reduceSub]))
   skip
   refine AW.ret ?_; rw [show loadedB l p = loadedB (l.take i) p by rw [List.take_of_length_le (by omega)]]; exact RQ.of0 rfl (.tmp (Nat.le_of_ble_eq_true rfl) rfl rfl .nil)
end Go.Proofs.Ytdnofpggdddimaa
namespace Go.Proofs.Ytdnofpggdddimaa
open Go.RowKit
set_option linter.unusedSimpArgs false
set_option linter.unusedVariables false
set_option maxRecDepth 100000
def flightOf (l : List Container) (n : Int) : Flight × Bool := if idxI (fun c : Container => decide (c.number = n)) l < 0 then (default, false) else ((l.getD (idxI (fun c : Container => decide (c.number = n)) l).toNat default).flight, true)
theorem flight_yes {l : List Container} {n : Int} {i : Nat} (hi : i < l.length) (hn : ∀ k, k < i → decide ((l.getD k default).number = n) = false) (hp : decide ((l.getD i default).number = n) = true) : flightOf l n = ((l.getD i default).flight, true) := by
  unfold flightOf
  rw [idx_yes (p := fun c : Container => decide (c.number = n)) hi hn hp, if_neg (by omega)]
  rfl
theorem flight_no {l : List Container} {n : Int} {i : Nat} (hi : ¬ i < l.length) (hn : ∀ k, k < i → decide ((l.getD k default).number = n) = false) : flightOf l n = (default, false) := by
  unfold flightOf
  rw [idx_no (p := fun c : Container => decide (c.number = n)) hi hn, if_pos (by decide)]
theorem C78 {l : List Container} {n : Int} (h1 : l.length ≤ 1000000) : Fn Try.prog 78 [] [.ro (l.map Container.av), .v (.int .i64 n)] [.agg (flightOf l n).1.av, .v (.bool (flightOf l n).2)] [] := by
  refine Spec.body Try.func78 rfl Try.ntmps78 (by simp) rfl ?_; intro S0 own0 v0 w0
  (refine AW.seq_k ?_; intro K hK)
  refine AW.region ?_
  refine awJ (op_alloc rfl ze73 rfl) ?_; (simp only [nA, Nat.reduceBEq, Nat.reduceEqDiff, ↓reduceIte, Nat.reduceAdd, Nat.reduceSub])
  refine awP (op_assign rfl rfl) ?_
  refine AWL.nil ?_
  (refine hK _ ?_; clear hK K; (simp only [nA, Nat.reduceBEq, Nat.reduceEqDiff, ↓reduceIte, Nat.reduceAdd, Nat.reduceSub]))
  (refine AW.seq_k ?_; intro K hK)
  (refine AW.seq_k ?_; intro K hK)
  refine AW.region ?_
  refine awP (op_assign rfl rfl) ?_
  refine AWL.nil ?_
  (refine hK _ ?_; clear hK K; (simp only [nA, Nat.reduceBEq, Nat.reduceEqDiff, ↓reduceIte, Nat.reduceAdd, Nat.reduceSub]))
  refine AW.block ?_
  refine AW.loopI (fun i => [(0, .ro (l.map Container.av)), (1, .v (.int .i64 n)), (4, .ptr 0 1 0 0), (6, .v (.int .i64 (i : Nat)))]) (fun i => ⟨[(1, .own 73 [(default : Flight).av])], 2⟩) (fun i => i ≤ l.length ∧ ∀ k, k < i → decide ((l.getD k default).number = n) = false) (fun i => l.length - i) 0 (by simp) ⟨rfl, rfl, rfl, rfl, trivial⟩ rfl ?_; intro i ρ hi; simp only [updL]
  (refine AW.seq_k ?_; intro K hK)
  (refine AW.seq_k ?_; intro K hK)
  refine AW.region ?_
  refine awP (op_move rfl rfl) ?_
  refine awP (op_move rfl rfl) ?_
  refine awP (op_len_ro (n := l.length) rfl rfl Try.underlying23 (.inr (.inl ⟨_, rfl, by simp⟩))) ?_
  refine awP (op_lss rfl rfl rfl) ?_
  refine AWL.nil ?_
  (refine hK _ ?_; clear hK K; (simp only [nA, Nat.reduceBEq, Nat.reduceEqDiff, ↓reduceIte, Nat.reduceAdd, Nat.reduceSub]))
  refine AW.cond rfl rfl rfl (fun hc => ?_) (fun hc => ?_)
  ·
   have hc1 := hc; have hlt : i < l.length := (by simpa using hc1)
   refine AW.skip ?_
   (refine hK _ ?_; clear hK K; (skip))
   (refine AW.seq_k ?_; intro K hK)
   refine AW.block ?_
   (refine AW.seq_k ?_; intro K hK)
   refine AW.region ?_
   refine awP (op_move rfl rfl) ?_
   refine awP (op_move rfl rfl) ?_
   refine awP (op_ia_ro i rfl (.inl rfl) rfl Try.underlying23 rfl (get_mapD (by omega)) (by exact sz77) (Nat.le_of_ble_eq_true rfl)) ?_
   (refine awP (op_fa_rop rfl rfl fl77_0 (by exact sz3) (by decide) (Nat.le_of_ble_eq_true rfl) rfl) ?_)
   (refine awR (op_load_rop1 rfl rfl ag3) ?_)
   refine awP (op_move rfl rfl) ?_
   (refine awP (op_eql rfl rfl rfl) ?_)
   refine AWL.nil ?_
   (refine hK _ ?_; clear hK K; (simp only [nA, Nat.reduceBEq, Nat.reduceEqDiff, ↓reduceIte, Nat.reduceAdd, Nat.reduceSub]))
   refine AW.cond rfl rfl rfl (fun hc => ?_) (fun hc => ?_)
   ·
    have hc2 := hc; skip
    (refine AW.seq_k ?_; intro K hK)
    refine AW.region ?_
    refine awP (op_move rfl rfl) ?_
    refine awP (op_move rfl rfl) ?_
    refine awP (op_ia_ro i rfl (.inl rfl) rfl Try.underlying23 rfl (get_mapD (by omega)) (by exact sz77) (Nat.le_of_ble_eq_true rfl)) ?_
    (refine awP (op_fa_rop rfl rfl fl77_1 (by exact sz73) (by decide) (Nat.le_of_ble_eq_true rfl) rfl) ?_)
    (refine awR (op_load_rop rfl rfl ag73 sz73 (Nat.le_of_ble_eq_true rfl) (by decide) rfl) ?_)
    refine awJ (op_store rfl rfl rfl rfl rfl rfl sz73 rfl (Nat.le_of_ble_eq_true rfl) rfl) ?_; (simp only [nA, Nat.reduceBEq, Nat.reduceEqDiff, ↓reduceIte, Nat.reduceAdd, Nat.reduceSub])
    refine awP (op_assign rfl rfl) ?_
    refine AWL.nil ?_
    (refine hK _ ?_; clear hK K; (simp only [nA, Nat.reduceBEq, Nat.reduceEqDiff, ↓reduceIte, Nat.reduceAdd, Nat.reduceSub]))
    skip
    refine AW.ret ?_; (simp only [thenE, inBlk, Nat.reduceEqDiff, ↓reduceIte]); rw [flight_yes hlt hi.2 hc2]; exact RQ.of0 rfl (.cell (Nat.le_of_ble_eq_true rfl) rfl rfl rfl ag73 sz73 (Nat.le_of_ble_eq_true rfl) rfl rfl (.tmp (Nat.le_of_ble_eq_true rfl) rfl rfl .nil))
   ·
    have hc2 := hc; skip
    refine AW.skip ?_
    (simp only [thenE, inBlk, Nat.reduceEqDiff, ↓reduceIte])
    (refine hK _ ?_; clear hK K; (skip))
    refine AW.region ?_
    refine awP (op_move rfl rfl) ?_
    (refine awP (op_addi rfl rfl rfl (by omega)) ?_)
    refine awP (op_assign rfl rfl) ?_
    skip
    refine AWL.nil ?_
    refine ⟨i + 1, ⟨by omega, all_f_step (f := fun k => decide ((l.getD k default).number = n)) hi.2 hc2⟩, by omega, ⟨rfl, rfl, rfl, rfl, trivial⟩, (by rfl), (by rfl)⟩
  ·
   have hc1 := hc; have hnl : ¬ i < l.length := (by simpa using hc1)
   refine AW.exit ?_; (simp only [thenE, inBlk, Nat.reduceEqDiff, ↓reduceIte])
   clear hK K
   (refine hK _ ?_; clear hK K; (skip))
   (refine AW.seq_k ?_; intro K hK)
   refine AW.region ?_
   refine awP (op_build2 (xs := [.v (.string ⟨#[]⟩), .v (.int .i64 0), .v (.string ⟨#[]⟩), .v (.int .i64 0)]) rfl pl73 ze73 [] rfl rfl rfl) ?_
   refine awJ (op_store rfl rfl rfl rfl rfl rfl sz73 rfl (Nat.le_of_ble_eq_true rfl) rfl) ?_; (simp only [nA, Nat.reduceBEq, Nat.reduceEqDiff, ↓reduceIte, Nat.reduceAdd, Nat.reduceSub])
   refine awP (op_assign rfl rfl) ?_
   refine AWL.nil ?_
   (refine hK _ ?_; clear hK K; (simp only [nA, Nat.reduceBEq, Nat.reduceEqDiff, ↓reduceIte, Nat.reduceAdd, Nat.reduceSub]))
   skip
   refine AW.ret ?_; rw [flight_no hnl hi.2]; exact RQ.of0 rfl (.cell (Nat.le_of_ble_eq_true rfl) rfl rfl rfl ag73 sz73 (Nat.le_of_ble_eq_true rfl) rfl rfl (.tmp (Nat.le_of_ble_eq_true rfl) rfl rfl .nil))
theorem beq_comm' {α : Type} [BEq α] [LawfulBEq α] (a b : α) : (a == b) = (b == a) := by
  by_cases h : a = b
  · subst h; rfl
  · rw [beq_eq_false_iff_ne.2 h, beq_eq_false_iff_ne.2 (Ne.symm h)]
theorem piEq_comm (p q : Piece) : piEq p q = piEq q p := by
  unfold piEq
  rw [beq_comm' p.weight, beq_comm' p.category, show decide (p.plate = q.plate) = decide (q.plate = p.plate) from decide_eq_decide.2 ⟨Eq.symm, Eq.symm⟩]
theorem flEq_comm (p q : Flight) : flEq p q = flEq q p := by
  unfold flEq
  rw [beq_comm' p.carrier.toList, beq_comm' p.number, beq_comm' p.suffix.toList, beq_comm' p.day]
theorem grEq_comm (p q : Grant) : grEq p q = grEq q p := by
  unfold grEq
  rw [piEq_comm, flEq_comm]
def grantedB (l : List Grant) (p : Piece) (f : Flight) : Bool := decide (idxI (fun x => grEq ⟨p, f⟩ x) l ≥ 0)
theorem grt_c {l : List Grant} {i : Nat} {p : Piece} {f : Flight} {b : Bool} (h : (piEq (l.getD i default).piece p && flEq (l.getD i default).flight f) = b) : grEq ⟨p, f⟩ (l.getD i default) = b := by
  rw [grEq_comm]
  exact h
theorem C79 {l : List Grant} {p : Piece} {f : Flight} (h1 : l.length ≤ 1000000) : Fn Try.prog 79 [] [.ro (l.map Grant.av), .agg p.av, .agg f.av] [.v (.bool (grantedB l p f))] [] := by
  refine Spec.body Try.func79 rfl Try.ntmps79 (by simp) rfl ?_; intro S0 own0 v0 w0
  (refine AW.seq_k ?_; intro K hK)
  refine AW.region ?_
  refine awJ (op_box rfl rfl rfl sz31 rfl) ?_; (simp only [nA, Nat.reduceBEq, Nat.reduceEqDiff, ↓reduceIte, Nat.reduceAdd, Nat.reduceSub])
  refine awJ (op_box rfl rfl rfl sz73 rfl) ?_; (simp only [nA, Nat.reduceBEq, Nat.reduceEqDiff, ↓reduceIte, Nat.reduceAdd, Nat.reduceSub])
  refine awP (op_assign rfl rfl) ?_
  refine AWL.nil ?_
  (refine hK _ ?_; clear hK K; (simp only [nA, Nat.reduceBEq, Nat.reduceEqDiff, ↓reduceIte, Nat.reduceAdd, Nat.reduceSub]))
  (refine AW.seq_k ?_; intro K hK)
  (refine AW.seq_k ?_; intro K hK)
  refine AW.region ?_
  refine awP (op_assign rfl rfl) ?_
  refine AWL.nil ?_
  (refine hK _ ?_; clear hK K; (simp only [nA, Nat.reduceBEq, Nat.reduceEqDiff, ↓reduceIte, Nat.reduceAdd, Nat.reduceSub]))
  refine AW.block ?_
  refine AW.loopI (fun i => [(0, .ro (l.map Grant.av)), (4, .ptr 0 1 0 0), (5, .ptr 1 2 0 0), (7, .v (.int .i64 (i : Nat)))]) (fun i => ⟨[(1, .own 31 [p.av]), (2, .own 73 [f.av])], 3⟩) (fun i => i ≤ l.length ∧ ∀ k, k < i → grEq ⟨p, f⟩ (l.getD k default) = false) (fun i => l.length - i) 0 (by simp) ⟨rfl, rfl, rfl, rfl, trivial⟩ rfl ?_; intro i ρ hi; simp only [updL]
  (refine AW.seq_k ?_; intro K hK)
  (refine AW.seq_k ?_; intro K hK)
  refine AW.region ?_
  refine awP (op_move rfl rfl) ?_
  refine awP (op_move rfl rfl) ?_
  refine awP (op_len_ro (n := l.length) rfl rfl Try.underlying22 (.inr (.inl ⟨_, rfl, by simp⟩))) ?_
  refine awP (op_lss rfl rfl rfl) ?_
  refine AWL.nil ?_
  (refine hK _ ?_; clear hK K; (simp only [nA, Nat.reduceBEq, Nat.reduceEqDiff, ↓reduceIte, Nat.reduceAdd, Nat.reduceSub]))
  refine AW.cond rfl rfl rfl (fun hc => ?_) (fun hc => ?_)
  ·
   have hc1 := hc; have hlt : i < l.length := (by simpa using hc1)
   refine AW.skip ?_
   (refine hK _ ?_; clear hK K; (skip))
   (refine AW.seq_k ?_; intro K hK)
   refine AW.block ?_
   (refine AW.seq_k ?_; intro K hK)
   refine AW.quiet mix (by kernel_rfl) ?_
   refine aqP (op_move rfl rfl) ?_
   refine aqP (op_move rfl rfl) ?_
   refine aqP (op_ia_ro i rfl (.inl rfl) rfl Try.underlying22 rfl (get_mapD (by omega)) (by exact sz75) (Nat.le_of_ble_eq_true rfl)) ?_
   (refine aqP (op_fa_rop rfl rfl fl75_0 (by exact sz31) (by decide) (Nat.le_of_ble_eq_true rfl) rfl) ?_)
   (refine aqR (op_load_rop rfl rfl ag31 sz31 (Nat.le_of_ble_eq_true rfl) (by decide) rfl) ?_)
   (refine aqR (op_load_ptr rfl rfl rfl rfl ag31 sz31 (Nat.le_of_ble_eq_true rfl) rfl) ?_)
   refine aqP (op_eq31 (p := (l.getD i default).piece) (q := p) rfl rfl rfl) ?_; (simp only [nA, Nat.reduceBEq, Nat.reduceEqDiff, ↓reduceIte, Nat.reduceAdd, Nat.reduceSub])
   refine aqP (op_move rfl rfl) ?_
   refine' aqAnd' [_, _, _, _, _, _, _] [22,23,24,25,26,27,28] rfl rfl rfl rfl rfl rfl rfl rfl rfl rfl rfl rfl (fun hb => ?_) ?_; rotate_left
   ·
    (try simp only [hcS] at hb)
    refine aqP (op_move rfl rfl) ?_
    refine aqP (op_move rfl rfl) ?_
    refine aqP (op_ia_ro i rfl (.inl rfl) rfl Try.underlying22 rfl (get_mapD (by omega)) (by exact sz75) (Nat.le_of_ble_eq_true rfl)) ?_
    (refine aqP (op_fa_rop rfl rfl fl75_1 (by exact sz73) (by decide) (Nat.le_of_ble_eq_true rfl) rfl) ?_)
    (refine aqR (op_load_rop rfl rfl ag73 sz73 (Nat.le_of_ble_eq_true rfl) (by decide) rfl) ?_)
    (refine aqR (op_load_ptr rfl rfl rfl rfl ag73 sz73 (Nat.le_of_ble_eq_true rfl) rfl) ?_)
    refine aqP (op_eq73 (p := (l.getD i default).flight) (q := f) rfl rfl rfl) ?_; (simp only [nA, Nat.reduceBEq, Nat.reduceEqDiff, ↓reduceIte, Nat.reduceAdd, Nat.reduceSub])
    (refine aqSeg rfl rfl rfl ?_; repeat (first | exact fun _ _ => rfl | refine upd_out rfl ?_))
   (simp only [nA, Nat.reduceBEq, Nat.reduceEqDiff, ↓reduceIte, Nat.reduceAdd, Nat.reduceSub])
   refine AQ.nil ?_
   (refine hK _ ?_; clear hK K; (skip))
   refine AW.cond rfl rfl rfl (fun hc => ?_) (fun hc => ?_)
   ·
    have hc2 := hc; skip
    (refine AW.seq_k ?_; intro K hK)
    refine AW.region ?_
    refine awP (op_assign rfl rfl) ?_
    refine AWL.nil ?_
    (refine hK _ ?_; clear hK K; (simp only [nA, Nat.reduceBEq, Nat.reduceEqDiff, ↓reduceIte, Nat.reduceAdd, Nat.reduceSub]))
    skip
    refine AW.ret ?_; (simp only [thenE, inBlk, Nat.reduceEqDiff, ↓reduceIte]); rw [show grantedB l p f = true by unfold grantedB; rw [idx_yes hlt hi.2 (grt_c hc2), decide_eq_true (by omega)]]; exact RQ.of0 rfl (.tmp (Nat.le_of_ble_eq_true rfl) rfl rfl .nil)
   ·
    have hc2 := hc; skip
    refine AW.skip ?_
    (simp only [thenE, inBlk, Nat.reduceEqDiff, ↓reduceIte])
    (refine hK _ ?_; clear hK K; (skip))
    refine AW.region ?_
    refine awP (op_move rfl rfl) ?_
    (refine awP (op_addi rfl rfl rfl (by omega)) ?_)
    refine awP (op_assign rfl rfl) ?_
    skip
    refine AWL.nil ?_
    refine ⟨i + 1, ⟨by omega, all_f_step hi.2 (grt_c hc2)⟩, by omega, ⟨rfl, rfl, rfl, rfl, trivial⟩, (by rfl), (by rfl)⟩
  ·
   have hc1 := hc; have hnl : ¬ i < l.length := (by simpa using hc1)
   refine AW.exit ?_; (simp only [thenE, inBlk, Nat.reduceEqDiff, ↓reduceIte])
   clear hK K
   (refine hK _ ?_; clear hK K; (skip))
   (refine AW.seq_k ?_; intro K hK)
   refine AW.region ?_
   refine awP (op_assign rfl rfl) ?_
   refine AWL.nil ?_
   (refine hK _ ?_; clear hK K; (simp only [nA, Nat.reduceBEq, Nat.reduceEqDiff, ↓reduceIte, Nat.reduceAdd, Nat.reduceSub]))
   skip
   refine AW.ret ?_; rw [show grantedB l p f = false by unfold grantedB; rw [idx_no hnl hi.2]; decide]; exact RQ.of0 rfl (.tmp (Nat.le_of_ble_eq_true rfl) rfl rfl .nil)
def headNeH (a b : Hand) : Bool := (((((!decide (a.number = b.number) || !decide (a.next = b.next)) || !decide (a.last = b.last)) || !decide (a.offline = b.offline)) || !decide ((a.grants.length : Int) = b.grants.length)) || !listEq sameC a.conts b.conts) || !listEq opEq a.log b.log
def sameH (a b : Hand) : Bool := !headNeH a b && (List.range a.grants.length).all fun i => grEq (a.grants.getD i default) (b.grants.getD i default)
end Go.Proofs.Ytdnofpggdddimaa
namespace Go.Proofs.Ytdnofpggdddimaa
open Go.RowKit
set_option linter.unusedSimpArgs false
set_option linter.unusedVariables false
set_option maxRecDepth 100000
theorem ne_of_len {n : Nat} {es : List (List AV)} (h : ∀ x ∈ es, x.length = n + 1) : ∀ r ∈ es, r ≠ [] := fun r hr e => by
  have := h r hr; rw [e] at this; cases this
theorem gav_len (l : List Grant) : ∀ x ∈ l.map Grant.av, x.length = 9 := fun x hx => by obtain ⟨g, _, rfl⟩ := List.mem_map.1 hx; rfl
theorem opv_len (l : List Op) : ∀ x ∈ l.map Op.av, x.length = 10 := fun x hx => by obtain ⟨g, _, rfl⟩ := List.mem_map.1 hx; rfl
theorem gav_flat (l : List Grant) : ∀ r ∈ l.map Grant.av, ∀ c ∈ r, flatA c = true := fun r hr c hc => by
  obtain ⟨g, _, rfl⟩ := List.mem_map.1 hr
  simp only [Grant.av, List.mem_cons, List.not_mem_nil, or_false] at hc
  rcases hc with rfl | rfl | rfl | rfl | rfl | rfl | rfl | rfl | rfl <;> rfl
theorem opv_flat (l : List Op) : ∀ r ∈ l.map Op.av, ∀ c ∈ r, flatA c = true := fun r hr c hc => by
  obtain ⟨g, _, rfl⟩ := List.mem_map.1 hr
  simp only [Op.av, List.mem_cons, List.not_mem_nil, or_false] at hc
  rcases hc with rfl | rfl | rfl | rfl | rfl | rfl | rfl | rfl | rfl | rfl <;> rfl
theorem conv_flat (l : List Container) : ∀ r ∈ l.map Container.av, ∀ c ∈ r, flatA c = true := fun r hr c hc => by
  obtain ⟨g, _, rfl⟩ := List.mem_map.1 hr
  simp only [Container.av, List.mem_cons, List.not_mem_nil, or_false] at hc
  rcases hc with rfl | rfl | rfl | rfl | rfl | rfl | rfl | rfl | rfl | rfl | rfl <;> rfl
theorem C65 {l : List Grant} (hl : l.length ≤ 1000000) : Fn Try.prog 65 [] [.ro (l.map Grant.av)] [.ro (l.map Grant.av)] [] := by
  refine Spec.body Try.func65 rfl Try.ntmps65 (by simp) rfl ?_; intro S0 own0 v0 w0
  (refine AW.seq_k ?_; intro K hK)
  refine AW.region ?_
  refine awP (op_assign rfl rfl) ?_
  refine AWL.nil ?_
  (refine hK _ ?_; clear hK K; (simp only [nA, Nat.reduceBEq, Nat.reduceEqDiff, ↓reduceIte, Nat.reduceAdd, Nat.reduceSub]))
  (refine AW.seq_k ?_; intro K hK)
  (refine AW.seq_k ?_; intro K hK)
  refine AW.region ?_
  refine awP (op_move rfl rfl) ?_
  refine awE (op_eqnil rfl rfl Try.underlying22 (ne_of_len (gav_len l))) ?_; rintro _ ⟨b, rfl, hb⟩; (simp only [nA, Nat.reduceBEq, Nat.reduceEqDiff, ↓reduceIte, Nat.reduceAdd, Nat.reduceSub])
  refine AWL.nil ?_
  (refine hK _ ?_; clear hK K; (skip))
  refine AW.cond rfl rfl rfl (fun hc => ?_) (fun hc => ?_)
  ·
   (try simp only [hcS] at hc); have hc1 := hc; obtain rfl : l = [] := (by simpa using hb (by simpa using hc))
   (refine AW.seq_k ?_; intro K hK)
   refine AW.region ?_
   refine awP (op_assign rfl rfl) ?_
   refine AWL.nil ?_
   (refine hK _ ?_; clear hK K; (simp only [nA, Nat.reduceBEq, Nat.reduceEqDiff, ↓reduceIte, Nat.reduceAdd, Nat.reduceSub]))
   refine AW.gh (Gh.nil (e := 75) 2 (Nat.le_of_ble_eq_true rfl) rfl sz75) ?_; (simp only [nA, Nat.reduceBEq, Nat.reduceEqDiff, ↓reduceIte, Nat.reduceAdd, Nat.reduceSub]); refine AW.gh (Gh.freeze 2 (Nat.le_of_ble_eq_true rfl) rfl rfl (by simp) (es' := ([] : List Grant).map Grant.av) rfl) ?_; (simp only [nA, Nat.reduceBEq, Nat.reduceEqDiff, ↓reduceIte, Nat.reduceAdd, Nat.reduceSub])
   refine AW.ret ?_; (simp only [thenE, inBlk, Nat.reduceEqDiff, ↓reduceIte]); exact RQ.of0 rfl (.tmp (Nat.le_of_ble_eq_true rfl) rfl rfl .nil)
  ·
   (try simp only [hcS] at hc); have hc1 := hc; skip
   refine AW.skip ?_
   (refine hK _ ?_; clear hK K; (skip))
   (refine AW.seq_k ?_; intro K hK)
   refine AW.region ?_
   refine awJ (op_buildSlice rfl [] [] Try.underlying22 ze75 rfl (by simp) rfl (by simp) rfl (Nat.le_of_ble_eq_true rfl) (by simp [maxLen])) ?_; (simp only [nA, Nat.reduceBEq, Nat.reduceEqDiff, ↓reduceIte, Nat.reduceAdd, Nat.reduceSub]); skip
   refine awP (op_move rfl rfl) ?_
   refine awJ (op_app rfl rfl rfl rfl rfl .ro Try.underlying22 ze75 (by decide) (gav_len _) (by simp; omega) (by decide) (List.nil_append _) rfl) ?_; (simp only [nA, Nat.reduceBEq, Nat.reduceEqDiff, ↓reduceIte, Nat.reduceAdd, Nat.reduceSub])
   refine awP (op_assign rfl rfl) ?_
   refine AWL.nil ?_
   (refine hK _ ?_; clear hK K; (simp only [nA, Nat.reduceBEq, Nat.reduceEqDiff, ↓reduceIte, Nat.reduceAdd, Nat.reduceSub]))
   refine AW.gh (Gh.freeze 2 (Nat.le_of_ble_eq_true rfl) rfl rfl (gav_flat l) (es' := l.map Grant.av) (List.take_of_length_le (by simp))) ?_; (simp only [nA, Nat.reduceBEq, Nat.reduceEqDiff, ↓reduceIte, Nat.reduceAdd, Nat.reduceSub])
   refine AW.ret ?_; exact RQ.of0 rfl (.tmp (Nat.le_of_ble_eq_true rfl) rfl rfl .nil)
theorem C69 {l : List Op} (hl : l.length ≤ 1000000) : Fn Try.prog 69 [] [.ro (l.map Op.av)] [.ro (l.map Op.av)] [] := by
  refine Spec.body Try.func69 rfl Try.ntmps69 (by simp) rfl ?_; intro S0 own0 v0 w0
  (refine AW.seq_k ?_; intro K hK)
  refine AW.region ?_
  refine awP (op_assign rfl rfl) ?_
  refine AWL.nil ?_
  (refine hK _ ?_; clear hK K; (simp only [nA, Nat.reduceBEq, Nat.reduceEqDiff, ↓reduceIte, Nat.reduceAdd, Nat.reduceSub]))
  (refine AW.seq_k ?_; intro K hK)
  (refine AW.seq_k ?_; intro K hK)
  refine AW.region ?_
  refine awP (op_move rfl rfl) ?_
  refine awE (op_eqnil rfl rfl Try.underlying24 (ne_of_len (opv_len l))) ?_; rintro _ ⟨b, rfl, hb⟩; (simp only [nA, Nat.reduceBEq, Nat.reduceEqDiff, ↓reduceIte, Nat.reduceAdd, Nat.reduceSub])
  refine AWL.nil ?_
  (refine hK _ ?_; clear hK K; (skip))
  refine AW.cond rfl rfl rfl (fun hc => ?_) (fun hc => ?_)
  ·
   (try simp only [hcS] at hc); have hc1 := hc; obtain rfl : l = [] := (by simpa using hb (by simpa using hc))
   (refine AW.seq_k ?_; intro K hK)
   refine AW.region ?_
   refine awP (op_assign rfl rfl) ?_
   refine AWL.nil ?_
   (refine hK _ ?_; clear hK K; (simp only [nA, Nat.reduceBEq, Nat.reduceEqDiff, ↓reduceIte, Nat.reduceAdd, Nat.reduceSub]))
   refine AW.gh (Gh.nil (e := 33) 2 (Nat.le_of_ble_eq_true rfl) rfl sz33) ?_; (simp only [nA, Nat.reduceBEq, Nat.reduceEqDiff, ↓reduceIte, Nat.reduceAdd, Nat.reduceSub]); refine AW.gh (Gh.freeze 2 (Nat.le_of_ble_eq_true rfl) rfl rfl (by simp) (es' := ([] : List Op).map Op.av) rfl) ?_; (simp only [nA, Nat.reduceBEq, Nat.reduceEqDiff, ↓reduceIte, Nat.reduceAdd, Nat.reduceSub])
   refine AW.ret ?_; (simp only [thenE, inBlk, Nat.reduceEqDiff, ↓reduceIte]); exact RQ.of0 rfl (.tmp (Nat.le_of_ble_eq_true rfl) rfl rfl .nil)
  ·
   (try simp only [hcS] at hc); have hc1 := hc; skip
   refine AW.skip ?_
   (refine hK _ ?_; clear hK K; (skip))
   (refine AW.seq_k ?_; intro K hK)
   refine AW.region ?_
   refine awJ (op_buildSlice rfl [] [] Try.underlying24 ze33 rfl (by simp) rfl (by simp) rfl (Nat.le_of_ble_eq_true rfl) (by simp [maxLen])) ?_; (simp only [nA, Nat.reduceBEq, Nat.reduceEqDiff, ↓reduceIte, Nat.reduceAdd, Nat.reduceSub]); skip
   refine awP (op_move rfl rfl) ?_
   refine awJ (op_app rfl rfl rfl rfl rfl .ro Try.underlying24 ze33 (by decide) (opv_len _) (by simp; omega) (by decide) (List.nil_append _) rfl) ?_; (simp only [nA, Nat.reduceBEq, Nat.reduceEqDiff, ↓reduceIte, Nat.reduceAdd, Nat.reduceSub])
   refine awP (op_assign rfl rfl) ?_
   refine AWL.nil ?_
   (refine hK _ ?_; clear hK K; (simp only [nA, Nat.reduceBEq, Nat.reduceEqDiff, ↓reduceIte, Nat.reduceAdd, Nat.reduceSub]))
   refine AW.gh (Gh.freeze 2 (Nat.le_of_ble_eq_true rfl) rfl rfl (opv_flat l) (es' := l.map Op.av) (List.take_of_length_le (by simp))) ?_; (simp only [nA, Nat.reduceBEq, Nat.reduceEqDiff, ↓reduceIte, Nat.reduceAdd, Nat.reduceSub])
   refine AW.ret ?_; exact RQ.of0 rfl (.tmp (Nat.le_of_ble_eq_true rfl) rfl rfl .nil)
theorem conv_len (l : List Container) : ∀ x ∈ l.map Container.av, x.length = 11 := fun x hx => by obtain ⟨g, _, rfl⟩ := List.mem_map.1 hx; rfl
theorem C84 {l : List Container} (hl : l.length ≤ 1000000) : Fn Try.prog 84 [] [.ro (l.map Container.av)] [.own 77 (l.map Container.av)] [] := by
  refine Spec.body Try.func84 rfl Try.ntmps84 (by simp) rfl ?_; intro S0 own0 v0 w0
  (refine AW.seq_k ?_; intro K hK)
  refine AW.region ?_
  refine awP (op_assign rfl rfl) ?_
  refine AWL.nil ?_
  (refine hK _ ?_; clear hK K; (simp only [nA, Nat.reduceBEq, Nat.reduceEqDiff, ↓reduceIte, Nat.reduceAdd, Nat.reduceSub]))
  (refine AW.seq_k ?_; intro K hK)
  (refine AW.seq_k ?_; intro K hK)
  refine AW.region ?_
  refine awP (op_move rfl rfl) ?_
  refine awE (op_eqnil rfl rfl Try.underlying23 (ne_of_len (conv_len l))) ?_; rintro _ ⟨b, rfl, hb⟩; (simp only [nA, Nat.reduceBEq, Nat.reduceEqDiff, ↓reduceIte, Nat.reduceAdd, Nat.reduceSub])
  refine AWL.nil ?_
  (refine hK _ ?_; clear hK K; (skip))
  refine AW.cond rfl rfl rfl (fun hc => ?_) (fun hc => ?_)
  ·
   (try simp only [hcS] at hc); have hc1 := hc; obtain rfl : l = [] := (by simpa using hb (by simpa using hc))
   (refine AW.seq_k ?_; intro K hK)
   refine AW.region ?_
   refine awP (op_assign rfl rfl) ?_
   refine AWL.nil ?_
   (refine hK _ ?_; clear hK K; (simp only [nA, Nat.reduceBEq, Nat.reduceEqDiff, ↓reduceIte, Nat.reduceAdd, Nat.reduceSub]))
   refine AW.gh (Gh.nil (e := 77) 2 (Nat.le_of_ble_eq_true rfl) rfl sz77) ?_; (simp only [nA, Nat.reduceBEq, Nat.reduceEqDiff, ↓reduceIte, Nat.reduceAdd, Nat.reduceSub])
   refine AW.ret ?_; (simp only [thenE, inBlk, Nat.reduceEqDiff, ↓reduceIte]); exact RQ.of0 rfl (.own (Nat.le_of_ble_eq_true rfl) rfl rfl rfl (by simp) .nil)
  ·
   (try simp only [hcS] at hc); have hc1 := hc; skip
   refine AW.skip ?_
   (refine hK _ ?_; clear hK K; (skip))
   (refine AW.seq_k ?_; intro K hK)
   refine AW.region ?_
   refine awJ (op_buildSlice rfl [] [] Try.underlying23 ze77 rfl (by simp) rfl (by simp) rfl (Nat.le_of_ble_eq_true rfl) (by simp [maxLen])) ?_; (simp only [nA, Nat.reduceBEq, Nat.reduceEqDiff, ↓reduceIte, Nat.reduceAdd, Nat.reduceSub]); skip
   refine awP (op_move rfl rfl) ?_
   refine awJ (op_app rfl rfl rfl rfl rfl .ro Try.underlying23 ze77 (by decide) (conv_len _) (by simp; omega) (by decide) (List.nil_append _) rfl) ?_; (simp only [nA, Nat.reduceBEq, Nat.reduceEqDiff, ↓reduceIte, Nat.reduceAdd, Nat.reduceSub])
   refine awP (op_assign rfl rfl) ?_
   refine AWL.nil ?_
   (refine hK _ ?_; clear hK K; (simp only [nA, Nat.reduceBEq, Nat.reduceEqDiff, ↓reduceIte, Nat.reduceAdd, Nat.reduceSub]))
   skip
   refine AW.ret ?_; exact RQ.of0 rfl (.own (Nat.le_of_ble_eq_true rfl) rfl rfl (by simp) (by simp) .nil)
end Go.Proofs.Ytdnofpggdddimaa
namespace Go.Proofs.Ytdnofpggdddimaa
open Go.RowKit
set_option linter.unusedSimpArgs false
set_option linter.unusedVariables false
set_option maxRecDepth 100000
def bareC (c : Container) : Container := { c with pieces := [] }
abbrev midB (l : List Container) (i : Nat) : List (List AV) := (l.take i).map (fun c => (bareC c).av) ++ (l.drop i).map Container.av
theorem bare_map (l : List Container) : l.map (fun c => (bareC c).av) = (l.map bareC).map Container.av := by rw [List.map_map]; rfl
theorem midB_get {l : List Container} {i : Nat} {c : Container} (h : l[i]? = some c) : (midB l i)[i]? = some c.av := by
  have hi := (List.getElem?_eq_some_iff.1 h).1
  unfold midB
  rw [List.getElem?_append_right (by simp; omega)]
  have : i - ((l.take i).map (fun c => (bareC c).av)).length = 0 := by simp; omega
  rw [this, drop_cons h]; rfl
abbrev nilC (c : Container) : List AV := c.av.set 10 (.v (.slice none 0 0))
theorem midB_set {l : List Container} {i : Nat} {c : Container} (h : l[i]? = some c) (r : List AV) : (midB l i).set i r = (l.take i).map (fun c => (bareC c).av) ++ r :: (l.drop (i + 1)).map Container.av := by
  have hi := (List.getElem?_eq_some_iff.1 h).1
  unfold midB
  rw [List.set_append_right _ _ (by simp; omega)]
  have : i - ((l.take i).map (fun c => (bareC c).av)).length = 0 := by simp; omega
  rw [this, drop_cons h]; rfl
theorem midB_at {l : List Container} {i : Nat} {c : Container} (h : l[i]? = some c) (r : List AV) : ((l.take i).map (fun c => (bareC c).av) ++ r :: (l.drop (i + 1)).map Container.av)[i]? = some r := by
  have hi := (List.getElem?_eq_some_iff.1 h).1
  rw [List.getElem?_append_right (by simp; omega)]
  have : i - ((l.take i).map (fun c => (bareC c).av)).length = 0 := by simp; omega
  rw [this]; rfl
theorem midB_end {l : List Container} {i : Nat} {c : Container} (h : l[i]? = some c) : ((l.take i).map (fun c => (bareC c).av) ++ nilC c :: (l.drop (i + 1)).map Container.av).set i ((nilC c).set 10 (.ro [])) = midB l (i + 1) := by
  have hi := (List.getElem?_eq_some_iff.1 h).1
  rw [List.set_append_right _ _ (by simp; omega)]
  have : i - ((l.take i).map (fun c => (bareC c).av)).length = 0 := by simp; omega
  unfold midB
  rw [this, List.take_add_one, h, List.map_append, List.append_assoc]
  rfl
theorem C66 {l : List Container} (hl : l.length ≤ 1000000) : Fn Try.prog 66 [] [.ro (l.map Container.av)] [.ro ((l.map bareC).map Container.av)] [] := by
  refine Spec.body Try.func66 rfl Try.ntmps66 (by simp) rfl ?_; intro S0 own0 v0 w0
  (refine AW.seq_k ?_; intro K hK)
  refine AW.region ?_
  refine awP (op_assign rfl rfl) ?_
  refine AWL.nil ?_
  (refine hK _ ?_; clear hK K; (simp only [nA, Nat.reduceBEq, Nat.reduceEqDiff, ↓reduceIte, Nat.reduceAdd, Nat.reduceSub]))
  (refine AW.seq_k ?_; intro K hK)
  refine AW.region ?_
  refine awP (op_move rfl rfl) ?_
  refine awJ (op_call (b := false) rfl en84 (C84 (l := l) hl) (RL.cons (by exact View.same rfl) (RL.nil)) rfl (fun h => by cases h) rfl rfl) ?_; (simp only [nA, Nat.reduceBEq, Nat.reduceEqDiff, ↓reduceIte, Nat.reduceAdd, Nat.reduceSub])
  refine awP (op_assign rfl rfl) ?_
  refine AWL.nil ?_
  (refine hK _ ?_; clear hK K; (simp only [nA, Nat.reduceBEq, Nat.reduceEqDiff, ↓reduceIte, Nat.reduceAdd, Nat.reduceSub]))
  (refine AW.seq_k ?_; intro K hK)
  (refine AW.seq_k ?_; intro K hK)
  refine AW.region ?_
  refine awP (op_move rfl rfl) ?_
  (refine awP (op_len_sl rfl rfl rfl Try.underlying23) ?_)
  refine awP (op_move rfl rfl) ?_
  refine AWL.nil ?_
  (refine hK _ ?_; clear hK K; (simp only [nA, Nat.reduceBEq, Nat.reduceEqDiff, ↓reduceIte, Nat.reduceAdd, Nat.reduceSub]))
  refine AW.block ?_
  refine AW.loopI (fun (i : Nat) => [(3, .sl 0 1 0 l.length), (8, .v (.int .i64 (l.length : Nat))), (9, .v (.int .i64 (i : Nat)))]) (fun i => ⟨[(1, .own 77 (midB l i))], 2⟩) (fun i => i ≤ l.length) (fun i => l.length - i) 0 (by simp) ⟨rfl, rfl, rfl, trivial⟩ (by simp [midB]) ?_; intro i ρ hi; simp only [updL]
  (refine AW.seq_k ?_; intro K hK)
  refine AW.region ?_
  refine awP (op_lss rfl rfl rfl) ?_
  refine AWL.nil ?_
  (refine hK _ ?_; clear hK K; (simp only [nA, Nat.reduceBEq, Nat.reduceEqDiff, ↓reduceIte, Nat.reduceAdd, Nat.reduceSub]))
  (refine AW.seq_k ?_; intro K hK)
  refine AW.cond rfl rfl rfl (fun hc => ?_) (fun hc => ?_)
  ·
   (try simp only [hcS] at hc); have hc1 := hc; have hlt : i < l.length := (by simpa using hc1); obtain ⟨c, hci⟩ : ∃ c, l[i]? = some c := ⟨l[i], List.getElem?_eq_getElem hlt⟩
   refine AW.skip ?_
   (refine hK _ ?_; clear hK K; (skip))
   (refine AW.seq_k ?_; intro K hK)
   refine AW.block ?_
   (refine AW.seq_k ?_; intro K hK)
   refine AW.region ?_
   refine awP (op_move rfl rfl) ?_
   refine awP (op_assign rfl rfl) ?_
   refine AWL.nil ?_
   (refine hK _ ?_; clear hK K; (simp only [nA, Nat.reduceBEq, Nat.reduceEqDiff, ↓reduceIte, Nat.reduceAdd, Nat.reduceSub]))
   refine AW.region ?_
   refine awP (op_move rfl rfl) ?_
   refine awP (op_move rfl rfl) ?_
   refine awP (op_ia_sl i 11 rfl rfl rfl rfl Try.underlying23 rfl hlt (by exact sz77) (Nat.zero_add _)) ?_
   (refine awP (op_fa_ptr rfl rfl rfl fl77_7 (by exact sz53) (by decide) rfl) ?_)
   refine awJ (op_store (r := 0) rfl rfl rfl rfl (midB_get hci) rfl sz53 rfl (Nat.le_of_ble_eq_true rfl) (by exact midB_set hci (nilC c))) ?_; (simp only [nA, Nat.reduceBEq, Nat.reduceEqDiff, ↓reduceIte, Nat.reduceAdd, Nat.reduceSub])
   refine AWL.nil ?_
   (simp only [thenE, inBlk, Nat.reduceEqDiff, ↓reduceIte])
   (refine hK _ ?_; clear hK K; (skip))
   refine AW.region ?_
   (refine awP (op_addi rfl rfl rfl (by omega)) ?_)
   refine awP (op_move rfl rfl) ?_
   refine AWL.gh (Gh.cell0 (r := 0) (A := none) (c := 0) i 10 rfl (midB_at hci (nilC c)) rfl (by decide) (midB_end hci)) ?_; (simp only [nA, Nat.reduceBEq, Nat.reduceEqDiff, ↓reduceIte, Nat.reduceAdd, Nat.reduceSub])
   refine AWL.nil ?_
   refine ⟨i + 1, by omega, by omega, ⟨rfl, rfl, rfl, trivial⟩, (by rfl), (by rfl)⟩
  ·
   (try simp only [hcS] at hc); have hc1 := hc; obtain rfl : i = l.length := (by simp at hc1; omega); simp only [midB, List.take_length, List.drop_length, List.map_nil, List.append_nil]
   refine AW.exit ?_; (simp only [thenE, inBlk, Nat.reduceEqDiff, ↓reduceIte])
   clear hK K
   (refine hK _ ?_; clear hK K; (skip))
   (refine AW.seq_k ?_; intro K hK)
   refine AW.region ?_
   refine awP (op_move rfl rfl) ?_
   refine awP (op_assign rfl rfl) ?_
   refine AWL.nil ?_
   (refine hK _ ?_; clear hK K; (simp only [nA, Nat.reduceBEq, Nat.reduceEqDiff, ↓reduceIte, Nat.reduceAdd, Nat.reduceSub]))
   refine AW.gh (Gh.freeze 2 (Nat.le_of_ble_eq_true rfl) rfl rfl (by rw [bare_map]; exact conv_flat _) (es' := (l.map bareC).map Container.av) (by rw [bare_map]; exact List.take_of_length_le (by simp))) ?_; (simp only [nA, Nat.reduceBEq, Nat.reduceEqDiff, ↓reduceIte, Nat.reduceAdd, Nat.reduceSub])
   refine AW.ret ?_; exact RQ.of0 rfl (.tmp (Nat.le_of_ble_eq_true rfl) rfl rfl .nil)
def copyH (h : Hand) : Hand := { h with conts := h.conts.map bareC }
theorem C60 {h : Hand} (hs : h.Sm) : Fn Try.prog 60 [] [.agg h.av] [.agg (copyH h).av] [] := by
  refine Spec.body Try.func60 rfl Try.ntmps60 (by simp) rfl ?_; intro S0 own0 v0 w0
  (refine AW.seq_k ?_; intro K hK)
  refine AW.region ?_
  refine awJ (op_box rfl rfl rfl sz26 rfl) ?_; (simp only [nA, Nat.reduceBEq, Nat.reduceEqDiff, ↓reduceIte, Nat.reduceAdd, Nat.reduceSub])
  refine awJ (op_alloc rfl ze26 rfl) ?_; (simp only [nA, Nat.reduceBEq, Nat.reduceEqDiff, ↓reduceIte, Nat.reduceAdd, Nat.reduceSub])
  refine AWL.nil ?_
  (refine hK _ ?_; clear hK K; (simp only [nA, Nat.reduceBEq, Nat.reduceEqDiff, ↓reduceIte, Nat.reduceAdd, Nat.reduceSub]))
  (refine AW.seq_k ?_; intro K hK)
  refine AW.adk 10 (FixL [(0, 1, .own 26 [h.av])]) mix rfl ?_
  (refine akP 0 rfl (fun T' ok => op_fa_ptr rfl rfl (by exact ok.1) fl26_4 (by exact sz22) (by decide) rfl) (by exact ⟨rfl, trivial⟩) (by kernel_rfl) (by kernel_rfl) (by kernel_rfl) ?_); (simp only [nA, Nat.reduceBEq, Nat.reduceEqDiff, ↓reduceIte, Nat.reduceAdd, Nat.reduceSub])
  (refine akR 1 rfl (fun T' ok => op_load_ptr1 rfl rfl (by exact ok.1) rfl ag22 rfl rfl) (by exact ⟨rfl, trivial⟩) (by kernel_rfl) (by kernel_rfl) (by kernel_rfl) ?_); (simp only [nA, Nat.reduceBEq, Nat.reduceEqDiff, ↓reduceIte, Nat.reduceAdd, Nat.reduceSub])
  (refine akP 3 rfl (fun T' ok => op_fa_ptr rfl rfl (by exact ok.1) fl26_5 (by exact sz23) (by decide) rfl) (by exact ⟨rfl, trivial⟩) (by kernel_rfl) (by kernel_rfl) (by kernel_rfl) ?_); (simp only [nA, Nat.reduceBEq, Nat.reduceEqDiff, ↓reduceIte, Nat.reduceAdd, Nat.reduceSub])
  (refine akR 4 rfl (fun T' ok => op_load_ptr1 rfl rfl (by exact ok.1) rfl ag23 rfl rfl) (by exact ⟨rfl, trivial⟩) (by kernel_rfl) (by kernel_rfl) (by kernel_rfl) ?_); (simp only [nA, Nat.reduceBEq, Nat.reduceEqDiff, ↓reduceIte, Nat.reduceAdd, Nat.reduceSub])
  (refine akP 6 rfl (fun T' ok => op_fa_ptr rfl rfl (by exact ok.1) fl26_6 (by exact sz24) (by decide) rfl) (by exact ⟨rfl, trivial⟩) (by kernel_rfl) (by kernel_rfl) (by kernel_rfl) ?_); (simp only [nA, Nat.reduceBEq, Nat.reduceEqDiff, ↓reduceIte, Nat.reduceAdd, Nat.reduceSub])
  (refine akR 7 rfl (fun T' ok => op_load_ptr1 rfl rfl (by exact ok.1) rfl ag24 rfl rfl) (by exact ⟨rfl, trivial⟩) (by kernel_rfl) (by kernel_rfl) (by kernel_rfl) ?_); (simp only [nA, Nat.reduceBEq, Nat.reduceEqDiff, ↓reduceIte, Nat.reduceAdd, Nat.reduceSub])
  refine akF 2 rfl (fun T' ok => op_callS rfl en65 (C65 (l := h.grants) (by have := hs.g; omega)) (RL.cons (by exact View.same rfl) (RL.nil)) rfl rfl rfl) (by exact ⟨rfl, trivial⟩) (by kernel_rfl) (by kernel_rfl) (by kernel_rfl) ?_; (simp only [nA, Nat.reduceBEq, Nat.reduceEqDiff, ↓reduceIte, Nat.reduceAdd, Nat.reduceSub])
  (refine akP 9 rfl (fun T' ok => op_fa_ptr rfl rfl (by exact ok.1) fl26_4 (by exact sz22) (by decide) rfl) (by exact ⟨rfl, trivial⟩) (by kernel_rfl) (by kernel_rfl) (by kernel_rfl) ?_); (simp only [nA, Nat.reduceBEq, Nat.reduceEqDiff, ↓reduceIte, Nat.reduceAdd, Nat.reduceSub])
  refine akF 5 rfl (fun T' ok => op_callS rfl en66 (C66 (l := h.conts) (by have := hs.c; omega)) (RL.cons (by exact View.same rfl) (RL.nil)) rfl rfl rfl) (by exact ⟨rfl, trivial⟩) (by kernel_rfl) (by kernel_rfl) (by kernel_rfl) ?_; (simp only [nA, Nat.reduceBEq, Nat.reduceEqDiff, ↓reduceIte, Nat.reduceAdd, Nat.reduceSub])
  refine akF 8 rfl (fun T' ok => op_callS rfl en69 (C69 (l := h.log) (by have := hs.l; omega)) (RL.cons (by exact View.same rfl) (RL.nil)) rfl rfl rfl) (by exact ⟨rfl, trivial⟩) (by kernel_rfl) (by kernel_rfl) (by kernel_rfl) ?_; (simp only [nA, Nat.reduceBEq, Nat.reduceEqDiff, ↓reduceIte, Nat.reduceAdd, Nat.reduceSub])
  refine akL 10 rfl (op_store rfl rfl rfl rfl rfl rfl sz22 rfl (Nat.le_of_ble_eq_true rfl) rfl) (by kernel_rfl) (by decide) ?_; (simp only [nA, Nat.reduceBEq, Nat.reduceEqDiff, ↓reduceIte, Nat.reduceAdd, Nat.reduceSub])
  (refine akL 11 rfl (OpP.j (op_fa_ptr rfl rfl rfl fl26_5 (by exact sz23) (by decide) rfl)) (by kernel_rfl) (by decide) ?_); (simp only [nA, Nat.reduceBEq, Nat.reduceEqDiff, ↓reduceIte, Nat.reduceAdd, Nat.reduceSub])
  refine akL 12 rfl (op_store rfl rfl rfl rfl rfl rfl sz23 rfl (Nat.le_of_ble_eq_true rfl) rfl) (by kernel_rfl) (by decide) ?_; (simp only [nA, Nat.reduceBEq, Nat.reduceEqDiff, ↓reduceIte, Nat.reduceAdd, Nat.reduceSub])
  (refine akL 13 rfl (OpP.j (op_fa_ptr rfl rfl rfl fl26_6 (by exact sz24) (by decide) rfl)) (by kernel_rfl) (by decide) ?_); (simp only [nA, Nat.reduceBEq, Nat.reduceEqDiff, ↓reduceIte, Nat.reduceAdd, Nat.reduceSub])
  refine akL 14 rfl (op_store rfl rfl rfl rfl rfl rfl sz24 rfl (Nat.le_of_ble_eq_true rfl) rfl) (by kernel_rfl) (by decide) ?_; (simp only [nA, Nat.reduceBEq, Nat.reduceEqDiff, ↓reduceIte, Nat.reduceAdd, Nat.reduceSub])
  refine akDone (by kernel_rfl) ?_
  (refine hK _ ?_; clear hK K; (skip))
  (refine AW.seq_k ?_; intro K hK)
  refine AW.region ?_
  (refine awR (op_load_ptr rfl rfl rfl rfl ag26 sz26 (Nat.le_of_ble_eq_true rfl) rfl) ?_)
  refine awJ (op_store rfl rfl rfl rfl rfl rfl sz26 rfl (Nat.le_of_ble_eq_true rfl) rfl) ?_; (simp only [nA, Nat.reduceBEq, Nat.reduceEqDiff, ↓reduceIte, Nat.reduceAdd, Nat.reduceSub])
  refine AWL.nil ?_
  (refine hK _ ?_; clear hK K; (skip))
  skip
  refine AW.ret ?_; exact RQ.of0 rfl (.cell (Nat.le_of_ble_eq_true rfl) rfl rfl rfl ag26 sz26 (Nat.le_of_ble_eq_true rfl) rfl rfl .nil)
end Go.Proofs.Ytdnofpggdddimaa
namespace Go.Proofs.Ytdnofpggdddimaa
open Go.RowKit
set_option linter.unusedSimpArgs false
set_option linter.unusedVariables false
set_option maxRecDepth 100000
open Go.Shelf
attribute [local go_sem] Oper.semAt_some
theorem C77 {l : List Op} : Fn Try.prog 77 [] [.ro (l.map Op.av)] [.clo 90 [.rop [.ro (l.map Op.av)]]] [] := by
  refine Spec.body Try.func77 rfl Try.ntmps77 (by simp) rfl ?_; intro S0 own0 v0 w0
  (refine AW.seq_k ?_; intro K hK)
  refine AW.region ?_
  refine awJ (OpJ.frzP (op_box rfl rfl rfl sz24 rfl) (row := [.ro (l.map Op.av)]) (fun c hc => by rw [List.mem_singleton.1 hc]; rfl)) ?_; (simp only [nA, Nat.reduceBEq, Nat.reduceEqDiff, ↓reduceIte, Nat.reduceAdd, Nat.reduceSub])
  refine awP (op_assign rfl rfl) ?_
  refine AWL.nil ?_
  (refine hK _ ?_; clear hK K; (simp only [nA, Nat.reduceBEq, Nat.reduceEqDiff, ↓reduceIte, Nat.reduceAdd, Nat.reduceSub]))
  (refine AW.seq_k ?_; intro K hK)
  refine AW.region ?_
  refine awP (op_makeFunc rfl rfl rfl) ?_
  refine awP (op_assign rfl rfl) ?_
  refine AWL.nil ?_
  (refine hK _ ?_; clear hK K; (simp only [nA, Nat.reduceBEq, Nat.reduceEqDiff, ↓reduceIte, Nat.reduceAdd, Nat.reduceSub]))
  skip
  refine AW.ret ?_; exact RQ.of0 rfl (.tmp (Nat.le_of_ble_eq_true rfl) rfl rfl .nil)
def uptoL {α : Type} (f : Nat → α) (k : Nat) : List α := (List.range k).map f
theorem uptoL_succ {α : Type} (f : Nat → α) (k : Nat) : uptoL f (k + 1) = uptoL f k ++ [f k] := by simp [uptoL, List.range_succ]
theorem uptoL_length {α : Type} (f : Nat → α) (k : Nat) : (uptoL f k).length = k := by simp [uptoL]
def bkw (xs : List Op) (j : Nat) : Int × Op := ((xs.length : Int) - 1 - j, xs.getD (xs.length - 1 - j) default)
abbrev bkv (x : Int × Op) : Array Value := #[.int .i64 x.1, .agg x.2.vs.toArray]
/-- The elements lie in blocks that nobody turns. -/
def LiesAt (n₀ : Nat) (W : World) (A : Option Addr) (xs : List Op) : Prop := ∀ j, j < xs.length → ∃ b o, A = some ⟨b, o, none⟩ ∧ b < n₀ ∧ ∀ (q : Nat) (u : Value), (xs.getD j default).vs[q]? = some u → W.cell? ⟨b, o + (j * 10 + q), none⟩ = some u
theorem LiesAt.below {n₀ : Nat} {W W' : World} {A : Option Addr} {xs : List Op} (h : LiesAt n₀ W A xs) (hb : Below n₀ W W') : LiesAt n₀ W' A xs := fun j hj => by
  obtain ⟨b, o, e, h1, h2⟩ := h j hj
  exact ⟨b, o, e, h1, fun q u hu => (hb.cell (p := ⟨b, o + (j * 10 + q), none⟩) h1).trans (h2 q u hu)⟩
set_option maxHeartbeats 2000000 in
theorem C90in (F : Fence) (n : Nat) (h90 : F.fn 90) (hro : F.round = none) (hn : 1 ≤ n) (l Bs Bo n₀ c : Nat) (A : Option Addr) (xs : List Op) (hlen : xs.length ≤ 1000) (hBn : Bs < n₀) (J Jx : List (Int × Op) → World → Prop)
    (hY : ∀ pre x W, J pre W → pre.length < xs.length → YieldAt F (n - 1) Try.prog l (bkv x) W fun e W' =>
      (e = .returned (.bool true) ∧ J (pre ++ [x]) W' ∧ Below n₀ W W') ∨ (e = .returned (.bool false) ∧ Jx (pre ++ [x]) W'))
    (W : World) (hBs : W.cell? ⟨Bs, Bo, none⟩ = some (.slice A xs.length c)) (hL : LiesAt n₀ W A xs) (h0 : J [] W) :
    CallsIn F n Try.prog 90 #[.func (.yield l) #[] #[], .pointer (some ⟨Bs, Bo, none⟩)] W fun e W' => (∃ v, e = .returned v) ∧
      ((∃ ys, ys = uptoL (bkw xs) xs.length ∧ J ys W') ∨ (∃ pre, (∃ k, k ≤ xs.length ∧ pre = uptoL (bkw xs) k) ∧ Jx pre W')) := by
  refine callsIn_of_wp Try.func90 rfl h90 ?_ hro
  simp only [Try.ntmps90, List.size_toArray, List.length_cons, List.length_nil, Nat.reduceAdd, Nat.reduceSub, Array.replicate_succ, Array.replicate_zero, List.push_toArray, List.append_toArray, List.nil_append, List.cons_append]
  gi_wp2
  gi_loopw [3] (fun i wr => ∃ k : Nat, k ≤ xs.length ∧ i = .int .i64 ((xs.length : Int) - 1 - k) ∧ J (uptoL (bkw xs) k) wr ∧ Below n₀ W wr)
    (fun i _ => (intOf i + 1).toNat)
  case atStart => exact ⟨0, Nat.zero_le _, by simp, h0, Below.refl _ _⟩
  case round =>
    obtain ⟨k, hk, rfl, hJs, hnx⟩ := hrel
    have hB2 : wr.cell? ⟨Bs, Bo, none⟩ = some (.slice A xs.length c) := (hnx.cell (p := ⟨Bs, Bo, none⟩) hBn).trans hBs
    by_cases hlt : k < xs.length
    · obtain ⟨fn, tmps, assign, body, hy, hR⟩ := hY _ (bkw xs k) wr hJs (by rw [uptoL_length]; exact hlt)
      dsimp only [bkv, bkw] at hy
      obtain ⟨b, o, rfl, hb, hc⟩ := (hL.below hnx) (xs.length - 1 - k) (by omega)
      obtain ⟨op, hop⟩ : ∃ op, xs.getD (xs.length - 1 - k) default = op := ⟨_, rfl⟩
      rw [hop] at hy hc
      have c0 : wr.cell? ⟨b, o + (xs.length - 1 - k) * 10, none⟩ = some (.int .i64 op.time) := hc 0 _ rfl
      have c1 : wr.cell? ⟨b, o + (xs.length - 1 - k) * 10 + 1, none⟩ = some (.int .i64 op.device) := hc 1 _ rfl
      have c2 : wr.cell? ⟨b, o + (xs.length - 1 - k) * 10 + 2, none⟩ = some (.int .i64 op.seq) := hc 2 _ rfl
      have c3 : wr.cell? ⟨b, o + (xs.length - 1 - k) * 10 + 3, none⟩ = some (.int .i64 op.kind) := hc 3 _ rfl
      have c4 : wr.cell? ⟨b, o + (xs.length - 1 - k) * 10 + 4, none⟩ = some (.int .i64 op.cont) := hc 4 _ rfl
      have c5 : wr.cell? ⟨b, o + (xs.length - 1 - k) * 10 + 5, none⟩ = some (.int .i64 op.piece.plate.lead) := hc 5 _ rfl
      have c6 : wr.cell? ⟨b, o + (xs.length - 1 - k) * 10 + 6, none⟩ = some (.int .i64 op.piece.plate.airline) := hc 6 _ rfl
      have c7 : wr.cell? ⟨b, o + (xs.length - 1 - k) * 10 + 7, none⟩ = some (.int .i64 op.piece.plate.serial) := hc 7 _ rfl
      have c8 : wr.cell? ⟨b, o + (xs.length - 1 - k) * 10 + 8, none⟩ = some (.int .i64 op.piece.weight) := hc 8 _ rfl
      have c9 : wr.cell? ⟨b, o + (xs.length - 1 - k) * 10 + 9, none⟩ = some (.int .i64 op.piece.category) := hc 9 _ rfl
      clear hc hop
      gi_wp2
      refine hR.mono ?_
      rintro e W3 (⟨rfl, hJ3, hk3⟩ | ⟨rfl, hJx3⟩)
      · gi_wp2
        go_roundw
        case rel => exact ⟨k + 1, by omega, by simp; omega, by rw [uptoL_succ]; exact hJ3, hnx.trans hk3⟩
        case measure => simp [intOf]; omega
      · gi_wp2
        refine bodyPost_ret (results_none rfl _ _ _) rfl ?_
        exact ⟨⟨_, rfl⟩, .inr ⟨_, ⟨k + 1, by omega, (uptoL_succ _ _).symm⟩, hJx3⟩⟩
    · obtain rfl : k = xs.length := by omega
      gi_wp2
      go_end0
      exact ⟨⟨_, rfl⟩, .inl ⟨_, rfl, hJs⟩⟩
theorem C90s (F : Fence) (n : Nat) (h90 : F.fn 90) (hro : F.round = none) (hn : 1 ≤ n) (Bs Bo n₀ c : Nat) (A : Option Addr) (xs : List Op) (hlen : xs.length ≤ 1000) (hBn : Bs < n₀) (w : World) (hw : n₀ ≤ w.heap.size) (hBs : w.cell? ⟨Bs, Bo, none⟩ = some (.slice A xs.length c)) (hL : LiesAt n₀ w A xs) :
    SeqStopsK F n Try.prog 90 #[.pointer (some ⟨Bs, Bo, none⟩)] bkv (Below n₀) (fun ys => ys = uptoL (bkw xs) xs.length) (fun pre => ∃ k, k ≤ xs.length ∧ pre = uptoL (bkw xs) k) xs.length w := fun l J Jx W hW _ _ hY h0 =>
  C90in F n h90 hro hn l Bs Bo n₀ c A xs hlen hBn J Jx hY W ((hW.cell (p := ⟨Bs, Bo, none⟩) (Nat.lt_of_lt_of_le hBn hw)).trans hBs) (hL.below (hW.mono hw)) h0
theorem rev_bkw (xs : List Op) : xs.reverse = (List.range xs.length).map fun j => (bkw xs j).2 := by
  apply List.ext_getElem
  · simp
  · intro i h1 h2
    simp only [List.length_reverse] at h1
    rw [List.getElem_reverse, List.getElem_map, List.getElem_range]
    unfold bkw
    rw [getD_of (by omega)]
theorem loaded_none {xs : List Op} {p : Plate} (h : ∀ j, j < xs.length → (bkw xs j).2.piece.plate ≠ p) : loadedB xs p = false := by
  unfold loadedB
  rw [rev_bkw, List.find?_eq_none.2]
  · rfl
  · intro x hx
    obtain ⟨j, hj, rfl⟩ := List.mem_map.1 hx
    simp [h j (List.mem_range.1 hj)]
theorem loaded_at {xs : List Op} {p : Plate} {k : Nat} (hk : k < xs.length) (h : ∀ j, j < k → (bkw xs j).2.piece.plate ≠ p) (he : (bkw xs k).2.piece.plate = p) : loadedB xs p = decide ((bkw xs k).2.kind = 1) := by
  unfold loadedB
  rw [rev_bkw, List.find?_map, (List.find?_range_eq_some (i := k)).2]
  · rfl
  · refine ⟨by simp [he], List.mem_range.2 hk, fun j hj => by simp [h j hj]⟩
theorem uptoL_snoc {α : Type} {f : Nat → α} {k : Nat} {pre : List α} {x : α} (h : pre ++ [x] = uptoL f k) : ∃ m, k = m + 1 ∧ pre = uptoL f m ∧ x = f m := by
  cases k with
  | zero => simp [uptoL] at h
  | succ m =>
    rw [uptoL_succ] at h
    have := List.append_inj' h rfl
    exact ⟨m, rfl, this.1, by simpa using this.2⟩
theorem uptoL_mem {α : Type} {f : Nat → α} {k j : Nat} (h : j < k) : f j ∈ uptoL f k := List.mem_map.2 ⟨j, List.mem_range.2 h, rfl⟩
end Go.Proofs.Ytdnofpggdddimaa
namespace Go.Proofs.Ytdnofpggdddimaa
open Go.RowKit
set_option linter.unusedSimpArgs false
set_option linter.unusedVariables false
set_option maxRecDepth 100000
open Go.Shelf
section
variable {C : Cx} {Q : Exit → Act → World → Prop} {σ : Sta}
def AWR (C : Cx) (c : Code) (Q : Exit → Act → World → Prop) (σ : Sta) : Prop := ∀ a w, St C σ a w → c.wp C.P Q a w
def RawE (C : Cx) (Q : Exit → Act → World → Prop) : Exit → Sta → Prop := fun e σ => ∀ a w, St C σ a w → Q e a w
theorem AWR.seq_k {x y : Code} (h : ∀ K : Sta → Prop, (∀ σ, AWR C y Q σ → K σ) → AW C x (thenE K (RawE C Q)) σ) : AWR C (.seq x y) Q σ := fun a w hs =>
  wp_seq (wp_mono (h _ (fun _ h => h) a w hs) fun e a w ⟨σ, h1, h2⟩ => by
    cases e with
    | normal => exact h2 a w h1
    | _ => exact h2 a w h1)
theorem AWR.assoc {x y : Code} (h : AWR C x (Exit.then (y.wp C.P Q) Q) σ) : AWR C (.seq x y) Q σ := fun a w hs => wp_seq (h a w hs)
theorem AWR.block {i : Nat} {c : Code} (h : AWR C c (Exit.inBlock i Q) σ) : AWR C (.block i c) Q σ := fun a w hs => wp_block (h a w hs)
theorem AWR.gh {c : Code} {σ' : Sta} (hg : Gh C σ σ') (h : AWR C c Q σ') : AWR C c Q σ := fun a w hs => h a w (hg a w hs)
end
theorem st_start {P : Program} {xs : List AV} {w : World} {S : Nat → Prop} {vals : List Value} {bss : List (List Nat)} {vs : List Value} {n : Nat} (came : Came P [] xs w S vals bss vs) (hn : xs.length ≤ n) :
    St ⟨P, S, [], [], w⟩ ⟨fun t => xs.getD t .any, ⟨[], 1⟩, n⟩ { tmps := vs.toArray ++ Array.replicate (n - vs.toArray.size) undef, defers := [] } w := by
  have hvl : vs.length = xs.length := came.args.1
  obtain rfl : vals = [] := List.eq_nil_of_length_eq_zero came.nv
  obtain rfl : bss = [] := List.eq_nil_of_length_eq_zero came.nb
  refine ⟨rfl, by simp; omega, S, [], [], ⟨Kept.refl _ _, fun _ h => h, fun _ h => .inl h, came.lt, rfl, rfl, fun r k x v bs q1 => by simp at q1, fun r bs q => by simp at q, fun r r' b1 b2 _ q => by simp at q, fun r bs q => by simp at q, fun r bs q => by simp at q, fun r x q => by simp at q, fun r k x q => by simp at q, Nat.one_pos⟩, fun t ht => ?_⟩
  by_cases hlt : t < xs.length
  · have hx := List.getElem?_eq_getElem hlt
    obtain ⟨u, hu, hr⟩ := came.args.at_ hx
    have e1 : (vs.toArray ++ Array.replicate (n - vs.toArray.size) undef).getD t undef = u := by
      have hu' : vs.toArray[t]? = some u := by simpa using hu
      rw [Array.getD_eq_getD_getElem?, Array.getElem?_append_left (by simp; omega), hu']
      rfl
    show TmpOK P S w ⟨[], 1⟩ [] ((vs.toArray ++ Array.replicate (n - vs.toArray.size) undef).getD t undef) (xs.getD t .any)
    rw [e1, List.getD_eq_getElem?_getD, hx]
    exact hr.tmp
  · show TmpOK P S w ⟨[], 1⟩ [] ((vs.toArray ++ Array.replicate (n - vs.toArray.size) undef).getD t undef) (xs.getD t .any)
    rw [List.getD_eq_getElem?_getD, List.getElem?_eq_none (by omega)]
    trivial
/-- A call that hands back a scalar and leaves all as it lay. -/
theorem went_v {P : Program} {w w' : World} {S : Nat → Prop} {x : Value} (hk : Kept (fun _ => True) w w') (hx : x.oneCell' = true) : Went P w S [] [] w' [x] [.v x] [] [[]] [] := by
  refine ⟨hk.mono fun _ _ _ => trivial, rfl, rfl, rfl, rfl, fun i u y bs h1 h2 h3 => ?_, fun r x v bs h => by simp at h, ⟨fun r bs h => ?_, fun r r' b1 b2 hne h1 h2 => ?_⟩, fun b ⟨r, bs, h1, h2⟩ => ?_⟩
  · cases i with
    | zero => simp at h1 h2 h3; subst h1; subst h2; subst h3; exact .inl (.v hx)
    | succ i => simp at h1
  · cases r with
    | zero => simp at h; subst h; exact List.nodup_nil
    | succ r => simp at h
  · cases r with
    | zero => simp at h1; subst h1; exact fun b hb => by cases hb
    | succ r => simp at h1
  · cases r with
    | zero => simp at h1; subst h1; cases h2
    | succ r => simp at h1
/-- What a box of one cell is. -/
theorem slot_box {C : Cx} {T : Sl} {S : Nat → Prop} {vals : List Value} {bss : List (List Nat)} {w : World} {u x : Value} {r k : Nat} {e : TypeId} (hm : Mem C T S vals bss w) (h0 : C.own0 = []) (hT : T.slots[r]? = some (k, .own e [[.v x]])) (hu : TmpOK C.P S w T vals u (.ptr r k 0 0)) :
    ∃ B, u = .pointer (some ⟨B, 0, none⟩) ∧ w.cell? ⟨B, 0, none⟩ = some x ∧ w.frozen? ⟨B, 0, none⟩ = false ∧ C.w0.heap.size ≤ B ∧ ¬ S B := by
  obtain ⟨v, bs, hv, hb, hrep⟩ := hm.slot hT
  obtain ⟨g, c, rfl, rfl⟩ := ptr_first hT hv hrep hu
  obtain ⟨us, sz, bss1, hbs, hi, hsz, hown, hul, hbl, hc⟩ := hrep.own_inv
  have hgb : g ∈ bs := by rw [hbs]; simp [slv, Value.ownBlock]
  rcases hown.2 with ⟨h, _⟩ | ⟨g', cap, cur, he, _, hg, h1, h2, h3, h4⟩
  · cases h
  · injection he with e1 e2 e3
    injection e1 with e1
    injection e1 with e1
    subst e1
    have hus : us.length = 1 := by rw [hul]; rfl
    obtain ⟨y, rfl⟩ : ∃ y, us = [y] := by match us, hus with | [y], _ => exact ⟨y, rfl⟩
    have hy := hc 0 y (.v x) (bss1[0]'(by rw [hbl]; exact Nat.one_pos)) rfl rfl (List.getElem?_eq_getElem _)
    have hyx := hy.v_inv.1
    subst hyx
    have hcell := hown.cells (g := g) rfl 0 y rfl
    refine ⟨g, rfl, by simpa [Addr.add] using hcell, by simp [World.frozen?, hg], ?_, hm.apart r bs hb g hgb⟩
    rcases hm.mine r bs hb g hgb with h | h
    · rw [h0] at h; cases h
    · exact h
end Go.Proofs.Ytdnofpggdddimaa
namespace Go.Proofs.Ytdnofpggdddimaa
open Go.RowKit
set_option linter.unusedSimpArgs false
set_option linter.unusedVariables false
set_option maxRecDepth 100000
open Go.Shelf
attribute [local go_sem] Oper.semAt_some
theorem pl75 : plIs Try.prog 75 [(0, 5), (5, 4)] := ⟨_, Try.underlying75, by kernel_rfl⟩
theorem pl33 : plIs Try.prog 33 [(0, 1), (1, 1), (2, 1), (3, 1), (4, 1), (5, 5)] := ⟨_, Try.underlying33, by kernel_rfl⟩
theorem pl26 : plIs Try.prog 26 [(0, 1), (1, 1), (2, 1), (3, 1), (4, 1), (5, 1), (6, 1)] := ⟨_, Try.underlying26, by kernel_rfl⟩
def loadErr (h : Hand) (p : Piece) (n : Int) : Int :=
  if idxI (fun c : Container => decide (c.number = n)) h.conts < 0 then 6
  else if grantedB h.grants p (h.conts.getD (idxI (fun c : Container => decide (c.number = n)) h.conts).toNat default).flight = false then 10
  else if loadedB h.log p.plate then 5 else 0
theorem idx_lt {α : Type} {p : α → Bool} {l : List α} (h : ¬ idxI p l < 0) : (idxI p l).toNat < l.length ∧ ((idxI p l).toNat : Int) = idxI p l := by
  unfold idxI at h ⊢
  by_cases hl : l.findIdx p < l.length
  · rw [if_pos hl] at h ⊢
    exact ⟨by omega, by omega⟩
  · rw [if_neg hl] at h; omega
/-- Between two rounds; where a round has left. -/
def ldI (B : Nat) (wl : World) (p : Plate) (pre : List (Int × Op)) (W : World) : Prop := Kept (fun k => k ≠ B) wl W ∧ W.cell? ⟨B, 0, none⟩ = some (.int .i64 0) ∧ W.frozen? ⟨B, 0, none⟩ = false ∧ ∀ x ∈ pre, x.2.piece.plate ≠ p
def ldX (B : Nat) (wl : World) (p : Plate) (c : Code) (pre : List (Int × Op)) (W : World) : Prop := Kept (fun k => k ≠ B) wl W ∧ W.frozen? ⟨B, 0, none⟩ = false ∧ ∃ pre0 x, pre = pre0 ++ [x] ∧ (∀ y ∈ pre0, y.2.piece.plate ≠ p) ∧ x.2.piece.plate = p ∧ ((c = .ret ∧ x.2.kind = 1 ∧ W.cell? ⟨B, 0, none⟩ = some (.int .i64 5)) ∨ (c = .exit 0 ∧ x.2.kind ≠ 1 ∧ W.cell? ⟨B, 0, none⟩ = some (.int .i64 0)))
theorem list42 {α : Type} (l : List α) (h : l.length = 42) : ∃ z0 z1 z2 z3 z4 z5 z6 z7 z8 z9 z10 z11 z12 z13 z14 z15 z16 z17 z18 z19 z20 z21 z22 z23 z24 z25 z26 z27 z28 z29 z30 z31 z32 z33 z34 z35 z36 z37 z38 z39 z40 z41 : α, l = [z0, z1, z2, z3, z4, z5, z6, z7, z8, z9, z10, z11, z12, z13, z14, z15, z16, z17, z18, z19, z20, z21, z22, z23, z24, z25, z26, z27, z28, z29, z30, z31, z32, z33, z34, z35, z36, z37, z38, z39, z40, z41] := by
  match l, h with
  | z0 :: z1 :: z2 :: z3 :: z4 :: z5 :: z6 :: z7 :: z8 :: z9 :: z10 :: z11 :: z12 :: z13 :: z14 :: z15 :: z16 :: z17 :: z18 :: z19 :: z20 :: z21 :: z22 :: z23 :: z24 :: z25 :: z26 :: z27 :: z28 :: z29 :: z30 :: z31 :: z32 :: z33 :: z34 :: z35 :: z36 :: z37 :: z38 :: z39 :: z40 :: z41 :: [], _ => exact ⟨z0, z1, z2, z3, z4, z5, z6, z7, z8, z9, z10, z11, z12, z13, z14, z15, z16, z17, z18, z19, z20, z21, z22, z23, z24, z25, z26, z27, z28, z29, z30, z31, z32, z33, z34, z35, z36, z37, z38, z39, z40, z41, rfl⟩
/-- The cells of a list of operations. -/
theorem ro_lies {P : Program} {S : Nat → Prop} {w : World} {A : Option Addr} {xs : List Op} {us : List Value} (hS : ∀ k, S k → k < w.heap.size) (hr : Rd S w A us) (hl : us.length = (xs.map Op.av).flatten.length) (hc : ∀ (i : Nat) (u : Value) (x : AV), us[i]? = some u → (xs.map Op.av).flatten[i]? = some x → Rep P S w [] u x) : LiesAt w.heap.size w A xs := fun j hj => by
  have hrow : (xs.map Op.av)[j]? = some (xs.getD j default).av := get_mapD hj
  have key : ∀ (q : Nat) (u : Value), (xs.getD j default).vs[q]? = some u → us[j * 10 + q]? = some u := fun q u hu => by
    have hx : (xs.getD j default).av[q]? = some (.v u) := by
      have e : (xs.getD j default).av = (xs.getD j default).vs.map AV.v := rfl
      rw [e, List.getElem?_map, hu]; rfl
    have hf := flat_at (opv_len xs) hrow hx
    have hlt : j * 10 + q < us.length := by rw [hl]; exact (List.getElem?_eq_some_iff.1 hf).1
    have := hc _ _ _ (List.getElem?_eq_getElem hlt) hf
    rw [List.getElem?_eq_getElem hlt, this.v_inv.1]
  have h0 := key 0 _ rfl
  obtain ⟨g, o, e, hSg, hcell⟩ := hr (by have := (List.getElem?_eq_some_iff.1 h0).1; omega)
  exact ⟨g, o, e, hS g hSg, fun q u hu => hcell _ _ (key q u hu)⟩
theorem load_fin {v : Int} {w W1 : World} {S : Nat → Prop} {B D : Nat} {tm : Array Value} (ht : tm.getD 6 undef = .pointer (some ⟨B, 0, none⟩)) (hk : Kept (fun _ => True) w W1) (hD : w.heap.size ≤ D) (hK : W1.heap[D]? = some (.deferred (some []))) (hc : W1.cell? ⟨B, 0, none⟩ = some (.int .i64 v)) :
    (results Try.f59 tm).run Try.prog (W1.putObj D (.deferred none)) = .ok (.int .i64 v) (W1.putObj D (.deferred none)) ∧ Went Try.prog w S [] [] (W1.putObj D (.deferred none)) [.int .i64 v] [.v (.int .i64 v)] [] [[]] [] := by
  have hcell : (W1.putObj D (.deferred none)).cell? ⟨B, 0, none⟩ = some (.int .i64 v) := cell_kept hc (grownBy_putObj' W1 D _) (fun r e => by cases e; exact ⟨_, hK, rfl⟩)
  have hl := run_loadOne (P := Try.prog) ag39 ⟨B, 0, none⟩ _ _ hcell
  refine ⟨retV_run (us := [.int .i64 v]) ?_, went_v (hk.grown (grownBy_putObj' W1 D _) fun k e => by cases e; exact .inr hD) rfl⟩
  show ([ResultVar.cell 6 39].mapM (resOf tm)).run Try.prog _ = _
  exact mapM_run (by simp only [resOf, Sem.run_bind, ht, asAddr, Sem.run_pure, Result.andThen_ok, hl]) (by simp)
theorem C59 {h : Hand} {p : Piece} {n : Int} (hs : h.Sm) : Fn Try.prog 59 [] [.agg h.av, .agg p.av, .v (.int .i64 n)] [.v (.int .i64 (loadErr h p n))] [] := by
  intro w S vals bss vs came
  have hst := st_start (n := 42) came (by simp)
  obtain rfl : vals = [] := List.eq_nil_of_length_eq_zero came.nv
  obtain rfl : bss = [] := List.eq_nil_of_length_eq_zero came.nb
  refine callsIn_wide.1 (callsIn_of_wp_marks (F := Fence.wide) (n := 5) Try.func59 rfl trivial (wpIn_wide.2 ?_) rfl)
  rw [Try.ntmps59]
  refine (?_ : AWR ⟨Try.prog, S, [], [], w⟩ _ _ _) _ _ hst
  clear hst
  have hraw : ∀ (x : Value) (σ : Sta), x = .int .i64 (loadErr h p n) → RL (ResIs Try.prog σ) Try.f59.results.toList [.v x] → RawE ⟨Try.prog, S, [], [], w⟩ (bodyPostM Fence.wide 5 Try.prog Try.f59 fun e w' => ∃ us ys outs bsr bss', e = .returned (retV us) ∧ Went Try.prog w S [] [] w' us ys outs bsr bss' ∧ ys = [.v (.int .i64 (loadErr h p n))] ∧ outs = []) .ret σ := by
    intro x σ hx hres a w' hst
    subst hx
    obtain ⟨hd, hn, S', vals', bss', hm, he⟩ := hst
    obtain ⟨us, h1, h2⟩ := res_run (C := ⟨Try.prog, S, [], [], w⟩) ⟨hd, hn, hm, he⟩ _ _ hres
    obtain ⟨u, us', rfl, hu, h'⟩ := h2.cons_inv
    obtain rfl : us' = [] := List.eq_nil_of_length_eq_zero h'.1
    have hux := (show TmpOK Try.prog S' w' σ.T vals' u (.v (.int .i64 (loadErr h p n))) from hu).v
    subst hux
    show LeavesInM _ _ _ _ _ _ a.defers .returning w'
    rw [hd]
    exact ⟨_, retV_run h1, [_], _, _, _, _, rfl, went_v (hm.kept.mono fun _ _ _ => List.not_mem_nil) rfl, rfl, rfl⟩
  (refine AWR.seq_k ?_; intro K hK)
  refine AW.region ?_
  refine awJ (op_box rfl rfl rfl sz26 rfl) ?_; (simp only [nA, Nat.reduceBEq, Nat.reduceEqDiff, ↓reduceIte, Nat.reduceAdd, Nat.reduceSub])
  refine awJ (op_box rfl rfl rfl sz31 rfl) ?_; (simp only [nA, Nat.reduceBEq, Nat.reduceEqDiff, ↓reduceIte, Nat.reduceAdd, Nat.reduceSub])
  refine awJ (OpJ.frzP (op_box rfl rfl rfl sz3 rfl) (row := [.v (.int .i64 n)]) (fun c hc => by rw [List.mem_singleton.1 hc]; rfl)) ?_; (simp only [nA, Nat.reduceBEq, Nat.reduceEqDiff, ↓reduceIte, Nat.reduceAdd, Nat.reduceSub])
  refine awJ (op_alloc rfl ze39 rfl) ?_; (simp only [nA, Nat.reduceBEq, Nat.reduceEqDiff, ↓reduceIte, Nat.reduceAdd, Nat.reduceSub])
  refine AWL.nil ?_
  (refine hK _ ?_; clear hK K; (simp only [nA, Nat.reduceBEq, Nat.reduceEqDiff, ↓reduceIte, Nat.reduceAdd, Nat.reduceSub]))
  (refine AWR.seq_k ?_; intro K hK)
  refine AW.region ?_
  (refine awP (op_fa_ptr rfl rfl rfl fl26_5 (by exact sz23) (by decide) rfl) ?_)
  (refine awR (op_load_ptr1 rfl rfl rfl rfl ag23 rfl rfl) ?_)
  refine awP (op_makeFunc rfl rfl rfl) ?_
  refine awJ (OpQ.j (op_callQ (b := true) rfl en74 (C74 (l := h.conts) (n := n) hs.c) (RL.cons (by exact View.same rfl) (RL.cons (by exact View.same rfl) (RL.nil))) rfl)) ?_; (simp only [nA, Nat.reduceBEq, Nat.reduceEqDiff, ↓reduceIte, Nat.reduceAdd, Nat.reduceSub])
  refine awP (op_assign rfl rfl) ?_
  refine AWL.nil ?_
  (refine hK _ ?_; clear hK K; (simp only [nA, Nat.reduceBEq, Nat.reduceEqDiff, ↓reduceIte, Nat.reduceAdd, Nat.reduceSub]))
  (refine AWR.seq_k ?_; intro K hK)
  (refine AW.seq_k ?_; intro K hK)
  refine AW.region ?_
  refine awP (op_move rfl rfl) ?_
  refine awP (op_lss rfl rfl rfl) ?_
  refine AWL.nil ?_
  (refine hK _ ?_; clear hK K; (simp only [nA, Nat.reduceBEq, Nat.reduceEqDiff, ↓reduceIte, Nat.reduceAdd, Nat.reduceSub]))
  refine AW.cond rfl rfl rfl (fun hc => ?_) (fun hc => ?_)
  ·
   have hc1 := hc; have hi := (show idxI (fun c : Container => decide (c.number = n)) h.conts < 0 by simpa using hc1)
   (refine AW.seq_k ?_; intro K hK)
   refine AW.region ?_
   refine awJ (op_store rfl rfl rfl rfl rfl rfl sz39 rfl (Nat.le_of_ble_eq_true rfl) rfl) ?_; (simp only [nA, Nat.reduceBEq, Nat.reduceEqDiff, ↓reduceIte, Nat.reduceAdd, Nat.reduceSub])
   refine AWL.nil ?_
   (refine hK _ ?_; clear hK K; (skip))
   skip
   refine AW.ret ?_; (simp only [thenE, inBlk, Nat.reduceEqDiff, ↓reduceIte]); exact hraw (.int .i64 6) _ (by unfold loadErr; rw [if_pos hi]) (RL.cons ⟨(Nat.le_of_ble_eq_true rfl), 2, 3, 0, 0, 39, _, _, rfl, rfl, rfl, .inr ⟨ag39, _, rfl, rfl⟩⟩ RL.nil)
  ·
   have hc1 := hc; have hi := (show ¬ idxI (fun c : Container => decide (c.number = n)) h.conts < 0 by simpa using hc1); obtain ⟨hil, hie⟩ := idx_lt hi
   refine AW.skip ?_
   (refine hK _ ?_; clear hK K; (skip))
   (refine AWR.seq_k ?_; intro K hK)
   (refine AW.seq_k ?_; intro K hK)
   refine AW.quiet mix (by kernel_rfl) ?_
   (refine aqP (op_fa_ptr rfl rfl rfl fl26_4 (by exact sz22) (by decide) rfl) ?_)
   (refine aqR (op_load_ptr1 rfl rfl rfl rfl ag22 rfl rfl) ?_)
   (refine aqR (op_load_ptr rfl rfl rfl rfl ag31 sz31 (Nat.le_of_ble_eq_true rfl) rfl) ?_)
   (refine aqP (op_fa_ptr rfl rfl rfl fl26_5 (by exact sz23) (by decide) rfl) ?_)
   (refine aqR (op_load_ptr1 rfl rfl rfl rfl ag23 rfl rfl) ?_)
   refine aqP (op_move rfl rfl) ?_
   (refine aqP (op_ia_ro (idxI (fun c : Container => decide (c.number = n)) h.conts).toNat rfl (.inl rfl) rfl Try.underlying23 (by omega) (get_mapD (by omega)) (by exact sz77) (Nat.le_of_ble_eq_true rfl)) ?_)
   (refine aqP (op_fa_rop rfl rfl fl77_1 (by exact sz73) (by decide) (Nat.le_of_ble_eq_true rfl) rfl) ?_)
   (refine aqR (op_load_rop rfl rfl ag73 sz73 (Nat.le_of_ble_eq_true rfl) (by decide) rfl) ?_)
   refine aqP (op_build2 (xs := [_, _, _, _, _, _, _, _, _]) rfl pl75 ze75 [(0, [_, _, _, _, _]), (1, [_, _, _, _])] rfl rfl rfl) ?_
   refine aqQ (op_callQ (b := true) rfl en76 (C76 (l := h.grants) (g := ⟨p, (h.conts.getD (idxI (fun c : Container => decide (c.number = n)) h.conts).toNat default).flight⟩) hs.g) (RL.cons (by exact View.same rfl) (RL.cons (by exact View.same rfl) (RL.nil))) rfl) ?_; (simp only [nA, Nat.reduceBEq, Nat.reduceEqDiff, ↓reduceIte, Nat.reduceAdd, Nat.reduceSub])
   refine aqP (op_not rfl rfl rfl) ?_
   refine AQ.nil ?_
   (refine hK _ ?_; clear hK K; (simp only [nA, Nat.reduceBEq, Nat.reduceEqDiff, ↓reduceIte, Nat.reduceAdd, Nat.reduceSub]))
   refine AW.cond rfl rfl rfl (fun hc => ?_) (fun hc => ?_)
   ·
    have hc2 := hc; have hg := hc2
    (refine AW.seq_k ?_; intro K hK)
    refine AW.region ?_
    refine awJ (op_store rfl rfl rfl rfl rfl rfl sz39 rfl (Nat.le_of_ble_eq_true rfl) rfl) ?_; (simp only [nA, Nat.reduceBEq, Nat.reduceEqDiff, ↓reduceIte, Nat.reduceAdd, Nat.reduceSub])
    refine AWL.nil ?_
    (refine hK _ ?_; clear hK K; (skip))
    skip
    refine AW.ret ?_; (simp only [thenE, inBlk, Nat.reduceEqDiff, ↓reduceIte]); exact hraw (.int .i64 10) _ (by unfold loadErr; rw [if_neg hi, if_pos (by simpa [grantedB] using hg)]) (RL.cons ⟨(Nat.le_of_ble_eq_true rfl), 2, 3, 0, 0, 39, _, _, rfl, rfl, rfl, .inr ⟨ag39, _, rfl, rfl⟩⟩ RL.nil)
   ·
    have hc2 := hc; have hg := hc2
    refine AW.skip ?_
    (refine hK _ ?_; clear hK K; (skip))
    refine AWR.assoc ?_
    (refine AWR.seq_k ?_; intro K hK)
    refine AW.region ?_
    (refine awP (op_fa_ptr rfl rfl rfl fl26_6 (by exact sz24) (by decide) rfl) ?_)
    (refine awR (op_load_ptr1 rfl rfl rfl rfl ag24 rfl rfl) ?_)
    refine awJ (op_callS rfl en77 (C77 (l := h.log)) (RL.cons (by exact View.same rfl) (RL.nil)) rfl rfl rfl) ?_; (simp only [nA, Nat.reduceBEq, Nat.reduceEqDiff, ↓reduceIte, Nat.reduceAdd, Nat.reduceSub])
    refine AWL.nil ?_
    (refine hK _ ?_; clear hK K; (simp only [nA, Nat.reduceBEq, Nat.reduceEqDiff, ↓reduceIte, Nat.reduceAdd, Nat.reduceSub]))
    refine AWR.gh (Gh.freezeP (r := 1) 4 (Nat.le_of_ble_eq_true rfl) rfl rfl (fun c hc => by simp only [List.mem_cons, List.not_mem_nil, or_false] at hc; rcases hc with rfl | rfl | rfl | rfl | rfl <;> rfl)) ?_; (simp only [nA, Nat.reduceBEq, Nat.reduceEqDiff, ↓reduceIte, Nat.reduceAdd, Nat.reduceSub])
    refine AWR.block ?_
    rintro ⟨tmps, df⟩ wl ⟨hd, hn, S', vals', bss', hm, he⟩
    obtain rfl : df = [] := hd
    obtain ⟨tl⟩ := tmps
    obtain ⟨z0, z1, z2, z3, z4, z5, z6, z7, z8, z9, z10, z11, z12, z13, z14, z15, z16, z17, z18, z19, z20, z21, z22, z23, z24, z25, z26, z27, z28, z29, z30, z31, z32, z33, z34, z35, z36, z37, z38, z39, z40, z41, rfl⟩ := list42 tl hn
    have e30 : Rep Try.prog S' wl [] z30 (.clo 90 [.rop [.ro (h.log.map Op.av)]]) := he 30 (Nat.le_of_ble_eq_true rfl)
    have e4 : Rep Try.prog S' wl [] z4 (.rop p.av) := he 4 (Nat.le_of_ble_eq_true rfl)
    have e6 := he 6 (Nat.le_of_ble_eq_true rfl)
    obtain ⟨B, hB, hB1, hB2, hB3, hB4⟩ := slot_box (x := .int .i64 0) (r := 2) (k := 3) (e := 39) hm rfl rfl e6
    obtain rfl : z6 = _ := hB
    obtain ⟨cu, rfl, hcl, hcr⟩ := e30.clo_inv
    obtain ⟨c1, rfl⟩ : ∃ c1, cu = [c1] := by match cu, hcl with | [c1], _ => exact ⟨c1, rfl⟩
    obtain ⟨-, A1, us1, rfl, hrd1, hl1, hr1⟩ := (hcr 0 c1 _ rfl rfl).rop_inv
    obtain ⟨s1, rfl⟩ : ∃ s1, us1 = [s1] := by match us1, hl1 with | [s1], _ => exact ⟨s1, rfl⟩
    obtain ⟨g1, o1, eA, hS1, hcell1⟩ := hrd1 Nat.one_pos
    obtain rfl : A1 = _ := Option.some.inj eA
    have hc1' := hcell1 0 s1 rfl
    obtain ⟨-, A2, c2, sz2, us2, rfl, -, -, -, hrd2, hl2, hr2⟩ := (hr1 0 s1 _ rfl rfl).ro_inv
    have hlies := ro_lies hm.lt hrd2 hl2 hr2
    obtain ⟨-, A4, us4, rfl, hrd4, hl4, hr4⟩ := e4.rop_inv
    obtain ⟨g4, o4, eA4, hS4, hcell4⟩ := hrd4 (by rw [hl4]; exact Nat.succ_pos _)
    obtain rfl : A4 = _ := Option.some.inj eA4
    obtain ⟨y0, y1, y2, y3, y4, rfl⟩ : ∃ y0 y1 y2 y3 y4, us4 = [y0, y1, y2, y3, y4] := by match us4, hl4 with | [y0, y1, y2, y3, y4], _ => exact ⟨y0, y1, y2, y3, y4, rfl⟩
    obtain rfl : y0 = _ := (hr4 0 y0 _ rfl rfl).v_inv.1
    obtain rfl : y1 = _ := (hr4 1 y1 _ rfl rfl).v_inv.1
    obtain rfl : y2 = _ := (hr4 2 y2 _ rfl rfl).v_inv.1
    have p0 : wl.cell? ⟨g4, o4, none⟩ = some (.int .i64 p.plate.lead) := hcell4 0 _ rfl
    have p1 : wl.cell? ⟨g4, o4 + 1, none⟩ = some (.int .i64 p.plate.airline) := hcell4 1 _ rfl
    have p2 : wl.cell? ⟨g4, o4 + 2, none⟩ = some (.int .i64 p.plate.serial) := hcell4 2 _ rfl
    have hg4 : g4 < wl.heap.size := hm.lt _ hS4
    have hg4B : g4 ≠ B := fun e => hB4 (e ▸ hS4)
    have hg1 : g1 < wl.heap.size := hm.lt _ hS1
    have hkw : Kept (fun _ => True) w wl := hm.kept.mono fun _ _ _ => List.not_mem_nil
    have hBl : B < wl.heap.size := World.block_lt_of_cell? wl _ hB1
    rw [List.length_map] at hc1'
    have hll : h.log.length ≤ 1000 := hs.l
    have hle : ∀ x : Int, loadedB h.log p.plate = decide (x = 1) → loadErr h p n = if x = 1 then 5 else 0 := fun x hx => by
      unfold loadErr
      rw [if_neg hi, if_neg (by simpa [grantedB] using hg), hx]
      by_cases h1 : x = 1 <;> simp [h1]
    clear hn; clear hm he e6 e4 e30 hcr hr1 hr2 hr4 hl4 hcell4 hcell1 hrd1 hrd2 hrd4 hraw hl2 hl1 hcl hg hc2 hc1 hc hil hie hi
    refine (wpIn_wide (n := 5)).1 ?_
    refine wpIn_rangeFunc_ownH (F := Fence.wide) (n := 5) (α := Int × Op) rfl (by decide) (gf := 90) (lb := #[.pointer (some ⟨g1, o1, none⟩)]) rfl trivial en90 (C90s Fence.wide 4 trivial rfl (by decide) g1 o1 wl.heap.size c2 A2 h.log hll hg1 wl (Nat.le_refl _) hc1' hlies) belowK_t (belowK_b (Nat.le_refl _)) (Below.refl _ _) (fun _ => rfl)
      (ldI B wl p.plate)
      (ldX B wl p.plate)
      ?hI ?hIx ⟨Kept.refl _ _, hB1, hB2, fun x hx => by cases hx⟩
      (fun x a' W => ∃ Bx, wl.heap.size ≤ Bx ∧ W.heap[Bx]? = some (.cells x.2.vs.toArray 33 (0, 0)) ∧ a' = { tmps := #[z0, z1, z2, z3, .pointer (some ⟨g4, o4, none⟩), z5, .pointer (some ⟨B, 0, none⟩), z7, z8, .pointer (some ⟨Bx, 0, none⟩), z10, z11, z12, z13, z14, z15, z16, z17, z18, z19, z20, z21, z22, z23, z24, z25, z26, z27, z28, z29, .func (.func 90) #[] #[.pointer (some ⟨g1, o1, none⟩)], .int .i64 x.1, .agg x.2.vs.toArray, z33, z34, z35, z36, z37, z38, z39, z40, z41], defers := [] })
      ?hAx ?assign ?body ?done ?stop
    case hI =>
      rintro s W W' row ⟨h1, h2, h3, h4⟩ hgr hr
      exact ⟨h1.grown hgr fun k e => .inr (hr k e).1, cell_kept h2 hgr fun k e => (hr k e).2, (frozen_kept h2 hgr fun k e => (hr k e).2).trans h3, h4⟩
    case hIx =>
      rintro c s W W' row ⟨h1, h3, pre0, x, e1, e2, e3, h4⟩ hgr hr
      have key : ∀ v, W.cell? ⟨B, 0, none⟩ = some v → W'.cell? ⟨B, 0, none⟩ = some v ∧ W'.frozen? ⟨B, 0, none⟩ = false := fun v hv => ⟨cell_kept hv hgr fun k e => (hr k e).2, (frozen_kept hv hgr fun k e => (hr k e).2).trans h3⟩
      refine ⟨h1.grown hgr fun k e => .inr (hr k e).1, ?_, pre0, x, e1, e2, e3, ?_⟩
      · rcases h4 with ⟨_, _, h4⟩ | ⟨_, _, h4⟩ <;> exact (key _ h4).2
      · rcases h4 with ⟨q1, q2, h4⟩ | ⟨q1, q2, h4⟩
        · exact .inl ⟨q1, q2, (key _ h4).1⟩
        · exact .inr ⟨q1, q2, (key _ h4).1⟩
    case hAx =>
      rintro x a' s W W' row ⟨Bx, h1, h2, h3⟩ hgr hr
      exact ⟨Bx, h1, (grownBy_keeps_cells hgr (fun k e => (hr k e).2) h2 rfl).trans h2, h3⟩
    case assign =>
      rintro l pre x W K hI hK
      obtain ⟨k1, k2, k3, k4⟩ := hI
      gi_wp2
      exact hK _ _ ((KeepsOthers.alloc _ _).from _) ((Below.refl _ W).alloc k1.size _) ⟨k1.alloc _, cell_kept k2 (World.grownBy_alloc W _ none) (fun r e => by cases e), (frozen_kept k2 (World.grownBy_alloc W _ none) (fun r e => by cases e)).trans k3, k4⟩ ⟨W.heap.size, k1.size, World.alloc_heap_new W _, rfl⟩
    case body =>
      rintro l pre x a' W hl ⟨r, hr⟩ ⟨k1, k2, k3, k4⟩ ⟨Bx, hBx, bX, rfl⟩ hlt
      have q0 := k1.cell (p := ⟨g4, o4, none⟩) p0 hg4B
      have q1 := k1.cell (p := ⟨g4, o4 + 1, none⟩) p1 hg4B
      have q2 := k1.cell (p := ⟨g4, o4 + 2, none⟩) p2 hg4B
      have b3 : W.cell? ⟨Bx, 3, none⟩ = some (.int .i64 x.2.kind) := by simp [World.cell?, bX]
      have b5 : W.cell? ⟨Bx, 5, none⟩ = some (.int .i64 x.2.piece.plate.lead) := by simp [World.cell?, bX]
      have b6 : W.cell? ⟨Bx, 6, none⟩ = some (.int .i64 x.2.piece.plate.airline) := by simp [World.cell?, bX]
      have b7 : W.cell? ⟨Bx, 7, none⟩ = some (.int .i64 x.2.piece.plate.serial) := by simp [World.cell?, bX]
      clear hr bX hlies p0 p1 p2 hc1'
      have hpl : x.2.piece.plate = p.plate ↔ x.2.piece.plate.lead = p.plate.lead ∧ x.2.piece.plate.airline = p.plate.airline ∧ x.2.piece.plate.serial = p.plate.serial := by
        rcases x.2.piece.plate with ⟨a1, a2, a3⟩
        rcases p.plate with ⟨d1, d2, d3⟩
        simp
      by_cases e1 : x.2.piece.plate.lead = p.plate.lead
      · by_cases e2 : x.2.piece.plate.airline = p.plate.airline
        · by_cases e3 : x.2.piece.plate.serial = p.plate.serial
          · by_cases hk : x.2.kind = 1
            · gi_wp2
              exact ⟨(KeepsOthers.setCell _ _ _).from _, k1.setCell (.inl fun h => h rfl) _, by rw [World.frozen?_setCell]; exact k3, pre, x, rfl, k4, hpl.2 ⟨e1, e2, e3⟩, .inl ⟨rfl, hk, World.cell?_setCell_same' _ _ _ (by rw [k2]; rfl)⟩⟩
            · gi_wp2
              exact ⟨KeepsFrom.refl _ _, k1, k3, pre, x, rfl, k4, hpl.2 ⟨e1, e2, e3⟩, .inr ⟨rfl, hk, k2⟩⟩
          · have hgo : ldI B wl p.plate (pre ++ [x]) W := ⟨k1, k2, k3, fun y hy => by
              rcases List.mem_append.1 hy with hy | hy
              · exact k4 y hy
              · rw [List.mem_singleton.1 hy]; exact fun h => e3 (hpl.1 h).2.2⟩
            gi_wp2
            exact ⟨KeepsFrom.refl _ _, Below.refl _ _, hgo⟩
        · have hgo : ldI B wl p.plate (pre ++ [x]) W := ⟨k1, k2, k3, fun y hy => by
            rcases List.mem_append.1 hy with hy | hy
            · exact k4 y hy
            · rw [List.mem_singleton.1 hy]; exact fun h => e2 (hpl.1 h).2.1⟩
          gi_wp2
          exact ⟨KeepsFrom.refl _ _, Below.refl _ _, hgo⟩
      · have hgo : ldI B wl p.plate (pre ++ [x]) W := ⟨k1, k2, k3, fun y hy => by
          rcases List.mem_append.1 hy with hy | hy
          · exact k4 y hy
          · rw [List.mem_singleton.1 hy]; exact fun h => e1 (hpl.1 h).1⟩
        gi_wp2
        exact ⟨KeepsFrom.refl _ _, Below.refl _ _, hgo⟩
    case done =>
      rintro D ys W hD rfl ⟨k1, k2, k3, k4⟩ hK
      have hv : loadErr h p n = 0 := (hle 0 (by rw [loaded_none fun j hj => k4 _ (uptoL_mem hj)]; rfl)).trans rfl
      refine (?_ : Code.wp _ _ _ _ _)
      refine (wpIn_wide (n := 5)).1 ?_
      have hK2 := (KeepsOthers.setCell W ⟨B, 0, none⟩ (.int .i64 0)).same D _ hK rfl
      have hc2 : (W.setCell ⟨B, 0, none⟩ (.int .i64 0)).cell? ⟨B, 0, none⟩ = some (.int .i64 0) := World.cell?_setCell_same' _ _ _ (by rw [k2]; rfl)
      gi_wp2
      obtain ⟨r1, r2⟩ := load_fin (S := S) (B := B) (tm := #[z0, z1, z2, z3, .pointer (some ⟨g4, o4, none⟩), z5, .pointer (some ⟨B, 0, none⟩), z7, z8, z9, z10, z11, z12, z13, z14, z15, z16, z17, z18, z19, z20, z21, z22, z23, z24, z25, z26, z27, z28, z29, .func (.func 90) #[] #[.pointer (some ⟨g1, o1, none⟩)], z31, z32, z33, z34, z35, z36, z37, z38, z39, z40, z41]) rfl ((Kept.then hkw k1 fun i hi _ => by have : w.heap.size ≤ B := hB3; show i ≠ B; omega).setCell (p := ⟨B, 0, none⟩) (.inr hB3) (.int .i64 0)) (by have := hkw.size; omega) hK2 hc2
      exact ⟨by simp, .inl ⟨_, _, rfl, run_takeDeferred hK2, _, r1, [_], rfl, _, _, r2⟩⟩
    case stop =>
      rintro D c pre W hD ⟨k, hk, hpre⟩ ⟨k1, k3, pre0, x, e1, e2, e3, h4⟩ hK
      rw [e1] at hpre
      obtain ⟨m, rfl, rfl, rfl⟩ := uptoL_snoc hpre
      have hla := loaded_at (xs := h.log) (p := p.plate) (k := m) (by omega) (fun j hj => e2 _ (uptoL_mem hj)) e3
      rcases h4 with ⟨rfl, q2, q3⟩ | ⟨rfl, q2, q3⟩
      · have hv : loadErr h p n = 5 := (hle (bkw h.log m).2.kind hla).trans (if_pos q2)
        gi_wp2
        obtain ⟨r1, r2⟩ := load_fin (S := S) (B := B) (tm := #[z0, z1, z2, z3, .pointer (some ⟨g4, o4, none⟩), z5, .pointer (some ⟨B, 0, none⟩), z7, z8, z9, z10, z11, z12, z13, z14, z15, z16, z17, z18, z19, z20, z21, z22, z23, z24, z25, z26, z27, z28, z29, .func (.func 90) #[] #[.pointer (some ⟨g1, o1, none⟩)], z31, z32, z33, z34, z35, z36, z37, z38, z39, z40, z41]) rfl (Kept.then hkw k1 fun i hi _ => by have : w.heap.size ≤ B := hB3; show i ≠ B; omega) (by have := hkw.size; omega) hK q3
        exact ⟨by simp, .inl ⟨_, _, rfl, run_takeDeferred hK, _, r1, [_], rfl, _, _, r2⟩⟩
      · have hv : loadErr h p n = 0 := (hle (bkw h.log m).2.kind hla).trans (if_neg q2)
        have hK2 := (KeepsOthers.setCell W ⟨B, 0, none⟩ (.int .i64 0)).same D _ hK rfl
        have hc2 : (W.setCell ⟨B, 0, none⟩ (.int .i64 0)).cell? ⟨B, 0, none⟩ = some (.int .i64 0) := World.cell?_setCell_same' _ _ _ (by rw [q3]; rfl)
        gi_wp2
        refine (wpIn_wide (n := 5)).1 ?_
        gi_wp2
        obtain ⟨r1, r2⟩ := load_fin (S := S) (B := B) (tm := #[z0, z1, z2, z3, .pointer (some ⟨g4, o4, none⟩), z5, .pointer (some ⟨B, 0, none⟩), z7, z8, z9, z10, z11, z12, z13, z14, z15, z16, z17, z18, z19, z20, z21, z22, z23, z24, z25, z26, z27, z28, z29, .func (.func 90) #[] #[.pointer (some ⟨g1, o1, none⟩)], z31, z32, z33, z34, z35, z36, z37, z38, z39, z40, z41]) rfl ((Kept.then hkw k1 fun i hi _ => by have : w.heap.size ≤ B := hB3; show i ≠ B; omega).setCell (p := ⟨B, 0, none⟩) (.inr hB3) (.int .i64 0)) (by have := hkw.size; omega) hK2 hc2
        exact ⟨by simp, .inl ⟨_, _, rfl, run_takeDeferred hK2, _, r1, [_], rfl, _, _, r2⟩⟩
end Go.Proofs.Ytdnofpggdddimaa
