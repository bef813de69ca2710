import Derived.Test.YtfmnaigedgmhoaaDoorXfd
import Derived.Lib.AppendStr
namespace Go.Proofs.YtfmnaigedgmhoaaDoor
open Go.RowKit
set_option linter.unusedSimpArgs false
set_option linter.unusedVariables false
set_option maxRecDepth 100000
structure Ev.Sm (x : Ev) : Prop where
  r : x.reports.length ≤ 1000000
  o : x.ops.length ≤ 1000000
  t : x.text.size ≤ 1000000
  rr : ∀ r ∈ x.reports, r.read.size ≤ 1000000
def chB (c : UInt8) : Bool := decide (c = 63) || dgB c
theorem chB_eq (c : UInt8) : (!decide ((c.toNat : Int) = 63) && (decide ((c.toNat : Int) < 48) || decide ((c.toNat : Int) > 57))) = !chB c := by
  have e : decide (c = 63) = decide ((c.toNat : Int) = 63) := decide_eq_decide.2 ⟨fun h => by subst h; rfl, fun h => UInt8.toNat_inj.1 (by show c.toNat = 63; omega)⟩
  unfold chB dgB
  rw [e]
  by_cases h1 : (c.toNat : Int) = 63
  · simp [h1]
  by_cases h2 : (c.toNat : Int) < 48
  · simp [h1, h2]
  by_cases h3 : (c.toNat : Int) > 57
  · simp [h1, h2, h3]
  simp [h1, h2, h3]; omega
theorem rdB_no {s : ByteArray} (h : s.data.toList.all chB = false) : rdB s = false := by
  unfold rdB
  rw [show (s.data.toList.all fun c => decide (c = 63) || dgB c) = false from h]
  rfl
theorem rdB_yes {s : ByteArray} (h : s.data.toList.all chB = true) : rdB s = (decide ((s.size : Int) = 0) || decide ((s.size : Int) = 10)) := by
  unfold rdB
  rw [show (s.data.toList.all fun c => decide (c = 63) || dgB c) = true from h, Bool.true_and]
  congr 1 <;> exact decide_eq_decide.2 (by omega)
set_option maxHeartbeats 8000000 in
theorem C63 {s : ByteArray} (hs : s.size ≤ 1000000) : Fn Tryd.prog 63 [] [.v (.string s)] [.v (.bool (rdB s))] [] := by
  refine Spec.body Tryd.func63 rfl Tryd.ntmps63 (by simp) rfl ?_; intro S0 own0 v0 w0 gl
  (refine AW.seq_k ?_; intro K hK)
  refine AW.region ?_
  refine awP (op_assign rfl rfl) ?_
  refine AWL.nil ?_
  (refine hK _ ?_; clear hK K; (try simp only [nA, Nat.reduceBEq, Nat.reduceEqDiff, ↓reduceIte, Nat.reduceAdd, Nat.reduceSub]))
  (refine AW.seq_k ?_; intro K hK)
  (refine AW.seq_k ?_; intro K hK)
  refine AW.region ?_
  refine awP (op_move rfl rfl) ?_
  (refine awP (op_len_str rfl rfl Tryd.underlying9) ?_)
  refine awP (op_move rfl rfl) ?_
  refine AWL.nil ?_
  (refine hK _ ?_; clear hK K; (simp only [nA, ↓reduceIte]))
  refine AW.block ?_
  refine AW.loopI (fun i => [(0, .v (.string s)), (5, .v (.int .i64 s.size)), (6, .v (.int .i64 (i : Nat)))]) (fun _ => ⟨[], 1⟩) (fun i => i ≤ s.size ∧ (s.data.toList.take i).all chB = true) (fun i => s.size - i) 0 (by simp) ⟨rfl, rfl, rfl, trivial⟩ rfl ?_; intro i ρ hi; simp only [updL]
  (refine AW.seq_k ?_; intro K hK)
  refine AW.region ?_
  refine awP (op_lss rfl rfl rfl) ?_
  refine AWL.nil ?_
  (refine hK _ ?_; clear hK K; (try simp only [nA, Nat.reduceBEq, Nat.reduceEqDiff, ↓reduceIte, Nat.reduceAdd, Nat.reduceSub]))
  (refine AW.seq_k ?_; intro K hK)
  refine AW.cond rfl rfl rfl (fun hc => ?_) (fun hc => ?_)
  ·
   have hc1 := hc; have hlt : i < s.size := (by simpa using hc1)
   refine AW.skip ?_
   (refine hK _ ?_; clear hK K; (skip))
   (refine AW.seq_k ?_; intro K hK)
   refine AW.block ?_
   (refine AW.seq_k ?_; intro K hK)
   refine AW.region ?_
   refine awP (op_move rfl rfl) ?_
   refine awP (op_assign rfl rfl) ?_
   refine AWL.nil ?_
   (refine hK _ ?_; clear hK K; (simp only [nA, ↓reduceIte]))
   (refine AW.seq_k ?_; intro K hK)
   refine AW.region (AWL.quiet ?_)
   refine aqP (op_move rfl rfl) ?_
   refine aqP (op_move rfl rfl) ?_
   refine aqP (op_ix_str _ rfl rfl rfl Tryd.underlying9 rfl (get_chr (i := i) (by omega))) ?_
   (refine aqP (op_neq rfl rfl rfl) ?_)
   refine aqP (op_move rfl rfl) ?_
   refine' aqAndN' [_, _, _, _, _, _, _, _, _, _] [14,15,16,17,18,19,20,21,22,23] rfl rfl rfl rfl rfl rfl rfl rfl rfl rfl rfl rfl (fun hb => ?_) ?_; rotate_left
   ·
    (try simp only [hcS] at hb)
    refine aqP (op_move rfl rfl) ?_
    refine aqP (op_move rfl rfl) ?_
    refine aqP (op_ix_str _ rfl rfl rfl Tryd.underlying9 rfl (get_chr (i := i) (by omega))) ?_
    refine aqP (op_lss rfl rfl rfl) ?_
    refine aqP (op_move rfl rfl) ?_
    refine' aqOr' [_, _, _, _] [19,20,21,22] rfl rfl rfl rfl rfl rfl rfl rfl rfl rfl rfl rfl (fun hb => ?_) ?_; rotate_left
    ·
     (try simp only [hcS] at hb)
     refine aqP (op_move rfl rfl) ?_
     refine aqP (op_move rfl rfl) ?_
     refine aqP (op_ix_str _ rfl rfl rfl Tryd.underlying9 rfl (get_chr (i := i) (by omega))) ?_
     refine aqP (op_gtr rfl rfl rfl) ?_
     (refine aqSeg rfl rfl rfl ?_; repeat (first | exact fun _ _ => rfl | refine upd_out rfl ?_))
    simp only [nA, ↓reduceIte]
    (refine aqSeg rfl rfl rfl ?_; repeat (first | exact fun _ _ => rfl | refine upd_out rfl ?_ | refine era_out rfl ?_))
   simp only [nA, ↓reduceIte]
   refine AQ.nil ?_
   (refine hK _ ?_; clear hK K; (skip))
   refine AW.cond rfl rfl rfl (fun hc => ?_) (fun hc => ?_)
   ·
    have hc2 := hc; rw [chB_eq] at hc2
    (refine AW.seq_k ?_; intro K hK)
    refine AW.region ?_
    refine awP (op_assign rfl rfl) ?_
    refine AWL.nil ?_
    (refine hK _ ?_; clear hK K; (try simp only [nA, Nat.reduceBEq, Nat.reduceEqDiff, ↓reduceIte, Nat.reduceAdd, Nat.reduceSub]))
    skip
    refine AW.ret ?_; (try simp only [thenE, inBlk, Nat.reduceEqDiff, ↓reduceIte]); rw [rdB_no (all_no hlt (by simpa using hc2))]; exact RQ.of0 rfl (.tmp (bl rfl) rfl rfl .nil)
   have hc2 := hc; rw [chB_eq] at hc2
   refine AW.skip ?_
   (try simp only [thenE, inBlk, Nat.reduceEqDiff, ↓reduceIte])
   (refine hK _ ?_; clear hK K; (skip))
   refine AW.region ?_
   (refine awP (op_addi rfl rfl rfl (by omega)) ?_)
   refine awP (op_move rfl rfl) ?_
   skip
   refine AWL.nil ?_
   refine ⟨i + 1, ⟨by omega, by rw [take_all hlt, hi.2]; simpa using hc2⟩, by omega, ⟨rfl, rfl, rfl, trivial⟩, rfl, rfl⟩
  have hc1 := hc; have hnl : ¬ i < s.size := (by simpa using hc1)
  refine AW.exit ?_; (try simp only [thenE, inBlk, Nat.reduceEqDiff, ↓reduceIte])
  clear hK K
  (refine hK _ ?_; clear hK K; (skip))
  (refine AW.seq_k ?_; intro K hK)
  refine AW.region (AWL.quiet ?_)
  refine aqP (op_move rfl rfl) ?_
  (refine aqP (op_len_str rfl rfl Tryd.underlying9) ?_)
  (refine aqP (op_eql rfl rfl rfl) ?_)
  refine aqP (op_move rfl rfl) ?_
  refine' aqOr' [_, _, _] [30,31,32] rfl rfl rfl rfl rfl rfl rfl rfl rfl rfl rfl rfl (fun hb => ?_) ?_; rotate_left
  ·
   (try simp only [hcS] at hb)
   refine aqP (op_move rfl rfl) ?_
   (refine aqP (op_len_str rfl rfl Tryd.underlying9) ?_)
   (refine aqP (op_eql rfl rfl rfl) ?_)
   (refine aqSeg rfl rfl rfl ?_; repeat (first | exact fun _ _ => rfl | refine upd_out rfl ?_))
  simp only [nA, ↓reduceIte]
  refine aqP (op_assign rfl rfl) ?_
  refine AQ.nil ?_
  (refine hK _ ?_; clear hK K; (simp only [nA]))
  skip
  refine AW.ret ?_; (try simp only [thenE, inBlk, Nat.reduceEqDiff, ↓reduceIte]); rw [rdB_yes (by rw [← all_take hnl]; exact hi.2)]; exact RQ.of0 rfl (.tmp (bl rfl) rfl rfl .nil)
def p62 (r : Report) : Bool := !inB r.device 0 23 || !rdB r.read
def p67 (x : Ev) (o : Op) : Bool := !opB o || !decide (o.device = x.device)
set_option maxHeartbeats 8000000 in
theorem C62 {r : Report} (hr : r.read.size ≤ 1000000) : Fn Tryd.prog 62 [] [.agg r.av] [.v (.bool (p62 r))] [] := by
  refine Spec.body Tryd.func62 rfl Tryd.ntmps62 (by simp) rfl ?_; intro S0 own0 v0 w0 gl
  (refine AW.seq_k ?_; intro K hK)
  refine AW.region ?_
  refine awJ (op_box rfl rfl rfl sz66 rfl) ?_; (simp only [nA, Nat.reduceBEq, Nat.reduceEqDiff, ↓reduceIte])
  refine awP (op_assign rfl rfl) ?_
  refine AWL.nil ?_
  (refine hK _ ?_; clear hK K; (try simp only [nA, Nat.reduceBEq, Nat.reduceEqDiff, ↓reduceIte, Nat.reduceAdd, Nat.reduceSub]))
  (refine AW.seq_k ?_; intro K hK)
  refine AW.region (AWL.quiet ?_)
  (refine aqP (op_fa_ptr rfl rfl rfl fl66_0 (by exact sz3) (by decide) rfl) ?_)
  (refine aqR (op_load_ptr1 rfl rfl rfl rfl ag3 rfl rfl) ?_)
  refine aqQ (op_callQ (b := true) rfl en37 (C37 (n := r.device) (lo := 0) (hi := 23)) (RL.cons (by exact View.same rfl) (RL.cons (by exact View.same rfl) (RL.cons (by exact View.same rfl) (RL.nil)))) rfl) ?_; (try simp only [nA, Nat.reduceBEq, Nat.reduceEqDiff, ↓reduceIte, Nat.reduceAdd, Nat.reduceSub])
  refine aqP (op_not rfl rfl rfl) ?_
  refine aqP (op_move rfl rfl) ?_
  refine' aqOr' [_, _, _, _] [8,9,10,11] rfl rfl rfl rfl rfl rfl rfl rfl rfl rfl rfl rfl (fun hb => ?_) ?_; rotate_left
  ·
   (try simp only [hcS] at hb)
   (refine aqP (op_fa_ptr rfl rfl rfl fl66_2 (by exact sz9) (by decide) rfl) ?_)
   (refine aqR (op_load_ptr1 rfl rfl rfl rfl ag9 rfl rfl) ?_)
   refine aqQ (op_callQ (b := true) rfl en63 (C63 (s := r.read) hr) (RL.cons (by exact View.same rfl) (RL.nil)) rfl) ?_; (simp only [nA])
   refine aqP (op_not rfl rfl rfl) ?_
   (refine aqSeg rfl rfl rfl ?_; repeat (first | exact fun _ _ => rfl | refine upd_out rfl ?_))
  simp only [nA]
  refine aqP (op_assign rfl rfl) ?_
  refine AQ.nil ?_
  (refine hK _ ?_; clear hK K; (simp only [nA]))
  skip
  refine AW.ret ?_; (try simp only [thenE, inBlk, Nat.reduceEqDiff, ↓reduceIte]); exact RQ.of0 rfl (.tmp (bl rfl) rfl rfl .nil)
set_option maxHeartbeats 8000000 in
theorem C67 {x : Ev} {o : Op} : Fn Tryd.prog 67 [] [.agg o.av, .rop x.av] [.v (.bool (p67 x o))] [] := by
  refine Spec.body Tryd.func67 rfl Tryd.ntmps67 (by simp) rfl ?_; intro S0 own0 v0 w0 gl
  (refine AW.seq_k ?_; intro K hK)
  refine AW.region ?_
  refine awJ (op_box rfl rfl rfl sz32 rfl) ?_; (simp only [nA, Nat.reduceBEq, Nat.reduceEqDiff, ↓reduceIte])
  refine awP (op_assign rfl rfl) ?_
  refine AWL.nil ?_
  (refine hK _ ?_; clear hK K; (try simp only [nA, Nat.reduceBEq, Nat.reduceEqDiff, ↓reduceIte, Nat.reduceAdd, Nat.reduceSub]))
  (refine AW.seq_k ?_; intro K hK)
  refine AW.region (AWL.quiet ?_)
  (refine aqR (op_load_ptr rfl rfl rfl rfl ag32 sz32 (bl rfl) rfl) ?_)
  refine aqQ (op_callQ (b := true) rfl en65 (C65 (o := o)) (RL.cons (by exact View.same rfl) (RL.nil)) rfl) ?_; (try simp only [nA, Nat.reduceBEq, Nat.reduceEqDiff, ↓reduceIte, Nat.reduceAdd, Nat.reduceSub])
  refine aqP (op_not rfl rfl rfl) ?_
  refine aqP (op_move rfl rfl) ?_
  refine' aqOr' [_, _, _, _, _] [8,9,10,11,12] rfl rfl rfl rfl rfl rfl rfl rfl rfl rfl rfl rfl (fun hb => ?_) ?_; rotate_left
  ·
   (try simp only [hcS] at hb)
   (refine aqP (op_fa_ptr rfl rfl rfl fl32_1 (by exact sz3) (by decide) rfl) ?_)
   (refine aqR (op_load_ptr1 rfl rfl rfl rfl ag3 rfl rfl) ?_)
   (refine aqP (op_fa_rop rfl rfl fl35_9 (by exact sz3) (by decide) (bl rfl) rfl) ?_)
   (refine aqR (op_load_rop1 rfl rfl ag3) ?_)
   (refine aqP (op_neq rfl rfl rfl) ?_)
   (refine aqSeg rfl rfl rfl ?_; repeat (first | exact fun _ _ => rfl | refine upd_out rfl ?_))
  simp only [nA]
  refine aqP (op_assign rfl rfl) ?_
  refine AQ.nil ?_
  (refine hK _ ?_; clear hK K; (simp only [nA]))
  skip
  refine AW.ret ?_; (try simp only [thenE, inBlk, Nat.reduceEqDiff, ↓reduceIte]); exact RQ.of0 rfl (.tmp (bl rfl) rfl rfl .nil)
set_option maxHeartbeats 8000000 in
theorem C90 {l : List Report} (h1 : l.length ≤ 1000000) (hr : ∀ r ∈ l, r.read.size ≤ 1000000) : Fn Tryd.prog 90 [] [.ro (l.map Report.av), .v (.func (.func 62) #[] #[])] [.v (.int .i64 (idxI p62 l))] [] := by
  refine Spec.body Tryd.func90 rfl Tryd.ntmps90 (by simp) rfl ?_; intro S0 own0 v0 w0 gl
  (refine AW.seq_k ?_; intro K hK)
  refine AW.region ?_
  refine awP (op_assign rfl rfl) ?_
  refine AWL.nil ?_
  (refine hK _ ?_; clear hK K; (try simp only [nA, Nat.reduceBEq, Nat.reduceEqDiff, ↓reduceIte, Nat.reduceAdd, Nat.reduceSub]))
  (refine AW.seq_k ?_; intro K hK)
  (refine AW.seq_k ?_; intro K hK)
  refine AW.region ?_
  refine awP (op_move rfl rfl) ?_
  refine awP (op_len_ro (n := l.length) rfl rfl Tryd.underlying24 (.inr (.inl ⟨_, rfl, by simp⟩))) ?_
  refine awP (op_move rfl rfl) ?_
  refine AWL.nil ?_
  (refine hK _ ?_; clear hK K; (simp only [nA, ↓reduceIte]))
  refine AW.block ?_
  refine AW.loopI (fun i => [(0, .ro (l.map Report.av)), (1, .v (.func (.func 62) #[] #[])), (7, .v (.int .i64 l.length)), (8, .v (.int .i64 (i : Nat)))]) (fun i => ⟨[], 1⟩) (fun i => i ≤ l.length ∧ ∀ k, k < i → p62 (l.getD k default) = false) (fun i => l.length - i) 0 (by simp) ⟨rfl, rfl, rfl, rfl, trivial⟩ rfl ?_; intro i ρ hi; simp only [updL]
  (refine AW.seq_k ?_; intro K hK)
  refine AW.region ?_
  refine awP (op_lss rfl rfl rfl) ?_
  refine AWL.nil ?_
  (refine hK _ ?_; clear hK K; (try simp only [nA, Nat.reduceBEq, Nat.reduceEqDiff, ↓reduceIte, Nat.reduceAdd, Nat.reduceSub]))
  (refine AW.seq_k ?_; intro K hK)
  refine AW.cond rfl rfl rfl (fun hc => ?_) (fun hc => ?_)
  ·
   have hc1 := hc; have hlt : i < l.length := (by simpa using hc1)
   refine AW.skip ?_
   (refine hK _ ?_; clear hK K; (skip))
   (refine AW.seq_k ?_; intro K hK)
   refine AW.block ?_
   (refine AW.seq_k ?_; intro K hK)
   refine AW.region ?_
   refine awP (op_move rfl rfl) ?_
   refine awP (op_assign rfl rfl) ?_
   refine AWL.nil ?_
   (refine hK _ ?_; clear hK K; (simp only [nA, ↓reduceIte]))
   (refine AW.seq_k ?_; intro K hK)
   refine AW.region ?_
   refine awP (op_move rfl rfl) ?_
   refine awP (op_move rfl rfl) ?_
   refine awP (op_move rfl rfl) ?_
   refine awP (op_ia_ro i rfl (.inl rfl) rfl Tryd.underlying24 rfl (get_mapD (by omega)) (by exact sz66) (bl rfl)) ?_
   (refine awR (op_load_rop rfl rfl ag66 sz66 (bl rfl) (by decide) rfl) ?_)
   refine awJ (OpQ.j (op_valQ (b := true) rfl rfl en62 (C62 (r := l.getD i default) (hr _ (by rw [getD_of hlt]; exact List.getElem_mem hlt))) (RL.cons (by exact View.same rfl) (RL.nil)) rfl)) ?_; (simp only [nA, ↓reduceIte])
   refine AWL.nil ?_
   (refine hK _ ?_; clear hK K; (skip))
   refine AW.cond rfl rfl rfl (fun hc => ?_) (fun hc => ?_)
   ·
    have hc2 := hc
    (refine AW.seq_k ?_; intro K hK)
    refine AW.region ?_
    refine awP (op_move rfl rfl) ?_
    refine awP (op_assign rfl rfl) ?_
    refine AWL.nil ?_
    (refine hK _ ?_; clear hK K; (simp only [nA, ↓reduceIte]))
    skip
    refine AW.ret ?_; (try simp only [thenE, inBlk, Nat.reduceEqDiff, ↓reduceIte]); rw [idx_yes hlt hi.2 hc2]; exact RQ.of0 rfl (.tmp (bl rfl) rfl rfl .nil)
   have hc2 := hc
   refine AW.skip ?_
   (try simp only [thenE, inBlk, Nat.reduceEqDiff, ↓reduceIte])
   (refine hK _ ?_; clear hK K; (skip))
   refine AW.region ?_
   (refine awP (op_addi rfl rfl rfl (by omega)) ?_)
   refine awP (op_move rfl rfl) ?_
   skip
   refine AWL.nil ?_
   refine ⟨i + 1, ⟨by omega, all_f_step hi.2 hc2⟩, by omega, ⟨rfl, rfl, rfl, rfl, trivial⟩, (by rfl), (by rfl)⟩
  have hc1 := hc; have hnl : ¬ i < l.length := (by simpa using hc1)
  refine AW.exit ?_; (try simp only [thenE, inBlk, Nat.reduceEqDiff, ↓reduceIte])
  clear hK K
  (refine hK _ ?_; clear hK K; (skip))
  (refine AW.seq_k ?_; intro K hK)
  refine AW.region ?_
  refine awP (op_assign rfl rfl) ?_
  refine AWL.nil ?_
  (refine hK _ ?_; clear hK K; (try simp only [nA, Nat.reduceBEq, Nat.reduceEqDiff, ↓reduceIte, Nat.reduceAdd, Nat.reduceSub]))
  skip
  refine AW.ret ?_; (try simp only [thenE, inBlk, Nat.reduceEqDiff, ↓reduceIte]); rw [idx_no hnl hi.2]; exact RQ.of0 rfl (.tmp (bl rfl) rfl rfl .nil)
set_option maxHeartbeats 8000000 in
theorem C95 {x : Ev} {l : List Op} (h1 : l.length ≤ 1000000) : Fn Tryd.prog 95 [] [.ro (l.map Op.av), .clo 67 [.rop x.av]] [.v (.int .i64 (idxI (p67 x) l))] [] := by
  refine Spec.body Tryd.func95 rfl Tryd.ntmps95 (by simp) rfl ?_; intro S0 own0 v0 w0 gl
  (refine AW.seq_k ?_; intro K hK)
  refine AW.region ?_
  refine awP (op_assign rfl rfl) ?_
  refine AWL.nil ?_
  (refine hK _ ?_; clear hK K; (try simp only [nA, Nat.reduceBEq, Nat.reduceEqDiff, ↓reduceIte, Nat.reduceAdd, Nat.reduceSub]))
  (refine AW.seq_k ?_; intro K hK)
  (refine AW.seq_k ?_; intro K hK)
  refine AW.region ?_
  refine awP (op_move rfl rfl) ?_
  refine awP (op_len_ro (n := l.length) rfl rfl Tryd.underlying33 (.inr (.inl ⟨_, rfl, by simp⟩))) ?_
  refine awP (op_move rfl rfl) ?_
  refine AWL.nil ?_
  (refine hK _ ?_; clear hK K; (simp only [nA, ↓reduceIte]))
  refine AW.block ?_
  refine AW.loopI (fun i => [(0, .ro (l.map Op.av)), (1, .clo 67 [.rop x.av]), (7, .v (.int .i64 l.length)), (8, .v (.int .i64 (i : Nat)))]) (fun i => ⟨[], 1⟩) (fun i => i ≤ l.length ∧ ∀ k, k < i → p67 x (l.getD k default) = false) (fun i => l.length - i) 0 (by simp) ⟨rfl, rfl, rfl, rfl, trivial⟩ rfl ?_; intro i ρ hi; simp only [updL]
  (refine AW.seq_k ?_; intro K hK)
  refine AW.region ?_
  refine awP (op_lss rfl rfl rfl) ?_
  refine AWL.nil ?_
  (refine hK _ ?_; clear hK K; (try simp only [nA, Nat.reduceBEq, Nat.reduceEqDiff, ↓reduceIte, Nat.reduceAdd, Nat.reduceSub]))
  (refine AW.seq_k ?_; intro K hK)
  refine AW.cond rfl rfl rfl (fun hc => ?_) (fun hc => ?_)
  ·
   have hc1 := hc; have hlt : i < l.length := (by simpa using hc1)
   refine AW.skip ?_
   (refine hK _ ?_; clear hK K; (skip))
   (refine AW.seq_k ?_; intro K hK)
   refine AW.block ?_
   (refine AW.seq_k ?_; intro K hK)
   refine AW.region ?_
   refine awP (op_move rfl rfl) ?_
   refine awP (op_assign rfl rfl) ?_
   refine AWL.nil ?_
   (refine hK _ ?_; clear hK K; (simp only [nA, ↓reduceIte]))
   (refine AW.seq_k ?_; intro K hK)
   refine AW.region ?_
   refine awP (op_move rfl rfl) ?_
   refine awP (op_move rfl rfl) ?_
   refine awP (op_move rfl rfl) ?_
   refine awP (op_ia_ro i rfl (.inl rfl) rfl Tryd.underlying33 rfl (get_mapD (by omega)) (by exact sz32) (bl rfl)) ?_
   (refine awR (op_load_rop rfl rfl ag32 sz32 (bl rfl) (by decide) rfl) ?_)
   refine awJ (OpQ.j (op_cloQ (b := true) rfl rfl en67 (C67 (x := x) (o := l.getD i default)) (RL.cons (by exact View.same rfl) (RL.nil)) rfl)) ?_; (simp only [nA, ↓reduceIte])
   refine AWL.nil ?_
   (refine hK _ ?_; clear hK K; (skip))
   refine AW.cond rfl rfl rfl (fun hc => ?_) (fun hc => ?_)
   ·
    have hc2 := hc
    (refine AW.seq_k ?_; intro K hK)
    refine AW.region ?_
    refine awP (op_move rfl rfl) ?_
    refine awP (op_assign rfl rfl) ?_
    refine AWL.nil ?_
    (refine hK _ ?_; clear hK K; (simp only [nA, ↓reduceIte]))
    skip
    refine AW.ret ?_; (try simp only [thenE, inBlk, Nat.reduceEqDiff, ↓reduceIte]); rw [idx_yes (p := p67 x) hlt hi.2 hc2]; exact RQ.of0 rfl (.tmp (bl rfl) rfl rfl .nil)
   have hc2 := hc
   refine AW.skip ?_
   (try simp only [thenE, inBlk, Nat.reduceEqDiff, ↓reduceIte])
   (refine hK _ ?_; clear hK K; (skip))
   refine AW.region ?_
   (refine awP (op_addi rfl rfl rfl (by omega)) ?_)
   refine awP (op_move rfl rfl) ?_
   skip
   refine AWL.nil ?_
   refine ⟨i + 1, ⟨by omega, all_f_step (f := fun k => p67 x (l.getD k default)) hi.2 hc2⟩, by omega, ⟨rfl, rfl, rfl, rfl, trivial⟩, (by rfl), (by rfl)⟩
  have hc1 := hc; have hnl : ¬ i < l.length := (by simpa using hc1)
  refine AW.exit ?_; (try simp only [thenE, inBlk, Nat.reduceEqDiff, ↓reduceIte])
  clear hK K
  (refine hK _ ?_; clear hK K; (skip))
  (refine AW.seq_k ?_; intro K hK)
  refine AW.region ?_
  refine awP (op_assign rfl rfl) ?_
  refine AWL.nil ?_
  (refine hK _ ?_; clear hK K; (try simp only [nA, Nat.reduceBEq, Nat.reduceEqDiff, ↓reduceIte, Nat.reduceAdd, Nat.reduceSub]))
  skip
  refine AW.ret ?_; (try simp only [thenE, inBlk, Nat.reduceEqDiff, ↓reduceIte]); rw [idx_no (p := p67 x) hnl hi.2]; exact RQ.of0 rfl (.tmp (bl rfl) rfl rfl .nil)
theorem idx_any {α : Type} {p : α → Bool} {l : List α} : decide (idxI p l ≥ 0) = l.any p := by
  unfold idxI
  rw [Bool.eq_iff_iff, decide_eq_true_eq, List.any_eq_true]
  by_cases h : l.findIdx p < l.length
  · rw [if_pos h]
    exact ⟨fun _ => ⟨_, List.getElem_mem h, List.findIdx_getElem (w := h)⟩, fun _ => by omega⟩
  rw [if_neg h]
  refine ⟨fun h => by omega, fun ⟨x, hx, hp⟩ => ?_⟩
  exact absurd (List.findIdx_lt_length_of_exists ⟨x, hx, hp⟩) h
set_option maxHeartbeats 8000000 in
theorem C61 {l : List Report} (h1 : l.length ≤ 1000000) (hr : ∀ r ∈ l, r.read.size ≤ 1000000) : Fn Tryd.prog 61 [] [.ro (l.map Report.av), .v (.func (.func 62) #[] #[])] [.v (.bool (l.any p62))] [] := by
  refine Spec.body Tryd.func61 rfl Tryd.ntmps61 (by simp) rfl ?_; intro S0 own0 v0 w0 gl
  (refine AW.seq_k ?_; intro K hK)
  refine AW.region ?_
  refine awP (op_assign rfl rfl) ?_
  refine AWL.nil ?_
  (refine hK _ ?_; clear hK K; (try simp only [nA, Nat.reduceBEq, Nat.reduceEqDiff, ↓reduceIte, Nat.reduceAdd, Nat.reduceSub]))
  (refine AW.seq_k ?_; intro K hK)
  refine AW.region ?_
  refine awP (op_move rfl rfl) ?_
  refine awP (op_move rfl rfl) ?_
  refine awJ (OpQ.j (op_callQ (b := true) rfl en90 (C90 (l := l) h1 hr) (RL.cons (by exact View.same rfl) (RL.cons (by exact View.same rfl) (RL.nil))) rfl)) ?_; (simp only [nA, ↓reduceIte])
  refine awP (op_geq rfl rfl rfl) ?_
  refine awP (op_assign rfl rfl) ?_
  refine AWL.nil ?_
  (refine hK _ ?_; clear hK K; (simp only [nA]))
  skip
  refine AW.ret ?_; (try simp only [thenE, inBlk, Nat.reduceEqDiff, ↓reduceIte]); rw [← idx_any]; exact RQ.of0 rfl (.tmp (bl rfl) rfl rfl .nil)
set_option maxHeartbeats 8000000 in
theorem C66 {x : Ev} {l : List Op} (h1 : l.length ≤ 1000000) : Fn Tryd.prog 66 [] [.ro (l.map Op.av), .clo 67 [.rop x.av]] [.v (.bool (l.any (p67 x)))] [] := by
  refine Spec.body Tryd.func66 rfl Tryd.ntmps66 (by simp) rfl ?_; intro S0 own0 v0 w0 gl
  (refine AW.seq_k ?_; intro K hK)
  refine AW.region ?_
  refine awP (op_assign rfl rfl) ?_
  refine AWL.nil ?_
  (refine hK _ ?_; clear hK K; (try simp only [nA, Nat.reduceBEq, Nat.reduceEqDiff, ↓reduceIte, Nat.reduceAdd, Nat.reduceSub]))
  (refine AW.seq_k ?_; intro K hK)
  refine AW.region ?_
  refine awP (op_move rfl rfl) ?_
  refine awP (op_move rfl rfl) ?_
  refine awJ (OpQ.j (op_callQ (b := true) rfl en95 (C95 (x := x) (l := l) h1) (RL.cons (by exact View.same rfl) (RL.cons (by exact View.same rfl) (RL.nil))) rfl)) ?_; (simp only [nA, ↓reduceIte])
  refine awP (op_geq rfl rfl rfl) ?_
  refine awP (op_assign rfl rfl) ?_
  refine AWL.nil ?_
  (refine hK _ ?_; clear hK K; (simp only [nA]))
  skip
  refine AW.ret ?_; (try simp only [thenE, inBlk, Nat.reduceEqDiff, ↓reduceIte]); rw [← idx_any]; exact RQ.of0 rfl (.tmp (bl rfl) rfl rfl .nil)
theorem not_any {α : Type} {p q : α → Bool} (h : ∀ x, p x = !q x) (l : List α) : (!l.any p) = l.all q := by
  rw [show p = fun x => !q x from funext h]
  induction l with
  | nil => rfl
  | cons x l ih => rw [List.any_cons, List.all_cons, Bool.not_or, ih, Bool.not_not]
theorem evav_flat (x : Ev) : ∀ c ∈ x.av, flatA c = true := List.all_eq_true.1 rfl
theorem prB_rest {x : Ev} {p : Nat} (h : p = 1 ∨ p = 5 ∨ 12 ≤ p) : prB x p = true := by
  rcases h with rfl | rfl | h
  · rfl
  · rfl
  obtain ⟨n, rfl⟩ : ∃ n, p = n + 12 := ⟨p - 12, by omega⟩
  rfl
set_option maxHeartbeats 8000000 in
theorem C39 {x : Ev} {p : Nat} (hx : x.Sm) : Fn Tryd.prog 39 [] [.agg x.av, .v (.int .i64 (p : Nat))] [.v (.bool (prB x p))] [] := by
  refine Spec.body Tryd.func39 rfl Tryd.ntmps39 (by simp) rfl ?_; intro S0 own0 v0 w0 gl
  (refine AW.seq_k ?_; intro K hK)
  refine AW.region ?_
  refine awJ (op_box rfl rfl rfl sz35 rfl) ?_; (simp only [nA, Nat.reduceBEq, Nat.reduceEqDiff, ↓reduceIte])
  refine awP (op_assign rfl rfl) ?_
  refine AWL.nil ?_
  (refine hK _ ?_; clear hK K; (try simp only [nA, Nat.reduceBEq, Nat.reduceEqDiff, ↓reduceIte, Nat.reduceAdd, Nat.reduceSub]))
  (refine AW.seq_k ?_; intro K hK)
  (refine AW.seq_k ?_; intro K hK)
  refine AW.region ?_
  refine awP (op_move rfl rfl) ?_
  refine AWL.nil ?_
  (refine hK _ ?_; clear hK K; (simp only [nA, ↓reduceIte]))
  refine AW.block ?_
  (refine AW.seq_k ?_; intro K hK)
  refine AW.region ?_
  (refine awP (op_eql rfl rfl rfl) ?_)
  refine awP (op_assign rfl rfl) ?_
  refine AWL.nil ?_
  (refine hK _ ?_; clear hK K; (simp only [nA]))
  refine AW.cond rfl rfl rfl (fun hc => ?_) (fun hc => ?_)
  ·
   have hc1 := hc; obtain rfl : p = 0 := (by have := of_decide_eq_true hc1; omega)
   (refine AW.seq_k ?_; intro K hK)
   refine AW.region ?_
   (refine awP (op_fa_ptr rfl rfl rfl fl35_1 (by exact sz3) (by decide) rfl) ?_)
   (refine awR (op_load_ptr1 rfl rfl rfl rfl ag3 rfl rfl) ?_)
   refine awJ (OpQ.j (op_callQ (b := true) rfl en37 (C37 (n := x.time) (lo := 0) (hi := 1048576)) (RL.cons (by exact View.same rfl) (RL.cons (by exact View.same rfl) (RL.cons (by exact View.same rfl) (RL.nil)))) rfl)) ?_; (try simp only [nA, Nat.reduceBEq, Nat.reduceEqDiff, ↓reduceIte, Nat.reduceAdd, Nat.reduceSub])
   refine awP (op_assign rfl rfl) ?_
   refine AWL.nil ?_
   (refine hK _ ?_; clear hK K; (simp only [nA]))
   skip
   refine AW.ret ?_; (try simp only [thenE, inBlk, Nat.reduceEqDiff, ↓reduceIte]); exact RQ.of0 rfl (.tmp (bl rfl) rfl rfl .nil)
  have hc1 := hc
  (refine AW.seq_k ?_; intro K hK)
  refine AW.region ?_
  (refine awP (op_eql rfl rfl rfl) ?_)
  refine awP (op_assign rfl rfl) ?_
  refine AWL.nil ?_
  (refine hK _ ?_; clear hK K; (simp only [nA]))
  refine AW.cond rfl rfl rfl (fun hc => ?_) (fun hc => ?_)
  ·
   have hc2 := hc; obtain rfl : p = 2 := (by have := of_decide_eq_true hc2; omega)
   (refine AW.seq_k ?_; intro K hK)
   refine AW.region ?_
   (refine awP (op_fa_ptr rfl rfl rfl fl35_3 (by exact sz23) (by decide) rfl) ?_)
   (refine awR (op_load_ptr rfl rfl rfl rfl ag23 sz23 (bl rfl) rfl) ?_)
   refine awJ (OpQ.j (op_callQ (b := true) rfl en60 (C60 (p := x.plate)) (RL.cons (by exact View.same rfl) (RL.nil)) rfl)) ?_; (try simp only [nA, Nat.reduceBEq, Nat.reduceEqDiff, ↓reduceIte, Nat.reduceAdd, Nat.reduceSub])
   refine awP (op_assign rfl rfl) ?_
   refine AWL.nil ?_
   (refine hK _ ?_; clear hK K; (simp only [nA]))
   skip
   refine AW.ret ?_; (try simp only [thenE, inBlk, Nat.reduceEqDiff, ↓reduceIte]); exact RQ.of0 rfl (.tmp (bl rfl) rfl rfl .nil)
  have hc2 := hc
  (refine AW.seq_k ?_; intro K hK)
  refine AW.region ?_
  (refine awP (op_eql rfl rfl rfl) ?_)
  refine awP (op_assign rfl rfl) ?_
  refine AWL.nil ?_
  (refine hK _ ?_; clear hK K; (simp only [nA]))
  refine AW.cond rfl rfl rfl (fun hc => ?_) (fun hc => ?_)
  ·
   have hc3 := hc; obtain rfl : p = 3 := (by have := of_decide_eq_true hc3; omega)
   (refine AW.seq_k ?_; intro K hK)
   refine AW.region ?_
   (refine awP (op_fa_ptr rfl rfl rfl fl35_4 (by exact sz3) (by decide) rfl) ?_)
   (refine awR (op_load_ptr1 rfl rfl rfl rfl ag3 rfl rfl) ?_)
   refine awJ (OpQ.j (op_callQ (b := true) rfl en37 (C37 (n := x.node) (lo := 0) (hi := 23)) (RL.cons (by exact View.same rfl) (RL.cons (by exact View.same rfl) (RL.cons (by exact View.same rfl) (RL.nil)))) rfl)) ?_; (try simp only [nA, Nat.reduceBEq, Nat.reduceEqDiff, ↓reduceIte, Nat.reduceAdd, Nat.reduceSub])
   refine awP (op_assign rfl rfl) ?_
   refine AWL.nil ?_
   (refine hK _ ?_; clear hK K; (simp only [nA]))
   skip
   refine AW.ret ?_; (try simp only [thenE, inBlk, Nat.reduceEqDiff, ↓reduceIte]); exact RQ.of0 rfl (.tmp (bl rfl) rfl rfl .nil)
  have hc3 := hc
  (refine AW.seq_k ?_; intro K hK)
  refine AW.region ?_
  (refine awP (op_eql rfl rfl rfl) ?_)
  refine awP (op_assign rfl rfl) ?_
  refine AWL.nil ?_
  (refine hK _ ?_; clear hK K; (simp only [nA]))
  refine AW.cond rfl rfl rfl (fun hc => ?_) (fun hc => ?_)
  ·
   have hc4 := hc; obtain rfl : p = 4 := (by have := of_decide_eq_true hc4; omega)
   (refine AW.seq_k ?_; intro K hK)
   refine AW.region ?_
   (refine awP (op_fa_ptr rfl rfl rfl fl35_5 (by exact sz3) (by decide) rfl) ?_)
   (refine awR (op_load_ptr1 rfl rfl rfl rfl ag3 rfl rfl) ?_)
   refine awJ (OpQ.j (op_callQ (b := true) rfl en37 (C37 (n := x.image) (lo := 0) (hi := 1048576)) (RL.cons (by exact View.same rfl) (RL.cons (by exact View.same rfl) (RL.cons (by exact View.same rfl) (RL.nil)))) rfl)) ?_; (try simp only [nA, Nat.reduceBEq, Nat.reduceEqDiff, ↓reduceIte, Nat.reduceAdd, Nat.reduceSub])
   refine awP (op_assign rfl rfl) ?_
   refine AWL.nil ?_
   (refine hK _ ?_; clear hK K; (simp only [nA]))
   skip
   refine AW.ret ?_; (try simp only [thenE, inBlk, Nat.reduceEqDiff, ↓reduceIte]); exact RQ.of0 rfl (.tmp (bl rfl) rfl rfl .nil)
  have hc4 := hc
  (refine AW.seq_k ?_; intro K hK)
  refine AW.region ?_
  (refine awP (op_eql rfl rfl rfl) ?_)
  refine awP (op_assign rfl rfl) ?_
  refine AWL.nil ?_
  (refine hK _ ?_; clear hK K; (simp only [nA]))
  refine AW.cond rfl rfl rfl (fun hc => ?_) (fun hc => ?_)
  ·
   have hc5 := hc; obtain rfl : p = 6 := (by have := of_decide_eq_true hc5; omega)
   (refine AW.seq_k ?_; intro K hK)
   refine AW.region ?_
   (refine awP (op_fa_ptr rfl rfl rfl fl35_7 (by exact sz24) (by decide) rfl) ?_)
   (refine awR (op_load_ptr1 rfl rfl rfl rfl ag24 rfl rfl) ?_)
   refine awJ (OpQ.j (op_callQ (b := true) rfl en61 (C61 (l := x.reports) hx.r hx.rr) (RL.cons (by exact View.same rfl) (RL.cons (by exact View.same rfl) (RL.nil))) rfl)) ?_; (try simp only [nA, Nat.reduceBEq, Nat.reduceEqDiff, ↓reduceIte, Nat.reduceAdd, Nat.reduceSub])
   refine awP (op_not rfl rfl rfl) ?_
   refine awP (op_assign rfl rfl) ?_
   refine AWL.nil ?_
   (refine hK _ ?_; clear hK K; (simp only [nA]))
   skip
   refine AW.ret ?_; (try simp only [thenE, inBlk, Nat.reduceEqDiff, ↓reduceIte]); rw [show prB x 6 = !(x.reports.any p62) from (not_any (p := p62) (fun r => by unfold p62 rpB; rw [Bool.not_and]) _).symm]; exact RQ.of0 rfl (.tmp (bl rfl) rfl rfl .nil)
  have hc5 := hc
  (refine AW.seq_k ?_; intro K hK)
  refine AW.region ?_
  (refine awP (op_eql rfl rfl rfl) ?_)
  refine awP (op_assign rfl rfl) ?_
  refine AWL.nil ?_
  (refine hK _ ?_; clear hK K; (simp only [nA]))
  refine AW.cond rfl rfl rfl (fun hc => ?_) (fun hc => ?_)
  ·
   have hc6 := hc; obtain rfl : p = 7 := (by have := of_decide_eq_true hc6; omega)
   (refine AW.seq_k ?_; intro K hK)
   refine AW.region ?_
   (refine awP (op_fa_ptr rfl rfl rfl fl35_8 (by exact sz28) (by decide) rfl) ?_)
   (refine awR (op_load_ptr rfl rfl rfl rfl ag28 sz28 (bl rfl) rfl) ?_)
   refine awJ (op_alloc rfl ze28 rfl) ?_; (simp only [nA, Nat.reduceBEq, Nat.reduceEqDiff, ↓reduceIte])
   refine awJ (op_store rfl rfl rfl rfl rfl rfl sz28 rfl (bl rfl) rfl) ?_; (simp only [nA, Nat.reduceBEq, Nat.reduceEqDiff, ↓reduceIte])
   refine AWL.nil ?_
   (refine hK _ ?_; clear hK K; (skip))
   (refine AW.seq_k ?_; intro K hK)
   refine AW.region (AWL.quiet ?_)
   (refine aqP (op_fa_ptr rfl rfl rfl fl28_0 (by exact sz3) (by decide) rfl) ?_)
   (refine aqR (op_load_ptr1 rfl rfl rfl rfl ag3 rfl rfl) ?_)
   refine aqQ (op_callQ (b := true) rfl en37 (C37 (n := x.rev.kind) (lo := 1) (hi := 5)) (RL.cons (by exact View.same rfl) (RL.cons (by exact View.same rfl) (RL.cons (by exact View.same rfl) (RL.nil)))) rfl) ?_; (try simp only [nA, Nat.reduceBEq, Nat.reduceEqDiff, ↓reduceIte, Nat.reduceAdd, Nat.reduceSub])
   refine aqP (op_move rfl rfl) ?_
   refine' aqAnd' [_, _, _] [41,42,43] rfl rfl rfl rfl rfl rfl rfl rfl rfl rfl rfl rfl (fun hb => ?_) ?_; rotate_left
   ·
    (try simp only [hcS] at hb)
    (refine aqP (op_fa_ptr rfl rfl rfl fl28_1 (by exact sz3) (by decide) rfl) ?_)
    (refine aqR (op_load_ptr1 rfl rfl rfl rfl ag3 rfl rfl) ?_)
    refine aqQ (op_callQ (b := true) rfl en37 (C37 (n := x.rev.amount) (lo := 0) (hi := 1048576)) (RL.cons (by exact View.same rfl) (RL.cons (by exact View.same rfl) (RL.cons (by exact View.same rfl) (RL.nil)))) rfl) ?_; (simp only [nA])
    (refine aqSeg rfl rfl rfl ?_; repeat (first | exact fun _ _ => rfl | refine upd_out rfl ?_))
   simp only [nA]
   refine aqP (op_move rfl rfl) ?_
   refine' aqAnd' [_, _, _] [46,47,48] rfl rfl rfl rfl rfl rfl rfl rfl rfl rfl rfl rfl (fun hb => ?_) ?_; rotate_left
   ·
    (try simp only [hcS] at hb)
    (refine aqP (op_fa_ptr rfl rfl rfl fl28_2 (by exact sz26) (by decide) rfl) ?_)
    (refine aqR (op_load_ptr rfl rfl rfl rfl ag26 sz26 (bl rfl) rfl) ?_)
    refine aqQ (op_callQ (b := true) rfl en64 (C64 (f := x.rev.fl)) (RL.cons (by exact View.same rfl) (RL.nil)) rfl) ?_; (simp only [nA])
    (refine aqSeg rfl rfl rfl ?_; repeat (first | exact fun _ _ => rfl | refine upd_out rfl ?_))
   simp only [nA]
   refine aqP (op_assign rfl rfl) ?_
   refine AQ.nil ?_
   (refine hK _ ?_; clear hK K; (simp only [nA]))
   skip
   refine AW.ret ?_; (try simp only [thenE, inBlk, Nat.reduceEqDiff, ↓reduceIte]); exact RQ.of0 rfl (.tmp (bl rfl) rfl rfl .nil)
  have hc6 := hc
  (refine AW.seq_k ?_; intro K hK)
  refine AW.region ?_
  (refine awP (op_eql rfl rfl rfl) ?_)
  refine awP (op_assign rfl rfl) ?_
  refine AWL.nil ?_
  (refine hK _ ?_; clear hK K; (simp only [nA]))
  refine AW.cond rfl rfl rfl (fun hc => ?_) (fun hc => ?_)
  ·
   have hc7 := hc; obtain rfl : p = 8 := (by have := of_decide_eq_true hc7; omega)
   (refine AW.seq_k ?_; intro K hK)
   refine AW.region ?_
   (refine awP (op_fa_ptr rfl rfl rfl fl35_9 (by exact sz3) (by decide) rfl) ?_)
   (refine awR (op_load_ptr1 rfl rfl rfl rfl ag3 rfl rfl) ?_)
   refine awJ (OpQ.j (op_callQ (b := true) rfl en37 (C37 (n := x.device) (lo := 1) (hi := 6)) (RL.cons (by exact View.same rfl) (RL.cons (by exact View.same rfl) (RL.cons (by exact View.same rfl) (RL.nil)))) rfl)) ?_; (try simp only [nA, Nat.reduceBEq, Nat.reduceEqDiff, ↓reduceIte, Nat.reduceAdd, Nat.reduceSub])
   refine awP (op_assign rfl rfl) ?_
   refine AWL.nil ?_
   (refine hK _ ?_; clear hK K; (simp only [nA]))
   skip
   refine AW.ret ?_; (try simp only [thenE, inBlk, Nat.reduceEqDiff, ↓reduceIte]); exact RQ.of0 rfl (.tmp (bl rfl) rfl rfl .nil)
  have hc7 := hc
  (refine AW.seq_k ?_; intro K hK)
  refine AW.region ?_
  (refine awP (op_eql rfl rfl rfl) ?_)
  refine awP (op_assign rfl rfl) ?_
  refine AWL.nil ?_
  (refine hK _ ?_; clear hK K; (simp only [nA]))
  refine AW.cond rfl rfl rfl (fun hc => ?_) (fun hc => ?_)
  ·
   have hc8 := hc; obtain rfl : p = 9 := (by have := of_decide_eq_true hc8; omega)
   (refine AW.seq_k ?_; intro K hK)
   refine AW.region (AWL.quiet ?_)
   (refine aqP (op_fa_ptr rfl rfl rfl fl35_10 (by exact sz32) (by decide) rfl) ?_)
   (refine aqR (op_load_ptr rfl rfl rfl rfl ag32 sz32 (bl rfl) rfl) ?_)
   refine aqQ (op_callQ (b := true) rfl en65 (C65 (o := x.op)) (RL.cons (by exact View.same rfl) (RL.nil)) rfl) ?_; (try simp only [nA, Nat.reduceBEq, Nat.reduceEqDiff, ↓reduceIte, Nat.reduceAdd, Nat.reduceSub])
   refine aqP (op_move rfl rfl) ?_
   refine' aqAnd' [_, _, _, _, _, _, _, _] [61,62,63,64,65,66,67,68] rfl rfl rfl rfl rfl rfl rfl rfl rfl rfl rfl rfl (fun hb => ?_) ?_; rotate_left
   ·
    (try simp only [hcS] at hb)
    (refine aqP (op_fa_ptr rfl rfl rfl fl35_10 (by exact sz32) (by decide) rfl) ?_)
    (refine aqP (op_fa_ptr rfl rfl rfl fl32_3 (by exact sz3) (by decide) rfl) ?_)
    (refine aqR (op_load_ptr1 rfl rfl rfl rfl ag3 rfl rfl) ?_)
    (refine aqP (op_eql rfl rfl rfl) ?_)
    (refine aqP (op_fa_ptr rfl rfl rfl fl35_0 (by exact sz3) (by decide) rfl) ?_)
    (refine aqR (op_load_ptr1 rfl rfl rfl rfl ag3 rfl rfl) ?_)
    (refine aqP (op_eql rfl rfl rfl) ?_)
    (refine aqP (op_beql rfl rfl rfl Tryd.underlying4) ?_)
    (refine aqSeg rfl rfl rfl ?_; repeat (first | exact fun _ _ => rfl | refine upd_out rfl ?_))
   simp only [nA]
   refine aqP (op_assign rfl rfl) ?_
   refine AQ.nil ?_
   (refine hK _ ?_; clear hK K; (simp only [nA]))
   skip
   refine AW.ret ?_; (try simp only [thenE, inBlk, Nat.reduceEqDiff, ↓reduceIte]); exact RQ.of0 rfl (.tmp (bl rfl) rfl rfl .nil)
  have hc8 := hc
  (refine AW.seq_k ?_; intro K hK)
  refine AW.region ?_
  (refine awP (op_eql rfl rfl rfl) ?_)
  refine awP (op_assign rfl rfl) ?_
  refine AWL.nil ?_
  (refine hK _ ?_; clear hK K; (simp only [nA]))
  refine AW.cond rfl rfl rfl (fun hc => ?_) (fun hc => ?_)
  ·
   have hc9 := hc; obtain rfl : p = 10 := (by have := of_decide_eq_true hc9; omega); refine AW.gh (Gh.freezeP 2 (bl rfl) rfl rfl (evav_flat x)) ?_; (try simp only [nA, Nat.reduceBEq, Nat.reduceEqDiff, ↓reduceIte, Nat.reduceAdd, Nat.reduceSub])
   (refine AW.seq_k ?_; intro K hK)
   refine AW.region ?_
   (refine awP (op_fa_rop rfl rfl fl35_11 (by exact sz33) (by decide) (bl rfl) rfl) ?_)
   (refine awR (op_load_rop1 rfl rfl ag33) ?_)
   refine awP (op_makeFunc rfl rfl rfl) ?_
   refine awJ (OpQ.j (op_callQ (b := true) rfl en66 (C66 (x := x) (l := x.ops) hx.o) (RL.cons (by exact View.same rfl) (RL.cons (by exact View.same rfl) (RL.nil))) rfl)) ?_; (simp only [nA, ↓reduceIte])
   refine awP (op_not rfl rfl rfl) ?_
   refine awP (op_assign rfl rfl) ?_
   refine AWL.nil ?_
   (refine hK _ ?_; clear hK K; (simp only [nA]))
   skip
   refine AW.ret ?_; (try simp only [thenE, inBlk, Nat.reduceEqDiff, ↓reduceIte]); rw [show prB x 10 = !(x.ops.any (p67 x)) from (not_any (p := p67 x) (fun r => by unfold p67; rw [Bool.not_and]) _).symm]; exact RQ.of0 rfl (.tmp (bl rfl) rfl rfl .nil)
  have hc9 := hc
  (refine AW.seq_k ?_; intro K hK)
  refine AW.region ?_
  (refine awP (op_eql rfl rfl rfl) ?_)
  refine awP (op_assign rfl rfl) ?_
  refine AWL.nil ?_
  (refine hK _ ?_; clear hK K; (simp only [nA]))
  refine AW.cond rfl rfl rfl (fun hc => ?_) (fun hc => ?_)
  ·
   have hc10 := hc; obtain rfl : p = 11 := (by have := of_decide_eq_true hc10; omega)
   (refine AW.seq_k ?_; intro K hK)
   refine AW.region ?_
   (refine awP (op_fa_ptr rfl rfl rfl fl35_12 (by exact sz26) (by decide) rfl) ?_)
   (refine awR (op_load_ptr rfl rfl rfl rfl ag26 sz26 (bl rfl) rfl) ?_)
   refine awJ (OpQ.j (op_callQ (b := true) rfl en64 (C64 (f := x.fl)) (RL.cons (by exact View.same rfl) (RL.nil)) rfl)) ?_; (try simp only [nA, Nat.reduceBEq, Nat.reduceEqDiff, ↓reduceIte, Nat.reduceAdd, Nat.reduceSub])
   refine awP (op_assign rfl rfl) ?_
   refine AWL.nil ?_
   (refine hK _ ?_; clear hK K; (simp only [nA]))
   skip
   refine AW.ret ?_; (try simp only [thenE, inBlk, Nat.reduceEqDiff, ↓reduceIte]); exact RQ.of0 rfl (.tmp (bl rfl) rfl rfl .nil)
  have hc10 := hc
  refine AW.skip ?_
  (try simp only [thenE, inBlk, Nat.reduceEqDiff, ↓reduceIte])
  (refine hK _ ?_; clear hK K; (skip))
  (refine AW.seq_k ?_; intro K hK)
  refine AW.region ?_
  refine awP (op_assign rfl rfl) ?_
  refine AWL.nil ?_
  (refine hK _ ?_; clear hK K; (try simp only [nA, Nat.reduceBEq, Nat.reduceEqDiff, ↓reduceIte, Nat.reduceAdd, Nat.reduceSub]))
  skip
  refine AW.ret ?_; (try simp only [thenE, inBlk, Nat.reduceEqDiff, ↓reduceIte]); rw [prB_rest (by simp only [decide_eq_false_iff_not] at hc1 hc2 hc3 hc4 hc5 hc6 hc7 hc8 hc9 hc10; omega)]; exact RQ.of0 rfl (.tmp (bl rfl) rfl rfl .nil)
end Go.Proofs.YtfmnaigedgmhoaaDoor
namespace Go.Proofs.YtfmnaigedgmhoaaDoor
open Go.RowKit
set_option linter.unusedSimpArgs false
set_option linter.unusedVariables false
set_option maxRecDepth 100000
theorem sameB_iff {x y : Ev} : sameB x y = true ↔ x = y := by
  unfold sameB
  exact @decide_eq_true_iff _ (Classical.propDecidable _)
theorem val_k {x : Ev} (h : inB x.kind 1 14 = false) : valV x = 4 := by
  unfold valV; rw [if_pos h]
theorem val_s {x : Ev} (h : inB x.kind 1 14 = true) (h2 : sameB x (onlyV x) = false) : valV x = 7 := by
  have : x ≠ onlyV x := fun e => by rw [sameB_iff.2 e] at h2; cases h2
  unfold valV; rw [if_neg (by rw [h]; decide), if_pos this]
theorem val_l {x : Ev} (h : inB x.kind 1 14 = true) (h2 : sameB x (onlyV x) = true) (h3 : limB x = true) : valV x = 2 := by
  have e := sameB_iff.1 h2
  unfold valV; rw [if_neg (by rw [h]; decide), if_neg (fun h => h e), if_pos h3]
theorem val_r {x : Ev} (h : inB x.kind 1 14 = true) (h2 : sameB x (onlyV x) = true) (h3 : limB x = false) (h4 : (fieldsL x.kind).all (prB x) = false) : valV x = 1 := by
  have e := sameB_iff.1 h2
  unfold valV; rw [if_neg (by rw [h]; decide), if_neg (fun h => h e), if_neg (by rw [h3]; decide), if_pos h4]
theorem val_a {x : Ev} (h : inB x.kind 1 14 = true) (h2 : sameB x (onlyV x) = true) (h3 : limB x = false) (h4 : (fieldsL x.kind).all (prB x) = true) (h5 : ascR x.reports = false) : valV x = 9 := by
  have e := sameB_iff.1 h2
  unfold valV; rw [if_neg (by rw [h]; decide), if_neg (fun h => h e), if_neg (by rw [h3]; decide), if_neg (by rw [h4]; decide), if_pos h5]
theorem val_0 {x : Ev} (h : inB x.kind 1 14 = true) (h2 : sameB x (onlyV x) = true) (h3 : limB x = false) (h4 : (fieldsL x.kind).all (prB x) = true) (h5 : ascR x.reports = true) : valV x = 0 := by
  have e := sameB_iff.1 h2
  unfold valV; rw [if_neg (by rw [h]; decide), if_neg (fun h => h e), if_neg (by rw [h3]; decide), if_neg (by rw [h4]; decide), if_neg (by rw [h5]; decide)]
set_option maxHeartbeats 8000000 in
theorem C39i {x : Ev} {p : Int} (hx : x.Sm) (h : 0 ≤ p) : Fn Tryd.prog 39 [] [.agg x.av, .v (.int .i64 p)] [.v (.bool (prB x p.toNat))] [] := by
  obtain ⟨n, rfl⟩ := Int.eq_ofNat_of_zero_le h
  exact C39 hx
theorem flds_all {k : Int} {f : Nat → Bool} : (fieldsL k).all f = (fldI k).all fun p => f p.toNat := by
  unfold fldI
  rw [List.all_map]
  rfl
theorem flds_no {k : Int} {f : Nat → Bool} {i : Nat} (hi : i < (fldI k).length) (h : f ((fldI k).getD i default).toNat = false) : (fieldsL k).all f = false := by
  rw [flds_all, List.all_eq_false]
  rw [getD_of hi] at h
  exact ⟨_, List.getElem_mem hi, by rw [h]; simp⟩
theorem flds_yes {k : Int} {f : Nat → Bool} (h : ∀ i, i < (fldI k).length → f ((fldI k).getD i default).toNat = true) : (fieldsL k).all f = true := by
  rw [flds_all, List.all_eq_true]
  intro p hp
  obtain ⟨i, hi, rfl⟩ := List.getElem_of_mem hp
  have := h i hi
  rw [getD_of hi] at this
  exact this
theorem asc_no {l : List Report} {i : Nat} (h0 : 1 ≤ i) (hi : i < l.length) (h : decide ((l.getD i default).device ≤ (l.getD (i - 1) default).device) = true) : ascR l = false := by
  refine all_range_no hi ?_
  rw [Bool.or_eq_false_iff]
  refine ⟨decide_eq_false (by omega), decide_eq_false fun h' => ?_⟩
  have h1 := of_decide_eq_true h
  have h2 : (l.getD (i - 1) default).device < (l.getD i default).device := h'
  omega
theorem asc_yes {l : List Report} {i : Nat} (hi : ¬ i < l.length) (h : ∀ k, 1 ≤ k → k < i → (l.getD (k - 1) default).device < (l.getD k default).device) : ascR l = true := by
  refine all_range_yes hi fun k hk => ?_
  rw [Bool.or_eq_true]
  by_cases h0 : k = 0
  · exact .inl (decide_eq_true h0)
  exact .inr (decide_eq_true (h k (by omega) hk))
set_option maxHeartbeats 8000000 in
theorem C15 {x : Ev} (hx : x.Sm) : Fn Tryd.prog 15 [] [.agg x.av] [.v (.int .i64 (valV x))] [] := by
  have hrl := hx.r
  have hol := hx.o
  have htl := hx.t
  refine Spec.body Tryd.func15 rfl Tryd.ntmps15 (by simp) rfl ?_; intro S0 own0 v0 w0 gl
  (refine AW.seq_k ?_; intro K hK)
  refine AW.region ?_
  refine awJ (op_box rfl rfl rfl sz35 rfl) ?_; (simp only [nA, Nat.reduceBEq, Nat.reduceEqDiff, ↓reduceIte])
  refine awP (op_assign rfl rfl) ?_
  refine AWL.nil ?_
  (refine hK _ ?_; clear hK K; (try simp only [nA, Nat.reduceBEq, Nat.reduceEqDiff, ↓reduceIte, Nat.reduceAdd, Nat.reduceSub]))
  (refine AW.seq_k ?_; intro K hK)
  (refine AW.seq_k ?_; intro K hK)
  refine AW.region ?_
  (refine awP (op_fa_ptr rfl rfl rfl fl35_0 (by exact sz3) (by decide) rfl) ?_)
  (refine awR (op_load_ptr1 rfl rfl rfl rfl ag3 rfl rfl) ?_)
  refine awJ (OpQ.j (op_callQ (b := true) rfl en37 (C37 (n := x.kind) (lo := 1) (hi := 14)) (RL.cons (by exact View.same rfl) (RL.cons (by exact View.same rfl) (RL.cons (by exact View.same rfl) (RL.nil)))) rfl)) ?_; (try simp only [nA, Nat.reduceBEq, Nat.reduceEqDiff, ↓reduceIte, Nat.reduceAdd, Nat.reduceSub])
  refine awP (op_not rfl rfl rfl) ?_
  refine AWL.nil ?_
  (refine hK _ ?_; clear hK K; (try simp only [nA, Nat.reduceBEq, Nat.reduceEqDiff, ↓reduceIte, Nat.reduceAdd, Nat.reduceSub]))
  refine AW.cond rfl rfl rfl (fun hc => ?_) (fun hc => ?_)
  ·
   have hc1 := hc
   (refine AW.seq_k ?_; intro K hK)
   refine AW.region ?_
   refine awP (op_assign rfl rfl) ?_
   refine AWL.nil ?_
   (refine hK _ ?_; clear hK K; (try simp only [nA, Nat.reduceBEq, Nat.reduceEqDiff, ↓reduceIte, Nat.reduceAdd, Nat.reduceSub]))
   skip
   refine AW.ret ?_; (try simp only [thenE, inBlk, Nat.reduceEqDiff, ↓reduceIte]); rw [val_k (by simpa using hc1)]; exact RQ.of0 rfl (.tmp (bl rfl) rfl rfl .nil)
  have hc1 := hc; have hk0 : inB x.kind 1 14 = true := (by simpa using hc1); have hk := inB_iff.1 hk0
  refine AW.skip ?_
  (refine hK _ ?_; clear hK K; (skip))
  (refine AW.seq_k ?_; intro K hK)
  (refine AW.seq_k ?_; intro K hK)
  refine AW.region ?_
  (refine awR (op_load_ptr rfl rfl rfl rfl ag35 sz35 (bl rfl) rfl) ?_)
  refine awJ (OpQ.j (op_callQ (b := true) rfl en38 (C38 (x := x) hk hx.r hx.o) (RL.cons (by exact View.same rfl) (RL.nil)) rfl)) ?_; (try simp only [nA, Nat.reduceBEq, Nat.reduceEqDiff, ↓reduceIte, Nat.reduceAdd, Nat.reduceSub])
  refine awP (op_not rfl rfl rfl) ?_
  refine AWL.nil ?_
  (refine hK _ ?_; clear hK K; (try simp only [nA, Nat.reduceBEq, Nat.reduceEqDiff, ↓reduceIte, Nat.reduceAdd, Nat.reduceSub]))
  refine AW.cond rfl rfl rfl (fun hc => ?_) (fun hc => ?_)
  ·
   have hc2 := hc
   (refine AW.seq_k ?_; intro K hK)
   refine AW.region ?_
   refine awP (op_assign rfl rfl) ?_
   refine AWL.nil ?_
   (refine hK _ ?_; clear hK K; (try simp only [nA, Nat.reduceBEq, Nat.reduceEqDiff, ↓reduceIte, Nat.reduceAdd, Nat.reduceSub]))
   skip
   refine AW.ret ?_; (try simp only [thenE, inBlk, Nat.reduceEqDiff, ↓reduceIte]); rw [val_s hk0 (by simpa using hc2)]; exact RQ.of0 rfl (.tmp (bl rfl) rfl rfl .nil)
  have hc2 := hc; have hs0 : sameB x (onlyV x) = true := (by simpa using hc2)
  refine AW.skip ?_
  (refine hK _ ?_; clear hK K; (skip))
  (refine AW.seq_k ?_; intro K hK)
  (refine AW.seq_k ?_; intro K hK)
  refine AW.region (AWL.quiet ?_)
  (refine aqP (op_fa_ptr rfl rfl rfl fl35_2 (by exact sz9) (by decide) rfl) ?_)
  (refine aqR (op_load_ptr1 rfl rfl rfl rfl ag9 rfl rfl) ?_)
  (refine aqP (op_len_str rfl rfl Tryd.underlying9) ?_)
  refine aqP (op_gtr rfl rfl rfl) ?_
  refine aqP (op_move rfl rfl) ?_
  refine' aqOr' [_, _, _, _] [18,19,20,21] rfl rfl rfl rfl rfl rfl rfl rfl rfl rfl rfl rfl (fun hb => ?_) ?_; rotate_left
  ·
   (try simp only [hcS] at hb)
   (refine aqP (op_fa_ptr rfl rfl rfl fl35_7 (by exact sz24) (by decide) rfl) ?_)
   (refine aqR (op_load_ptr1 rfl rfl rfl rfl ag24 rfl rfl) ?_)
   refine aqP (op_len_ro (n := x.reports.length) rfl rfl Tryd.underlying24 (.inr (.inl ⟨_, rfl, by simp⟩))) ?_
   refine aqP (op_gtr rfl rfl rfl) ?_
   (refine aqSeg rfl rfl rfl ?_; repeat (first | exact fun _ _ => rfl | refine upd_out rfl ?_))
  simp only [nA]
  refine aqP (op_move rfl rfl) ?_
  refine' aqOr' [_, _, _, _] [24,25,26,27] rfl rfl rfl rfl rfl rfl rfl rfl rfl rfl rfl rfl (fun hb => ?_) ?_; rotate_left
  ·
   (try simp only [hcS] at hb)
   (refine aqP (op_fa_ptr rfl rfl rfl fl35_11 (by exact sz33) (by decide) rfl) ?_)
   (refine aqR (op_load_ptr1 rfl rfl rfl rfl ag33 rfl rfl) ?_)
   refine aqP (op_len_ro (n := x.ops.length) rfl rfl Tryd.underlying33 (.inr (.inl ⟨_, rfl, by simp⟩))) ?_
   refine aqP (op_gtr rfl rfl rfl) ?_
   (refine aqSeg rfl rfl rfl ?_; repeat (first | exact fun _ _ => rfl | refine upd_out rfl ?_))
  simp only [nA]
  refine AQ.nil ?_
  (refine hK _ ?_; clear hK K; (skip))
  refine AW.cond rfl rfl rfl (fun hc => ?_) (fun hc => ?_)
  ·
   have hc3 := hc
   (refine AW.seq_k ?_; intro K hK)
   refine AW.region ?_
   refine awP (op_assign rfl rfl) ?_
   refine AWL.nil ?_
   (refine hK _ ?_; clear hK K; (try simp only [nA, Nat.reduceBEq, Nat.reduceEqDiff, ↓reduceIte, Nat.reduceAdd, Nat.reduceSub]))
   skip
   refine AW.ret ?_; (try simp only [thenE, inBlk, Nat.reduceEqDiff, ↓reduceIte]); rw [val_l hk0 hs0 hc3]; exact RQ.of0 rfl (.tmp (bl rfl) rfl rfl .nil)
  have hc3 := hc; have hl0 : limB x = false := hc3
  refine AW.skip ?_
  (refine hK _ ?_; clear hK K; (skip))
  (refine AW.seq_k ?_; intro K hK)
  (refine AW.seq_k ?_; intro K hK)
  refine AW.region ?_
  (refine awP (op_fa_ptr rfl rfl rfl fl35_0 (by exact sz3) (by decide) rfl) ?_)
  (refine awR (op_load_ptr1 rfl rfl rfl rfl ag3 rfl rfl) ?_)
  refine awP (op_ia_glob x.kind.toNat rfl rfl Tryd.underlying79 (by omega) (fldI_row hk) (by exact sz78)) ?_
  (refine awR (op_load_rop1 rfl rfl ag78) ?_)
  refine awP (op_len_ro (n := (fldI x.kind).length) rfl rfl Tryd.underlying78 (.inr (.inl ⟨_, rfl, by simp⟩))) ?_
  refine awP (op_move rfl rfl) ?_
  refine AWL.nil ?_
  (refine hK _ ?_; clear hK K; (try simp only [nA, Nat.reduceBEq, Nat.reduceEqDiff, ↓reduceIte, Nat.reduceAdd, Nat.reduceSub]))
  refine AW.block ?_
  refine AW.loopI (fun i => [(1, .ptr 0 1 0 0), (32, .ro ((fldI x.kind).map fun n => [.v (.int .i64 n)])), (33, .v (.int .i64 (fldI x.kind).length)), (34, .v (.int .i64 (i : Nat)))]) (fun i => ⟨[(1, .own 35 [x.av])], 2⟩) (fun i => i ≤ (fldI x.kind).length ∧ ∀ k, k < i → prB x ((fldI x.kind).getD k default).toNat = true) (fun i => (fldI x.kind).length - i) 0 (by simp) ⟨rfl, rfl, rfl, rfl, trivial⟩ rfl ?_; intro i ρ hi; simp only [updL]; have hfl := fldI_len x.kind
  (refine AW.seq_k ?_; intro K hK)
  refine AW.region ?_
  refine awP (op_lss rfl rfl rfl) ?_
  refine AWL.nil ?_
  (refine hK _ ?_; clear hK K; (try simp only [nA, Nat.reduceBEq, Nat.reduceEqDiff, ↓reduceIte, Nat.reduceAdd, Nat.reduceSub]))
  (refine AW.seq_k ?_; intro K hK)
  refine AW.cond rfl rfl rfl (fun hc => ?_) (fun hc => ?_)
  ·
   have hc4 := hc; have hlt : i < (fldI x.kind).length := (by simpa using hc4); have hpb := fldI_bd hlt
   refine AW.skip ?_
   (refine hK _ ?_; clear hK K; (skip))
   (refine AW.seq_k ?_; intro K hK)
   refine AW.block ?_
   (refine AW.seq_k ?_; intro K hK)
   refine AW.region ?_
   refine awP (op_ia_ro i rfl (.inl rfl) rfl Tryd.underlying78 rfl (get_mapD (by omega)) (by exact sz80) (bl rfl)) ?_
   (refine awR (op_load_rop1 rfl rfl ag80) ?_)
   refine awP (op_assign rfl rfl) ?_
   refine AWL.nil ?_
   (refine hK _ ?_; clear hK K; (simp only [nA]))
   (refine AW.seq_k ?_; intro K hK)
   refine AW.region ?_
   (refine awR (op_load_ptr rfl rfl rfl rfl ag35 sz35 (bl rfl) rfl) ?_)
   refine awP (op_move rfl rfl) ?_
   refine awJ (OpQ.j (op_callQ (b := true) rfl en39 (C39i (x := x) (p := (fldI x.kind).getD i default) hx hpb.1) (RL.cons (by exact View.same rfl) (RL.cons (by exact View.same rfl) (RL.nil))) rfl)) ?_; (simp only [nA, ↓reduceIte])
   refine awP (op_not rfl rfl rfl) ?_
   refine AWL.nil ?_
   (refine hK _ ?_; clear hK K; (try simp only [nA, Nat.reduceBEq, Nat.reduceEqDiff, ↓reduceIte, Nat.reduceAdd, Nat.reduceSub]))
   refine AW.cond rfl rfl rfl (fun hc => ?_) (fun hc => ?_)
   ·
    have hc5 := hc
    (refine AW.seq_k ?_; intro K hK)
    refine AW.region ?_
    refine awP (op_assign rfl rfl) ?_
    refine AWL.nil ?_
    (refine hK _ ?_; clear hK K; (try simp only [nA, Nat.reduceBEq, Nat.reduceEqDiff, ↓reduceIte, Nat.reduceAdd, Nat.reduceSub]))
    skip
    refine AW.ret ?_; (try simp only [thenE, inBlk, Nat.reduceEqDiff, ↓reduceIte]); rw [val_r hk0 hs0 hl0 (flds_no hlt (by simpa using hc5))]; exact RQ.of0 rfl (.tmp (bl rfl) rfl rfl .nil)
   have hc5 := hc
   refine AW.skip ?_
   (try simp only [thenE, inBlk, Nat.reduceEqDiff, ↓reduceIte])
   (refine hK _ ?_; clear hK K; (skip))
   refine AW.region ?_
   (refine awP (op_addi rfl rfl rfl (by omega)) ?_)
   refine awP (op_move rfl rfl) ?_
   skip
   refine AWL.nil ?_
   refine ⟨i + 1, ⟨by omega, all_b_step (f := fun k => prB x ((fldI x.kind).getD k default).toNat) hi.2 (by simpa using hc5)⟩, by omega, ⟨rfl, rfl, rfl, rfl, trivial⟩, (by rfl), (by rfl)⟩
  have hc4 := hc; have hnl : ¬ i < (fldI x.kind).length := (by simpa using hc4); have hp0 : (fieldsL x.kind).all (prB x) = true := flds_yes (fun k hk => hi.2 k (by omega)); clear hi hnl
  refine AW.exit ?_; (try simp only [thenE, inBlk, Nat.reduceEqDiff, ↓reduceIte])
  clear hK K
  (refine hK _ ?_; clear hK K; (skip))
  (refine AW.seq_k ?_; intro K hK)
  (refine AW.seq_k ?_; intro K hK)
  refine AW.region ?_
  refine awP (op_assign rfl rfl) ?_
  refine AWL.nil ?_
  (refine hK _ ?_; clear hK K; (try simp only [nA, Nat.reduceBEq, Nat.reduceEqDiff, ↓reduceIte, Nat.reduceAdd, Nat.reduceSub]))
  refine AW.block ?_
  refine AW.loopI (fun j => [(1, .ptr 0 1 0 0), (5, .v (.int .i64 (j : Nat)))]) (fun j => ⟨[(1, .own 35 [x.av])], 2⟩) (fun j => 1 ≤ j ∧ j ≤ x.reports.length + 1 ∧ ∀ k, 1 ≤ k → k < j → (x.reports.getD (k - 1) default).device < (x.reports.getD k default).device) (fun j => x.reports.length + 1 - j) 1 ⟨by omega, by omega, fun k h1 h2 => by omega⟩ ⟨rfl, rfl, trivial⟩ rfl ?_; intro j ρ hj; simp only [updL]; have hrl := hx.r
  (refine AW.seq_k ?_; intro K hK)
  (refine AW.seq_k ?_; intro K hK)
  refine AW.region ?_
  refine awP (op_move rfl rfl) ?_
  (refine awP (op_fa_ptr rfl rfl rfl fl35_7 (by exact sz24) (by decide) rfl) ?_)
  (refine awR (op_load_ptr1 rfl rfl rfl rfl ag24 rfl rfl) ?_)
  refine awP (op_len_ro (n := x.reports.length) rfl rfl Tryd.underlying24 (.inr (.inl ⟨_, rfl, by simp⟩))) ?_
  refine awP (op_lss rfl rfl rfl) ?_
  refine AWL.nil ?_
  (refine hK _ ?_; clear hK K; (simp only [nA, ↓reduceIte]))
  refine AW.cond rfl rfl rfl (fun hc => ?_) (fun hc => ?_)
  ·
   have hc6 := hc; have hlt : j < x.reports.length := (by simpa using hc6)
   refine AW.skip ?_
   (refine hK _ ?_; clear hK K; (skip))
   (refine AW.seq_k ?_; intro K hK)
   refine AW.block ?_
   (refine AW.seq_k ?_; intro K hK)
   refine AW.quiet mix (by kernel_rfl) ?_
   (refine aqP (op_fa_ptr rfl rfl rfl fl35_7 (by exact sz24) (by decide) rfl) ?_)
   (refine aqR (op_load_ptr1 rfl rfl rfl rfl ag24 rfl rfl) ?_)
   refine aqP (op_move rfl rfl) ?_
   refine aqP (op_ia_ro j rfl (.inl rfl) rfl Tryd.underlying24 rfl (get_mapD (by omega)) (by exact sz66) (bl rfl)) ?_
   (refine aqP (op_fa_rop rfl rfl fl66_0 (by exact sz3) (by decide) (bl rfl) rfl) ?_)
   (refine aqR (op_load_rop1 rfl rfl ag3) ?_)
   (refine aqP (op_fa_ptr rfl rfl rfl fl35_7 (by exact sz24) (by decide) rfl) ?_)
   (refine aqR (op_load_ptr1 rfl rfl rfl rfl ag24 rfl rfl) ?_)
   refine aqP (op_move rfl rfl) ?_
   (refine aqP (op_subi rfl rfl rfl (by omega)) ?_)
   refine aqP (op_ia_ro (j - 1) rfl (.inl rfl) rfl Tryd.underlying24 (by omega) (get_mapD (by omega)) (by exact sz66) (bl rfl)) ?_
   (refine aqP (op_fa_rop rfl rfl fl66_0 (by exact sz3) (by decide) (bl rfl) rfl) ?_)
   (refine aqR (op_load_rop1 rfl rfl ag3) ?_)
   refine aqP (op_leq rfl rfl rfl) ?_
   refine AQ.nil ?_
   (refine hK _ ?_; clear hK K; (simp only [nA, ↓reduceIte]))
   refine AW.cond rfl rfl rfl (fun hc => ?_) (fun hc => ?_)
   ·
    have hc7 := hc
    (refine AW.seq_k ?_; intro K hK)
    refine AW.region ?_
    refine awP (op_assign rfl rfl) ?_
    refine AWL.nil ?_
    (refine hK _ ?_; clear hK K; (try simp only [nA, Nat.reduceBEq, Nat.reduceEqDiff, ↓reduceIte, Nat.reduceAdd, Nat.reduceSub]))
    skip
    refine AW.ret ?_; (try simp only [thenE, inBlk, Nat.reduceEqDiff, ↓reduceIte]); rw [val_a hk0 hs0 hl0 hp0 (asc_no hj.1 hlt hc7)]; exact RQ.of0 rfl (.tmp (bl rfl) rfl rfl .nil)
   have hc7 := hc
   refine AW.skip ?_
   (try simp only [thenE, inBlk, Nat.reduceEqDiff, ↓reduceIte])
   (refine hK _ ?_; clear hK K; (skip))
   refine AW.region ?_
   refine awP (op_move rfl rfl) ?_
   (refine awP (op_addi rfl rfl rfl (by omega)) ?_)
   refine awP (op_assign rfl rfl) ?_
   skip
   refine AWL.nil ?_
   refine ⟨j + 1, ⟨by omega, by omega, fun k h1 h2 => by rcases Nat.lt_or_ge k j with h | h; exact hj.2.2 k h1 h; (obtain rfl : k = j := by omega); have := of_decide_eq_false hc7; omega⟩, by omega, ⟨rfl, rfl, trivial⟩, (by rfl), (by rfl)⟩
  have hc6 := hc; have hnl : ¬ j < x.reports.length := (by simpa using hc6)
  refine AW.exit ?_; (try simp only [thenE, inBlk, Nat.reduceEqDiff, ↓reduceIte])
  clear hK K
  (refine hK _ ?_; clear hK K; (skip))
  (refine AW.seq_k ?_; intro K hK)
  refine AW.region ?_
  refine awP (op_assign rfl rfl) ?_
  refine AWL.nil ?_
  (refine hK _ ?_; clear hK K; (try simp only [nA, Nat.reduceBEq, Nat.reduceEqDiff, ↓reduceIte, Nat.reduceAdd, Nat.reduceSub]))
  skip
  refine AW.ret ?_; (try simp only [thenE, inBlk, Nat.reduceEqDiff, ↓reduceIte]); rw [val_0 hk0 hs0 hl0 hp0 (asc_yes hnl hj.2.2)]; exact RQ.of0 rfl (.tmp (bl rfl) rfl rfl .nil)
end Go.Proofs.YtfmnaigedgmhoaaDoor
namespace Go.Proofs.YtfmnaigedgmhoaaDoor
open Go.RowKit
set_option linter.unusedSimpArgs false
set_option linter.unusedVariables false
set_option maxRecDepth 100000
theorem only_of {x : Ev} {l : List Nat} (h : fieldsL x.kind = l) : onlyP l x (ev0 x.kind) = onlyV x := by
  unfold onlyV; rw [h]
theorem le_ev0s (k : Int) : RL Le1 [evC (ev0 k) (.v (.slice none 0 0)) (.v (.slice none 0 0))].flatten [(ev0 k).av].flatten := by
  rw [List.flatten_singleton, List.flatten_singleton]; exact le_ev0 k
set_option maxHeartbeats 8000000 in
theorem C11 {x : Ev} : Fn Tryd.prog 11 [] [.agg x.av] [.agg (onlyV x).av] [] := by
  refine Spec.body Tryd.func11 rfl Tryd.ntmps11 (by simp) rfl ?_; intro S0 own0 v0 w0 gl
  (refine AW.seq_k ?_; intro K hK)
  refine AW.region ?_
  refine awJ (op_box rfl rfl rfl sz35 rfl) ?_; (simp only [nA, Nat.reduceBEq, Nat.reduceEqDiff, ↓reduceIte])
  refine awJ (op_alloc rfl ze35 rfl) ?_; (simp only [nA, Nat.reduceBEq, Nat.reduceEqDiff, ↓reduceIte])
  refine AWL.nil ?_
  (refine hK _ ?_; clear hK K; (try simp only [nA, Nat.reduceBEq, Nat.reduceEqDiff, ↓reduceIte, Nat.reduceAdd, Nat.reduceSub]))
  (refine AW.seq_k ?_; intro K hK)
  refine AW.region ?_
  (refine awP (op_fa_ptr rfl rfl rfl fl35_0 (by exact sz3) (by decide) rfl) ?_)
  (refine awR (op_load_ptr1 rfl rfl rfl rfl ag3 rfl rfl) ?_)
  refine awP (op_build2 (xs := [_, .v (.int .i64 0), .v (.string ⟨#[]⟩), .v (.int .i64 0), .v (.int .i64 0), .v (.int .i64 0), .v (.int .i64 0), .v (.int .i64 0), .v (.bool false), .v (.slice none 0 0), .v (.int .i64 0), .v (.int .i64 0), .v (.string ⟨#[]⟩), .v (.int .i64 0), .v (.string ⟨#[]⟩), .v (.int .i64 0), .v (.int .i64 0), .v (.int .i64 0), .v (.int .i64 0), .v (.int .i64 0), .v (.int .i64 0), .v (.int .i64 0), .v (.int .i64 0), .v (.int .i64 0), .v (.int .i64 0), .v (.int .i64 0), .v (.int .i64 0), .v (.slice none 0 0), .v (.string ⟨#[]⟩), .v (.int .i64 0), .v (.string ⟨#[]⟩), .v (.int .i64 0)]) rfl pl35 ze35 [(0, [_])] rfl rfl rfl) ?_
  refine awJ (op_alloc rfl ze35 rfl) ?_; (simp only [nA, Nat.reduceBEq, Nat.reduceEqDiff, ↓reduceIte])
  refine awJ (op_store rfl rfl rfl rfl rfl rfl sz35 rfl (bl rfl) rfl) ?_; (simp only [nA, Nat.reduceBEq, Nat.reduceEqDiff, ↓reduceIte]); refine AWL.gh (Gh.slot (r := 2) (es' := [(ev0 x.kind).av]) rfl rfl (le_ev0s _)) ?_; (try simp only [nA, Nat.reduceBEq, Nat.reduceEqDiff, ↓reduceIte, Nat.reduceAdd, Nat.reduceSub])
  refine AWL.nil ?_
  (refine hK _ ?_; clear hK K; (skip))
  refine AW.join (fun (y : Ev) => [(2, .ptr 1 2 0 0), (3, .ptr 2 3 0 0)]) (fun y => ⟨[(1, .own 35 [x.av]), (2, .own 35 [evC (ev0 0) (.v (.slice none 0 0)) (.v (.slice none 0 0))]), (3, .own 35 [y.av])], 4⟩) (fun y => y = onlyV x) ?_ ?_
  ·
   (refine AW.seq_k ?_; intro K hK)
   refine AW.region ?_
   (refine awP (op_fa_ptr rfl rfl rfl fl35_0 (by exact sz3) (by decide) rfl) ?_)
   (refine awR (op_load_ptr1 rfl rfl rfl rfl ag3 rfl rfl) ?_)
   refine AWL.nil ?_
   (refine hK _ ?_; clear hK K; (try simp only [nA, Nat.reduceBEq, Nat.reduceEqDiff, ↓reduceIte, Nat.reduceAdd, Nat.reduceSub]))
   refine AW.block ?_
   (refine AW.seq_k ?_; intro K hK)
   refine AW.region ?_
   (refine awP (op_eql rfl rfl rfl) ?_)
   refine awP (op_assign rfl rfl) ?_
   refine AWL.nil ?_
   (refine hK _ ?_; clear hK K; (simp only [nA]))
   refine AW.cond rfl rfl rfl (fun hc => ?_) (fun hc => ?_)
   ·
    have hc1 := hc
    refine AW.region ?_
    (refine awP (op_fa_ptr rfl rfl rfl fl35_2 (by exact sz9) (by decide) rfl) ?_)
    (refine awR (op_load_ptr1 rfl rfl rfl rfl ag9 rfl rfl) ?_)
    (refine awP (op_fa_ptr rfl rfl rfl fl35_2 (by exact sz9) (by decide) rfl) ?_)
    refine awJ (op_store rfl rfl rfl rfl rfl rfl sz9 rfl (bl rfl) rfl) ?_; (simp only [nA, ↓reduceIte])
    refine AWL.nil ?_
    (try simp only [thenE, inBlk, Nat.reduceEqDiff, ↓reduceIte])
    exact ⟨(setP 1 x (ev0 x.kind)), only_of (l := [1]) (by rw [show x.kind = 1 from of_decide_eq_true hc1]; rfl), ⟨rfl, rfl, trivial⟩, (by rfl), (by trivial)⟩
   have hc1 := hc
   refine AW.join (fun (b : Bool) => [(1, .ptr 0 1 0 0), (2, .ptr 1 2 0 0), (3, .ptr 2 3 0 0), (8, .v (.int .i64 x.kind)), (14, .v (.bool b))]) (fun b => ⟨[(1, .own 35 [x.av]), (2, .own 35 [evC (ev0 0) (.v (.slice none 0 0)) (.v (.slice none 0 0))]), (3, .own 35 [(ev0 x.kind).av])], 4⟩) (fun b => b = true ↔ x.kind = 2 ∨ x.kind = 10) ?_ ?_
   ·
    (refine AW.seq_k ?_; intro K hK)
    refine AW.region ?_
    (refine awP (op_eql rfl rfl rfl) ?_)
    refine awP (op_assign rfl rfl) ?_
    refine AWL.nil ?_
    (refine hK _ ?_; clear hK K; (simp only [nA]))
    refine AW.cond rfl rfl rfl (fun hc => ?_) (fun hc => ?_)
    ·
     have hc2 := hc
     refine AW.skip ?_
     exact ⟨decide (x.kind = 2), ⟨fun h => .inl (of_decide_eq_true h), fun _ => hc2⟩, ⟨rfl, rfl, rfl, rfl, rfl, trivial⟩, (by rfl), (by rfl)⟩
    have hc2 := hc
    refine AW.region ?_
    (refine awP (op_eql rfl rfl rfl) ?_)
    refine awP (op_assign rfl rfl) ?_
    refine AWL.nil ?_
    exact ⟨decide (x.kind = 10), ⟨fun h => .inr (of_decide_eq_true h), fun h => h.elim (fun h => absurd h (of_decide_eq_false hc2)) decide_eq_true⟩, ⟨rfl, rfl, rfl, rfl, rfl, trivial⟩, (by rfl), (by rfl)⟩
   intro b2 ρ hb2; simp only [updL]
   refine AW.cond rfl rfl rfl (fun hc => ?_) (fun hc => ?_)
   ·
    have hc3 := hc
    refine AW.ado (fun T' => T'.slots[0]? = some (1, .own 35 [x.av]) ∧ ∃ row, T'.slots[2]? = some (3, .own 35 [row])) mix rfl ?_
    refine adPo 0 rfl (fun T' ok => op_fa_ptr rfl rfl ok.1 fl35_3 (by exact sz23) (by decide) rfl) ⟨rfl, _, rfl⟩ (by kernel_rfl) (by kernel_rfl) ?_; (simp only [nA, Nat.reduceBEq, Nat.reduceEqDiff, ↓reduceIte])
    refine adRo 1 rfl (fun T' ok => op_load_ptr rfl rfl ok.1 rfl ag23 sz23 (bl rfl) rfl) ⟨rfl, _, rfl⟩ (by kernel_rfl) (by kernel_rfl) ?_; (try simp only [nA, Nat.reduceBEq, Nat.reduceEqDiff, ↓reduceIte, Nat.reduceAdd, Nat.reduceSub])
    refine adPo 2 rfl (fun T' ok => op_fa_ptr rfl rfl ok.1 fl35_4 (by exact sz3) (by decide) rfl) ⟨rfl, _, rfl⟩ (by kernel_rfl) (by kernel_rfl) ?_; (try simp only [nA, Nat.reduceBEq, Nat.reduceEqDiff, ↓reduceIte, Nat.reduceAdd, Nat.reduceSub])
    refine adRo 3 rfl (fun T' ok => op_load_ptr1 rfl rfl ok.1 rfl ag3 rfl rfl) ⟨rfl, _, rfl⟩ (by kernel_rfl) (by kernel_rfl) ?_; (try simp only [nA, Nat.reduceBEq, Nat.reduceEqDiff, ↓reduceIte, Nat.reduceAdd, Nat.reduceSub])
    refine adPo 4 rfl (fun T' ok => ok.2.elim fun row ok => op_fa_ptr rfl rfl ok fl35_3 (by exact sz23) (by decide) rfl) ⟨rfl, _, rfl⟩ (by kernel_rfl) (by kernel_rfl) ?_; (try simp only [nA, Nat.reduceBEq, Nat.reduceEqDiff, ↓reduceIte, Nat.reduceAdd, Nat.reduceSub])
    refine adJo 5 rfl (op_store rfl rfl rfl rfl rfl rfl sz23 rfl (bl rfl) rfl) (by kernel_rfl) ⟨rfl, _, rfl⟩ ?_; (try simp only [nA, Nat.reduceBEq, Nat.reduceEqDiff, ↓reduceIte, Nat.reduceAdd, Nat.reduceSub])
    refine adPo 6 rfl (fun T' ok => ok.2.elim fun row ok => op_fa_ptr rfl rfl ok fl35_4 (by exact sz3) (by decide) rfl) ⟨rfl, _, rfl⟩ (by kernel_rfl) (by kernel_rfl) ?_; (try simp only [nA, Nat.reduceBEq, Nat.reduceEqDiff, ↓reduceIte, Nat.reduceAdd, Nat.reduceSub])
    refine adJo 7 rfl (op_store rfl rfl rfl rfl rfl rfl sz3 rfl (bl rfl) rfl) (by kernel_rfl) ⟨rfl, _, rfl⟩ ?_; (simp only [nA, ↓reduceIte])
    refine adDoneo (by kernel_rfl) ?_
    (try simp only [thenE, inBlk, Nat.reduceEqDiff, ↓reduceIte])
    exact ⟨(setP 3 x (setP 2 x (ev0 x.kind))), only_of (l := [2, 3]) (by rcases hb2.1 hc3 with h | h <;> rw [h] <;> rfl), ⟨rfl, rfl, trivial⟩, (by rfl), (by trivial)⟩
   have hc3 := hc
   (refine AW.seq_k ?_; intro K hK)
   refine AW.region ?_
   (refine awP (op_eql rfl rfl rfl) ?_)
   refine awP (op_assign rfl rfl) ?_
   refine AWL.nil ?_
   (refine hK _ ?_; clear hK K; (simp only [nA]))
   refine AW.cond rfl rfl rfl (fun hc => ?_) (fun hc => ?_)
   ·
    have hc4 := hc
    refine AW.ado (fun T' => T'.slots[0]? = some (1, .own 35 [x.av]) ∧ ∃ row, T'.slots[2]? = some (3, .own 35 [row])) mix rfl ?_
    refine adPo 0 rfl (fun T' ok => op_fa_ptr rfl rfl ok.1 fl35_1 (by exact sz3) (by decide) rfl) ⟨rfl, _, rfl⟩ (by kernel_rfl) (by kernel_rfl) ?_; (simp only [nA, Nat.reduceBEq, Nat.reduceEqDiff, ↓reduceIte])
    refine adRo 1 rfl (fun T' ok => op_load_ptr1 rfl rfl ok.1 rfl ag3 rfl rfl) ⟨rfl, _, rfl⟩ (by kernel_rfl) (by kernel_rfl) ?_; (try simp only [nA, Nat.reduceBEq, Nat.reduceEqDiff, ↓reduceIte, Nat.reduceAdd, Nat.reduceSub])
    refine adPo 2 rfl (fun T' ok => op_fa_ptr rfl rfl ok.1 fl35_7 (by exact sz24) (by decide) rfl) ⟨rfl, _, rfl⟩ (by kernel_rfl) (by kernel_rfl) ?_; (try simp only [nA, Nat.reduceBEq, Nat.reduceEqDiff, ↓reduceIte, Nat.reduceAdd, Nat.reduceSub])
    refine adRo 3 rfl (fun T' ok => op_load_ptr1 rfl rfl ok.1 rfl ag24 rfl rfl) ⟨rfl, _, rfl⟩ (by kernel_rfl) (by kernel_rfl) ?_; (try simp only [nA, Nat.reduceBEq, Nat.reduceEqDiff, ↓reduceIte, Nat.reduceAdd, Nat.reduceSub])
    refine adPo 4 rfl (fun T' ok => ok.2.elim fun row ok => op_fa_ptr rfl rfl ok fl35_1 (by exact sz3) (by decide) rfl) ⟨rfl, _, rfl⟩ (by kernel_rfl) (by kernel_rfl) ?_; (try simp only [nA, Nat.reduceBEq, Nat.reduceEqDiff, ↓reduceIte, Nat.reduceAdd, Nat.reduceSub])
    refine adJo 5 rfl (op_store rfl rfl rfl rfl rfl rfl sz3 rfl (bl rfl) rfl) (by kernel_rfl) ⟨rfl, _, rfl⟩ ?_; (simp only [nA, ↓reduceIte])
    refine adPo 6 rfl (fun T' ok => ok.2.elim fun row ok => op_fa_ptr rfl rfl ok fl35_7 (by exact sz24) (by decide) rfl) ⟨rfl, _, rfl⟩ (by kernel_rfl) (by kernel_rfl) ?_; (try simp only [nA, Nat.reduceBEq, Nat.reduceEqDiff, ↓reduceIte, Nat.reduceAdd, Nat.reduceSub])
    refine adJo 7 rfl (op_store rfl rfl rfl rfl rfl rfl sz24 rfl (bl rfl) rfl) (by kernel_rfl) ⟨rfl, _, rfl⟩ ?_; (simp only [nA, ↓reduceIte])
    refine adDoneo (by kernel_rfl) ?_
    (try simp only [thenE, inBlk, Nat.reduceEqDiff, ↓reduceIte])
    exact ⟨(setP 6 x (setP 0 x (ev0 x.kind))), only_of (l := [0, 6]) (by rw [show x.kind = 3 from of_decide_eq_true hc4]; rfl), ⟨rfl, rfl, trivial⟩, (by rfl), (by trivial)⟩
   have hc4 := hc
   (refine AW.seq_k ?_; intro K hK)
   refine AW.region ?_
   (refine awP (op_eql rfl rfl rfl) ?_)
   refine awP (op_assign rfl rfl) ?_
   refine AWL.nil ?_
   (refine hK _ ?_; clear hK K; (simp only [nA]))
   refine AW.cond rfl rfl rfl (fun hc => ?_) (fun hc => ?_)
   ·
    have hc5 := hc
    refine AW.ado (fun T' => T'.slots[0]? = some (1, .own 35 [x.av]) ∧ ∃ row, T'.slots[2]? = some (3, .own 35 [row])) mix rfl ?_
    refine adPo 0 rfl (fun T' ok => op_fa_ptr rfl rfl ok.1 fl35_5 (by exact sz3) (by decide) rfl) ⟨rfl, _, rfl⟩ (by kernel_rfl) (by kernel_rfl) ?_; (simp only [nA, Nat.reduceBEq, Nat.reduceEqDiff, ↓reduceIte])
    refine adRo 1 rfl (fun T' ok => op_load_ptr1 rfl rfl ok.1 rfl ag3 rfl rfl) ⟨rfl, _, rfl⟩ (by kernel_rfl) (by kernel_rfl) ?_; (try simp only [nA, Nat.reduceBEq, Nat.reduceEqDiff, ↓reduceIte, Nat.reduceAdd, Nat.reduceSub])
    refine adPo 2 rfl (fun T' ok => op_fa_ptr rfl rfl ok.1 fl35_6 (by exact sz4) (by decide) rfl) ⟨rfl, _, rfl⟩ (by kernel_rfl) (by kernel_rfl) ?_; (try simp only [nA, Nat.reduceBEq, Nat.reduceEqDiff, ↓reduceIte, Nat.reduceAdd, Nat.reduceSub])
    refine adRo 3 rfl (fun T' ok => op_load_ptr1 rfl rfl ok.1 rfl ag4 rfl rfl) ⟨rfl, _, rfl⟩ (by kernel_rfl) (by kernel_rfl) ?_; (try simp only [nA, Nat.reduceBEq, Nat.reduceEqDiff, ↓reduceIte, Nat.reduceAdd, Nat.reduceSub])
    refine adPo 4 rfl (fun T' ok => ok.2.elim fun row ok => op_fa_ptr rfl rfl ok fl35_5 (by exact sz3) (by decide) rfl) ⟨rfl, _, rfl⟩ (by kernel_rfl) (by kernel_rfl) ?_; (try simp only [nA, Nat.reduceBEq, Nat.reduceEqDiff, ↓reduceIte, Nat.reduceAdd, Nat.reduceSub])
    refine adJo 5 rfl (op_store rfl rfl rfl rfl rfl rfl sz3 rfl (bl rfl) rfl) (by kernel_rfl) ⟨rfl, _, rfl⟩ ?_; (simp only [nA, ↓reduceIte])
    refine adPo 6 rfl (fun T' ok => ok.2.elim fun row ok => op_fa_ptr rfl rfl ok fl35_6 (by exact sz4) (by decide) rfl) ⟨rfl, _, rfl⟩ (by kernel_rfl) (by kernel_rfl) ?_; (try simp only [nA, Nat.reduceBEq, Nat.reduceEqDiff, ↓reduceIte, Nat.reduceAdd, Nat.reduceSub])
    refine adJo 7 rfl (op_store rfl rfl rfl rfl rfl rfl sz4 rfl (bl rfl) rfl) (by kernel_rfl) ⟨rfl, _, rfl⟩ ?_; (simp only [nA, ↓reduceIte])
    refine adDoneo (by kernel_rfl) ?_
    (try simp only [thenE, inBlk, Nat.reduceEqDiff, ↓reduceIte])
    exact ⟨(setP 5 x (setP 4 x (ev0 x.kind))), only_of (l := [4, 5]) (by rw [show x.kind = 4 from of_decide_eq_true hc5]; rfl), ⟨rfl, rfl, trivial⟩, (by rfl), (by trivial)⟩
   have hc5 := hc
   (refine AW.seq_k ?_; intro K hK)
   refine AW.region ?_
   (refine awP (op_eql rfl rfl rfl) ?_)
   refine awP (op_assign rfl rfl) ?_
   refine AWL.nil ?_
   (refine hK _ ?_; clear hK K; (simp only [nA]))
   refine AW.cond rfl rfl rfl (fun hc => ?_) (fun hc => ?_)
   ·
    have hc6 := hc
    refine AW.region ?_
    (refine awP (op_fa_ptr rfl rfl rfl fl35_8 (by exact sz28) (by decide) rfl) ?_)
    (refine awR (op_load_ptr rfl rfl rfl rfl ag28 sz28 (bl rfl) rfl) ?_)
    (refine awP (op_fa_ptr rfl rfl rfl fl35_8 (by exact sz28) (by decide) rfl) ?_)
    refine awJ (op_store rfl rfl rfl rfl rfl rfl sz28 rfl (bl rfl) rfl) ?_; (try simp only [nA, Nat.reduceBEq, Nat.reduceEqDiff, ↓reduceIte, Nat.reduceAdd, Nat.reduceSub])
    refine AWL.nil ?_
    (try simp only [thenE, inBlk, Nat.reduceEqDiff, ↓reduceIte])
    exact ⟨(setP 7 x (ev0 x.kind)), only_of (l := [7]) (by rw [show x.kind = 5 from of_decide_eq_true hc6]; rfl), ⟨rfl, rfl, trivial⟩, (by rfl), (by trivial)⟩
   have hc6 := hc
   refine AW.join (fun (b : Bool) => [(1, .ptr 0 1 0 0), (2, .ptr 1 2 0 0), (3, .ptr 2 3 0 0), (8, .v (.int .i64 x.kind)), (44, .v (.bool b))]) (fun b => ⟨[(1, .own 35 [x.av]), (2, .own 35 [evC (ev0 0) (.v (.slice none 0 0)) (.v (.slice none 0 0))]), (3, .own 35 [(ev0 x.kind).av])], 4⟩) (fun b => b = true ↔ x.kind = 6 ∨ x.kind = 7) ?_ ?_
   ·
    (refine AW.seq_k ?_; intro K hK)
    refine AW.region ?_
    (refine awP (op_eql rfl rfl rfl) ?_)
    refine awP (op_assign rfl rfl) ?_
    refine AWL.nil ?_
    (refine hK _ ?_; clear hK K; (simp only [nA]))
    refine AW.cond rfl rfl rfl (fun hc => ?_) (fun hc => ?_)
    ·
     have hc7 := hc
     refine AW.skip ?_
     exact ⟨decide (x.kind = 6), ⟨fun h => .inl (of_decide_eq_true h), fun _ => hc7⟩, ⟨rfl, rfl, rfl, rfl, rfl, trivial⟩, (by rfl), (by rfl)⟩
    have hc7 := hc
    refine AW.region ?_
    (refine awP (op_eql rfl rfl rfl) ?_)
    refine awP (op_assign rfl rfl) ?_
    refine AWL.nil ?_
    exact ⟨decide (x.kind = 7), ⟨fun h => .inr (of_decide_eq_true h), fun h => h.elim (fun h => absurd h (of_decide_eq_false hc7)) decide_eq_true⟩, ⟨rfl, rfl, rfl, rfl, rfl, trivial⟩, (by rfl), (by rfl)⟩
   intro b7 ρ hb7; simp only [updL]
   refine AW.cond rfl rfl rfl (fun hc => ?_) (fun hc => ?_)
   ·
    have hc8 := hc
    refine AW.region ?_
    (refine awP (op_fa_ptr rfl rfl rfl fl35_4 (by exact sz3) (by decide) rfl) ?_)
    (refine awR (op_load_ptr1 rfl rfl rfl rfl ag3 rfl rfl) ?_)
    (refine awP (op_fa_ptr rfl rfl rfl fl35_4 (by exact sz3) (by decide) rfl) ?_)
    refine awJ (op_store rfl rfl rfl rfl rfl rfl sz3 rfl (bl rfl) rfl) ?_; (simp only [nA, ↓reduceIte])
    refine AWL.nil ?_
    (try simp only [thenE, inBlk, Nat.reduceEqDiff, ↓reduceIte])
    exact ⟨(setP 3 x (ev0 x.kind)), only_of (l := [3]) (by rcases hb7.1 hc8 with h | h <;> rw [h] <;> rfl), ⟨rfl, rfl, trivial⟩, (by rfl), (by trivial)⟩
   have hc8 := hc
   (refine AW.seq_k ?_; intro K hK)
   refine AW.region ?_
   (refine awP (op_eql rfl rfl rfl) ?_)
   refine awP (op_assign rfl rfl) ?_
   refine AWL.nil ?_
   (refine hK _ ?_; clear hK K; (simp only [nA]))
   refine AW.cond rfl rfl rfl (fun hc => ?_) (fun hc => ?_)
   ·
    have hc9 := hc
    refine AW.ado (fun T' => T'.slots[0]? = some (1, .own 35 [x.av]) ∧ ∃ row, T'.slots[2]? = some (3, .own 35 [row])) mix rfl ?_
    refine adPo 0 rfl (fun T' ok => op_fa_ptr rfl rfl ok.1 fl35_10 (by exact sz32) (by decide) rfl) ⟨rfl, _, rfl⟩ (by kernel_rfl) (by kernel_rfl) ?_; (simp only [nA, Nat.reduceBEq, Nat.reduceEqDiff, ↓reduceIte])
    refine adRo 1 rfl (fun T' ok => op_load_ptr rfl rfl ok.1 rfl ag32 sz32 (bl rfl) rfl) ⟨rfl, _, rfl⟩ (by kernel_rfl) (by kernel_rfl) ?_; (try simp only [nA, Nat.reduceBEq, Nat.reduceEqDiff, ↓reduceIte, Nat.reduceAdd, Nat.reduceSub])
    refine adPo 2 rfl (fun T' ok => op_fa_ptr rfl rfl ok.1 fl35_4 (by exact sz3) (by decide) rfl) ⟨rfl, _, rfl⟩ (by kernel_rfl) (by kernel_rfl) ?_; (try simp only [nA, Nat.reduceBEq, Nat.reduceEqDiff, ↓reduceIte, Nat.reduceAdd, Nat.reduceSub])
    refine adRo 3 rfl (fun T' ok => op_load_ptr1 rfl rfl ok.1 rfl ag3 rfl rfl) ⟨rfl, _, rfl⟩ (by kernel_rfl) (by kernel_rfl) ?_; (try simp only [nA, Nat.reduceBEq, Nat.reduceEqDiff, ↓reduceIte, Nat.reduceAdd, Nat.reduceSub])
    refine adPo 4 rfl (fun T' ok => ok.2.elim fun row ok => op_fa_ptr rfl rfl ok fl35_10 (by exact sz32) (by decide) rfl) ⟨rfl, _, rfl⟩ (by kernel_rfl) (by kernel_rfl) ?_; (try simp only [nA, Nat.reduceBEq, Nat.reduceEqDiff, ↓reduceIte, Nat.reduceAdd, Nat.reduceSub])
    refine adJo 5 rfl (op_store rfl rfl rfl rfl rfl rfl sz32 rfl (bl rfl) rfl) (by kernel_rfl) ⟨rfl, _, rfl⟩ ?_; (try simp only [nA, Nat.reduceBEq, Nat.reduceEqDiff, ↓reduceIte, Nat.reduceAdd, Nat.reduceSub])
    refine adPo 6 rfl (fun T' ok => ok.2.elim fun row ok => op_fa_ptr rfl rfl ok fl35_4 (by exact sz3) (by decide) rfl) ⟨rfl, _, rfl⟩ (by kernel_rfl) (by kernel_rfl) ?_; (try simp only [nA, Nat.reduceBEq, Nat.reduceEqDiff, ↓reduceIte, Nat.reduceAdd, Nat.reduceSub])
    refine adJo 7 rfl (op_store rfl rfl rfl rfl rfl rfl sz3 rfl (bl rfl) rfl) (by kernel_rfl) ⟨rfl, _, rfl⟩ ?_; (simp only [nA, ↓reduceIte])
    refine adDoneo (by kernel_rfl) ?_
    (try simp only [thenE, inBlk, Nat.reduceEqDiff, ↓reduceIte])
    exact ⟨(setP 3 x (setP 9 x (ev0 x.kind))), only_of (l := [9, 3]) (by rw [show x.kind = 8 from of_decide_eq_true hc9]; rfl), ⟨rfl, rfl, trivial⟩, (by rfl), (by trivial)⟩
   have hc9 := hc
   (refine AW.seq_k ?_; intro K hK)
   refine AW.region ?_
   (refine awP (op_eql rfl rfl rfl) ?_)
   refine awP (op_assign rfl rfl) ?_
   refine AWL.nil ?_
   (refine hK _ ?_; clear hK K; (simp only [nA]))
   refine AW.cond rfl rfl rfl (fun hc => ?_) (fun hc => ?_)
   ·
    have hc10 := hc
    refine AW.region ?_
    (refine awP (op_fa_ptr rfl rfl rfl fl35_10 (by exact sz32) (by decide) rfl) ?_)
    (refine awR (op_load_ptr rfl rfl rfl rfl ag32 sz32 (bl rfl) rfl) ?_)
    (refine awP (op_fa_ptr rfl rfl rfl fl35_10 (by exact sz32) (by decide) rfl) ?_)
    refine awJ (op_store rfl rfl rfl rfl rfl rfl sz32 rfl (bl rfl) rfl) ?_; (try simp only [nA, Nat.reduceBEq, Nat.reduceEqDiff, ↓reduceIte, Nat.reduceAdd, Nat.reduceSub])
    refine AWL.nil ?_
    (try simp only [thenE, inBlk, Nat.reduceEqDiff, ↓reduceIte])
    exact ⟨(setP 9 x (ev0 x.kind)), only_of (l := [9]) (by rw [show x.kind = 9 from of_decide_eq_true hc10]; rfl), ⟨rfl, rfl, trivial⟩, (by rfl), (by trivial)⟩
   have hc10 := hc
   (refine AW.seq_k ?_; intro K hK)
   refine AW.region ?_
   (refine awP (op_eql rfl rfl rfl) ?_)
   refine awP (op_assign rfl rfl) ?_
   refine AWL.nil ?_
   (refine hK _ ?_; clear hK K; (simp only [nA]))
   refine AW.cond rfl rfl rfl (fun hc => ?_) (fun hc => ?_)
   ·
    have hc11 := hc
    refine AW.region ?_
    (refine awP (op_fa_ptr rfl rfl rfl fl35_9 (by exact sz3) (by decide) rfl) ?_)
    (refine awR (op_load_ptr1 rfl rfl rfl rfl ag3 rfl rfl) ?_)
    (refine awP (op_fa_ptr rfl rfl rfl fl35_9 (by exact sz3) (by decide) rfl) ?_)
    refine awJ (op_store rfl rfl rfl rfl rfl rfl sz3 rfl (bl rfl) rfl) ?_; (simp only [nA, ↓reduceIte])
    refine AWL.nil ?_
    (try simp only [thenE, inBlk, Nat.reduceEqDiff, ↓reduceIte])
    exact ⟨(setP 8 x (ev0 x.kind)), only_of (l := [8]) (by rw [show x.kind = 11 from of_decide_eq_true hc11]; rfl), ⟨rfl, rfl, trivial⟩, (by rfl), (by trivial)⟩
   have hc11 := hc
   (refine AW.seq_k ?_; intro K hK)
   refine AW.region ?_
   (refine awP (op_eql rfl rfl rfl) ?_)
   refine awP (op_assign rfl rfl) ?_
   refine AWL.nil ?_
   (refine hK _ ?_; clear hK K; (simp only [nA]))
   refine AW.cond rfl rfl rfl (fun hc => ?_) (fun hc => ?_)
   ·
    have hc12 := hc
    refine AW.ado (fun T' => T'.slots[0]? = some (1, .own 35 [x.av]) ∧ ∃ row, T'.slots[2]? = some (3, .own 35 [row])) mix rfl ?_
    refine adPo 0 rfl (fun T' ok => op_fa_ptr rfl rfl ok.1 fl35_9 (by exact sz3) (by decide) rfl) ⟨rfl, _, rfl⟩ (by kernel_rfl) (by kernel_rfl) ?_; (simp only [nA, Nat.reduceBEq, Nat.reduceEqDiff, ↓reduceIte])
    refine adRo 1 rfl (fun T' ok => op_load_ptr1 rfl rfl ok.1 rfl ag3 rfl rfl) ⟨rfl, _, rfl⟩ (by kernel_rfl) (by kernel_rfl) ?_; (try simp only [nA, Nat.reduceBEq, Nat.reduceEqDiff, ↓reduceIte, Nat.reduceAdd, Nat.reduceSub])
    refine adPo 2 rfl (fun T' ok => op_fa_ptr rfl rfl ok.1 fl35_11 (by exact sz33) (by decide) rfl) ⟨rfl, _, rfl⟩ (by kernel_rfl) (by kernel_rfl) ?_; (try simp only [nA, Nat.reduceBEq, Nat.reduceEqDiff, ↓reduceIte, Nat.reduceAdd, Nat.reduceSub])
    refine adRo 3 rfl (fun T' ok => op_load_ptr1 rfl rfl ok.1 rfl ag33 rfl rfl) ⟨rfl, _, rfl⟩ (by kernel_rfl) (by kernel_rfl) ?_; (try simp only [nA, Nat.reduceBEq, Nat.reduceEqDiff, ↓reduceIte, Nat.reduceAdd, Nat.reduceSub])
    refine adPo 4 rfl (fun T' ok => ok.2.elim fun row ok => op_fa_ptr rfl rfl ok fl35_9 (by exact sz3) (by decide) rfl) ⟨rfl, _, rfl⟩ (by kernel_rfl) (by kernel_rfl) ?_; (try simp only [nA, Nat.reduceBEq, Nat.reduceEqDiff, ↓reduceIte, Nat.reduceAdd, Nat.reduceSub])
    refine adJo 5 rfl (op_store rfl rfl rfl rfl rfl rfl sz3 rfl (bl rfl) rfl) (by kernel_rfl) ⟨rfl, _, rfl⟩ ?_; (simp only [nA, ↓reduceIte])
    refine adPo 6 rfl (fun T' ok => ok.2.elim fun row ok => op_fa_ptr rfl rfl ok fl35_11 (by exact sz33) (by decide) rfl) ⟨rfl, _, rfl⟩ (by kernel_rfl) (by kernel_rfl) ?_; (try simp only [nA, Nat.reduceBEq, Nat.reduceEqDiff, ↓reduceIte, Nat.reduceAdd, Nat.reduceSub])
    refine adJo 7 rfl (op_store rfl rfl rfl rfl rfl rfl sz33 rfl (bl rfl) rfl) (by kernel_rfl) ⟨rfl, _, rfl⟩ ?_; (simp only [nA, ↓reduceIte])
    refine adDoneo (by kernel_rfl) ?_
    (try simp only [thenE, inBlk, Nat.reduceEqDiff, ↓reduceIte])
    exact ⟨(setP 10 x (setP 8 x (ev0 x.kind))), only_of (l := [8, 10]) (by rw [show x.kind = 12 from of_decide_eq_true hc12]; rfl), ⟨rfl, rfl, trivial⟩, (by rfl), (by trivial)⟩
   have hc12 := hc
   (refine AW.seq_k ?_; intro K hK)
   refine AW.region ?_
   (refine awP (op_eql rfl rfl rfl) ?_)
   refine awP (op_assign rfl rfl) ?_
   refine AWL.nil ?_
   (refine hK _ ?_; clear hK K; (simp only [nA]))
   refine AW.cond rfl rfl rfl (fun hc => ?_) (fun hc => ?_)
   ·
    have hc13 := hc
    refine AW.region ?_
    (refine awP (op_fa_ptr rfl rfl rfl fl35_12 (by exact sz26) (by decide) rfl) ?_)
    (refine awR (op_load_ptr rfl rfl rfl rfl ag26 sz26 (bl rfl) rfl) ?_)
    (refine awP (op_fa_ptr rfl rfl rfl fl35_12 (by exact sz26) (by decide) rfl) ?_)
    refine awJ (op_store rfl rfl rfl rfl rfl rfl sz26 rfl (bl rfl) rfl) ?_; (try simp only [nA, Nat.reduceBEq, Nat.reduceEqDiff, ↓reduceIte, Nat.reduceAdd, Nat.reduceSub])
    refine AWL.nil ?_
    (try simp only [thenE, inBlk, Nat.reduceEqDiff, ↓reduceIte])
    exact ⟨(setP 11 x (ev0 x.kind)), only_of (l := [11]) (by rw [show x.kind = 13 from of_decide_eq_true hc13]; rfl), ⟨rfl, rfl, trivial⟩, (by rfl), (by trivial)⟩
   have hc13 := hc
   refine AW.skip ?_
   (try simp only [thenE, inBlk, Nat.reduceEqDiff, ↓reduceIte])
   exact ⟨ev0 x.kind, only_of (l := []) (by have h2 : ¬ (x.kind = 2 ∨ x.kind = 10) := (fun h => by have := hb2.2 h; rw [this] at hc3; cases hc3); have h7 : ¬ (x.kind = 6 ∨ x.kind = 7) := (fun h => by have := hb7.2 h; rw [this] at hc8; cases hc8); simp only [decide_eq_false_iff_not] at hc1 hc4 hc5 hc6 hc9 hc10 hc11 hc12 hc13; unfold fieldsL; repeat rw [if_neg (by omega)]), ⟨rfl, rfl, trivial⟩, (by rfl), (by trivial)⟩
  rintro y ρ rfl; simp only [updL]
  (refine AW.seq_k ?_; intro K hK)
  refine AW.region ?_
  (refine awR (op_load_ptr rfl rfl rfl rfl ag35 sz35 (bl rfl) rfl) ?_)
  refine awJ (op_store rfl rfl rfl rfl rfl rfl sz35 rfl (bl rfl) rfl) ?_; (try simp only [nA, Nat.reduceBEq, Nat.reduceEqDiff, ↓reduceIte, Nat.reduceAdd, Nat.reduceSub])
  refine AWL.nil ?_
  (refine hK _ ?_; clear hK K; (skip))
  skip
  refine AW.ret ?_; (try simp only [thenE, inBlk, Nat.reduceEqDiff, ↓reduceIte]); exact RQ.of0 rfl (.cell (bl rfl) rfl rfl rfl ag35 sz35 (bl rfl) rfl rfl .nil)
end Go.Proofs.YtfmnaigedgmhoaaDoor
namespace Go.Proofs.YtfmnaigedgmhoaaDoor
open Go.RowKit
set_option linter.unusedSimpArgs false
set_option linter.unusedVariables false
set_option maxRecDepth 100000
set_option maxHeartbeats 8000000 in
theorem C69 {n : Int} : Fn Tryd.prog 69 [] [.v (.int .i64 n)] [.v (.bool (inB n 0 23))] [] := by
  have e : inB n 0 23 = (decide (n ≥ 0) && decide (n < 24)) := by
    unfold inB
    rw [show decide (n < 24) = decide (n ≤ 23) from decide_eq_decide.2 (by omega)]
  rw [e]
  refine Spec.body Tryd.func69 rfl Tryd.ntmps69 (by simp) rfl ?_; intro S0 own0 v0 w0 gl
  (refine AW.seq_k ?_; intro K hK)
  refine AW.region ?_
  refine awP (op_assign rfl rfl) ?_
  refine AWL.nil ?_
  (refine hK _ ?_; clear hK K; (try simp only [nA, Nat.reduceBEq, Nat.reduceEqDiff, ↓reduceIte, Nat.reduceAdd, Nat.reduceSub]))
  (refine AW.seq_k ?_; intro K hK)
  refine AW.region (AWL.quiet ?_)
  refine aqP (op_move rfl rfl) ?_
  refine aqP (op_geq rfl rfl rfl) ?_
  refine aqP (op_move rfl rfl) ?_
  refine' aqAnd' [_, _] [6,7] rfl rfl rfl rfl rfl rfl rfl rfl rfl rfl rfl rfl (fun hb => ?_) ?_; rotate_left
  ·
   (try simp only [hcS] at hb)
   refine aqP (op_move rfl rfl) ?_
   refine aqP (op_lss rfl rfl rfl) ?_
   (refine aqSeg rfl rfl rfl ?_; repeat (first | exact fun _ _ => rfl | refine upd_out rfl ?_))
  simp only [nA, ↓reduceIte]
  refine aqP (op_assign rfl rfl) ?_
  refine AQ.nil ?_
  (refine hK _ ?_; clear hK K; (simp only [nA]))
  skip
  refine AW.ret ?_; (try simp only [thenE, inBlk, Nat.reduceEqDiff, ↓reduceIte]); exact RQ.of0 rfl (.tmp (bl rfl) rfl rfl .nil)
set_option maxHeartbeats 8000000 in
theorem C70 {s : ByteArray} (hs : s.size ≤ 1000000) : Fn Tryd.prog 70 [] [.v (.string s)] [.v (.bool (rdB s))] [] := by
  refine Spec.body Tryd.func70 rfl Tryd.ntmps70 (by simp) rfl ?_; intro S0 own0 v0 w0 gl
  (refine AW.seq_k ?_; intro K hK)
  refine AW.region ?_
  refine awP (op_assign rfl rfl) ?_
  refine AWL.nil ?_
  (refine hK _ ?_; clear hK K; (try simp only [nA, Nat.reduceBEq, Nat.reduceEqDiff, ↓reduceIte, Nat.reduceAdd, Nat.reduceSub]))
  (refine AW.seq_k ?_; intro K hK)
  (refine AW.seq_k ?_; intro K hK)
  refine AW.region ?_
  refine awP (op_assign rfl rfl) ?_
  refine AWL.nil ?_
  (refine hK _ ?_; clear hK K; (try simp only [nA, Nat.reduceBEq, Nat.reduceEqDiff, ↓reduceIte, Nat.reduceAdd, Nat.reduceSub]))
  refine AW.block ?_
  refine AW.loopI (fun i => [(0, .v (.string s)), (3, .v (.int .i64 (i : Nat)))]) (fun _ => ⟨[], 1⟩) (fun i => i ≤ s.size ∧ (s.data.toList.take i).all chB = true) (fun i => s.size - i) 0 (by simp) ⟨rfl, rfl, trivial⟩ rfl ?_; intro i ρ hi; simp only [updL]
  (refine AW.seq_k ?_; intro K hK)
  (refine AW.seq_k ?_; intro K hK)
  refine AW.region ?_
  refine awP (op_move rfl rfl) ?_
  refine awP (op_move rfl rfl) ?_
  (refine awP (op_len_str rfl rfl Tryd.underlying9) ?_)
  refine awP (op_lss rfl rfl rfl) ?_
  refine AWL.nil ?_
  (refine hK _ ?_; clear hK K; (simp only [nA, ↓reduceIte]))
  refine AW.cond rfl rfl rfl (fun hc => ?_) (fun hc => ?_)
  ·
   have hc1 := hc; have hlt : i < s.size := (by simpa using hc1)
   refine AW.skip ?_
   (refine hK _ ?_; clear hK K; (skip))
   (refine AW.seq_k ?_; intro K hK)
   refine AW.block ?_
   (refine AW.seq_k ?_; intro K hK)
   refine AW.region (AWL.quiet ?_)
   refine aqP (op_move rfl rfl) ?_
   refine aqP (op_move rfl rfl) ?_
   refine aqP (op_ix_str _ rfl rfl rfl Tryd.underlying9 rfl (get_chr (i := i) (by omega))) ?_
   (refine aqP (op_neq rfl rfl rfl) ?_)
   refine aqP (op_move rfl rfl) ?_
   refine' aqAndN' [_, _, _, _, _, _, _, _, _, _] [15,16,17,18,19,20,21,22,23,24] rfl rfl rfl rfl rfl rfl rfl rfl rfl rfl rfl rfl (fun hb => ?_) ?_; rotate_left
   ·
    (try simp only [hcS] at hb)
    refine aqP (op_move rfl rfl) ?_
    refine aqP (op_move rfl rfl) ?_
    refine aqP (op_ix_str _ rfl rfl rfl Tryd.underlying9 rfl (get_chr (i := i) (by omega))) ?_
    refine aqP (op_lss rfl rfl rfl) ?_
    refine aqP (op_move rfl rfl) ?_
    refine' aqOr' [_, _, _, _] [20,21,22,23] rfl rfl rfl rfl rfl rfl rfl rfl rfl rfl rfl rfl (fun hb => ?_) ?_; rotate_left
    ·
     (try simp only [hcS] at hb)
     refine aqP (op_move rfl rfl) ?_
     refine aqP (op_move rfl rfl) ?_
     refine aqP (op_ix_str _ rfl rfl rfl Tryd.underlying9 rfl (get_chr (i := i) (by omega))) ?_
     refine aqP (op_gtr rfl rfl rfl) ?_
     (refine aqSeg rfl rfl rfl ?_; repeat (first | exact fun _ _ => rfl | refine upd_out rfl ?_))
    simp only [nA, ↓reduceIte]
    (refine aqSeg rfl rfl rfl ?_; repeat (first | exact fun _ _ => rfl | refine upd_out rfl ?_ | refine era_out rfl ?_))
   simp only [nA, ↓reduceIte]
   refine AQ.nil ?_
   (refine hK _ ?_; clear hK K; (skip))
   refine AW.cond rfl rfl rfl (fun hc => ?_) (fun hc => ?_)
   ·
    have hc2 := hc; rw [chB_eq] at hc2
    (refine AW.seq_k ?_; intro K hK)
    refine AW.region ?_
    refine awP (op_assign rfl rfl) ?_
    refine AWL.nil ?_
    (refine hK _ ?_; clear hK K; (try simp only [nA, Nat.reduceBEq, Nat.reduceEqDiff, ↓reduceIte, Nat.reduceAdd, Nat.reduceSub]))
    skip
    refine AW.ret ?_; (try simp only [thenE, inBlk, Nat.reduceEqDiff, ↓reduceIte]); rw [rdB_no (all_no hlt (by simpa using hc2))]; exact RQ.of0 rfl (.tmp (bl rfl) rfl rfl .nil)
   have hc2 := hc; rw [chB_eq] at hc2
   refine AW.skip ?_
   (try simp only [thenE, inBlk, Nat.reduceEqDiff, ↓reduceIte])
   (refine hK _ ?_; clear hK K; (skip))
   refine AW.region ?_
   refine awP (op_move rfl rfl) ?_
   (refine awP (op_addi rfl rfl rfl (by omega)) ?_)
   refine awP (op_assign rfl rfl) ?_
   skip
   refine AWL.nil ?_
   refine ⟨i + 1, ⟨by omega, by rw [take_all hlt, hi.2]; simpa using hc2⟩, by omega, ⟨rfl, rfl, trivial⟩, rfl, rfl⟩
  have hc1 := hc; have hnl : ¬ i < s.size := (by simpa using hc1)
  refine AW.exit ?_; (try simp only [thenE, inBlk, Nat.reduceEqDiff, ↓reduceIte])
  clear hK K
  (refine hK _ ?_; clear hK K; (skip))
  (refine AW.seq_k ?_; intro K hK)
  refine AW.region (AWL.quiet ?_)
  refine aqP (op_move rfl rfl) ?_
  (refine aqP (op_len_str rfl rfl Tryd.underlying9) ?_)
  (refine aqP (op_eql rfl rfl rfl) ?_)
  refine aqP (op_move rfl rfl) ?_
  refine' aqOr' [_, _, _] [30,31,32] rfl rfl rfl rfl rfl rfl rfl rfl rfl rfl rfl rfl (fun hb => ?_) ?_; rotate_left
  ·
   (try simp only [hcS] at hb)
   refine aqP (op_move rfl rfl) ?_
   (refine aqP (op_len_str rfl rfl Tryd.underlying9) ?_)
   (refine aqP (op_eql rfl rfl rfl) ?_)
   (refine aqSeg rfl rfl rfl ?_; repeat (first | exact fun _ _ => rfl | refine upd_out rfl ?_))
  simp only [nA, ↓reduceIte]
  refine aqP (op_assign rfl rfl) ?_
  refine AQ.nil ?_
  (refine hK _ ?_; clear hK K; (simp only [nA]))
  skip
  refine AW.ret ?_; (try simp only [thenE, inBlk, Nat.reduceEqDiff, ↓reduceIte]); rw [rdB_yes (by rw [← all_take hnl]; exact hi.2)]; exact RQ.of0 rfl (.tmp (bl rfl) rfl rfl .nil)
def rngV (x : Ev) : Bool := (fieldsL x.kind).all (prB x)
theorem rg_2 {x : Ev} (h : x.kind = 2 ∨ x.kind = 10) : rngV x = (plB x.plate && inB x.node 0 23) := by
  unfold rngV
  rcases h with h | h <;> rw [h] <;> show (_ && (_ && true)) = _ <;> rw [Bool.and_true] <;> rfl
theorem rg_3 {x : Ev} (h : x.kind = 3) : rngV x = (inB x.time 0 1048576 && x.reports.all rpB) := by
  unfold rngV
  rw [h]; show (_ && (_ && true)) = _; rw [Bool.and_true]; rfl
theorem rg_4 {x : Ev} (h : x.kind = 4) : rngV x = inB x.image 0 1048576 := by
  unfold rngV
  rw [h]; show (_ && (_ && true)) = _; rw [Bool.and_true]; exact Bool.and_true _
theorem rg_5 {x : Ev} (h : x.kind = 5) : rngV x = ((((decide (x.rev.kind ≥ 1) && decide (x.rev.kind ≤ 5)) && decide (x.rev.amount ≥ 0)) && decide (x.rev.amount ≤ 1048576)) && flB x.rev.fl) := by
  unfold rngV
  rw [h]; show (_ && true) = _; rw [Bool.and_true]
  show ((inB x.rev.kind 1 5 && inB x.rev.amount 0 1048576) && flB x.rev.fl) = _
  unfold inB
  simp only [Bool.and_assoc]
theorem rg_6 {x : Ev} (h : x.kind = 6 ∨ x.kind = 7) : rngV x = inB x.node 0 23 := by
  unfold rngV
  rcases h with h | h <;> rw [h] <;> show (_ && true) = _ <;> rw [Bool.and_true] <;> rfl
theorem rg_8 {x : Ev} (h : x.kind = 8) : rngV x = ((opB x.op && decide (x.op.kind = 1)) && inB x.node 0 23) := by
  unfold rngV
  rw [h]; show (_ && (_ && true)) = _; rw [Bool.and_true]
  show ((opB x.op && (decide (x.op.kind = 1) == decide (x.kind = 8))) && inB x.node 0 23) = _
  rw [decide_eq_true h]
  cases decide (x.op.kind = 1) <;> rfl
theorem rg_9 {x : Ev} (h : x.kind = 9) : rngV x = (opB x.op && decide (x.op.kind = 2)) := by
  unfold rngV
  rw [h]; show (_ && true) = _; rw [Bool.and_true]
  show (opB x.op && (decide (x.op.kind = 1) == decide (x.kind = 8))) = _
  rw [decide_eq_false (p := x.kind = 8) (by omega)]
  cases ho : opB x.op with
  | false => rfl
  | true =>
    rcases (op_good ho).2 with e | e <;> rw [e] <;> rfl
theorem rg_12 {x : Ev} (h : x.kind = 11 ∨ x.kind = 12) (ho : x = onlyV x) : rngV x = ((decide (x.device ≥ 1) && decide (x.device ≤ 6)) && !x.ops.any (p67 x)) := by
  have e : (!x.ops.any (p67 x)) = x.ops.all fun o => opB o && decide (o.device = x.device) := not_any (p := p67 x) (fun r => by unfold p67; rw [Bool.not_and]) _
  rw [e]
  unfold rngV
  rcases h with h | h
  · have h0 : x.ops = [] := by
      rw [ho]
      unfold onlyV
      rw [h]
      rfl
    rw [h, h0]
    rfl
  rw [h]; show (_ && (_ && true)) = _; rw [Bool.and_true]; rfl
theorem rg_13 {x : Ev} (h : x.kind = 13) : rngV x = flB x.fl := by
  unfold rngV
  rw [h]; exact Bool.and_true _
theorem rg_1 {x : Ev} (h : x.kind = 1 ∨ x.kind = 14) : rngV x = true := by
  unfold rngV
  rcases h with h | h <;> rw [h] <;> rfl
theorem rp_neg (r : Report) : ((decide (r.device < 0) || decide (r.device ≥ 24)) || !rdB r.read) = !rpB r := by
  have e : (decide (r.device < 0) || decide (r.device ≥ 24)) = !inB r.device 0 23 := by
    unfold inB
    rw [Bool.not_and, show decide (r.device < 0) = !decide (r.device ≥ 0) by rw [← decide_not]; exact decide_eq_decide.2 (by omega), show decide (r.device ≥ 24) = !decide (r.device ≤ 23) by rw [← decide_not]; exact decide_eq_decide.2 (by omega)]
  unfold rpB
  rw [e, Bool.not_and]
theorem all_no_ {α : Type} [Inhabited α] {f : α → Bool} {l : List α} {i : Nat} (hi : i < l.length) (h : f (l.getD i default) = false) : l.all f = false := by
  rw [List.all_eq_false]
  rw [getD_of hi] at h
  exact ⟨_, List.getElem_mem hi, by rw [h]; simp⟩
theorem all_yes_ {α : Type} [Inhabited α] {f : α → Bool} {l : List α} {i : Nat} (hi : ¬ i < l.length) (h : ∀ k, k < i → f (l.getD k default) = true) : l.all f = true := by
  rw [List.all_eq_true]
  intro p hp
  obtain ⟨k, hk, rfl⟩ := List.getElem_of_mem hp
  have := h k (by omega)
  rw [getD_of hk] at this
  exact this
theorem any_yes_ {α : Type} [Inhabited α] {f : α → Bool} {l : List α} {i : Nat} (hi : i < l.length) (h : f (l.getD i default) = true) : l.any f = true := by
  rw [List.any_eq_true]
  rw [getD_of hi] at h
  exact ⟨_, List.getElem_mem hi, h⟩
theorem any_no_ {α : Type} [Inhabited α] {f : α → Bool} {l : List α} {i : Nat} (hi : ¬ i < l.length) (h : ∀ k, k < i → f (l.getD k default) = false) : l.any f = false := by
  rw [List.any_eq_false]
  intro p hp
  obtain ⟨k, hk, rfl⟩ := List.getElem_of_mem hp
  have := h k (by omega)
  rw [getD_of hk] at this
  rw [this]; decide
set_option maxHeartbeats 8000000 in
theorem C40 {x : Ev} (hx : x.Sm) (hk : 1 ≤ x.kind ∧ x.kind ≤ 14) (ho : x = onlyV x) : Fn Tryd.prog 40 [] [.agg x.av] [.v (.bool (rngV x))] [] := by
  have hrl := hx.r
  have hol := hx.o
  refine Spec.body Tryd.func40 rfl Tryd.ntmps40 (by simp) rfl ?_; intro S0 own0 v0 w0 gl
  (refine AW.seq_k ?_; intro K hK)
  refine AW.region ?_
  refine awJ (op_box rfl rfl rfl sz35 rfl) ?_; (simp only [nA, Nat.reduceBEq, Nat.reduceEqDiff, ↓reduceIte])
  refine awP (op_assign rfl rfl) ?_
  refine AWL.nil ?_
  (refine hK _ ?_; clear hK K; (try simp only [nA, Nat.reduceBEq, Nat.reduceEqDiff, ↓reduceIte, Nat.reduceAdd, Nat.reduceSub]))
  (refine AW.seq_k ?_; intro K hK)
  (refine AW.seq_k ?_; intro K hK)
  refine AW.region ?_
  (refine awP (op_fa_ptr rfl rfl rfl fl35_0 (by exact sz3) (by decide) rfl) ?_)
  (refine awR (op_load_ptr1 rfl rfl rfl rfl ag3 rfl rfl) ?_)
  refine AWL.nil ?_
  (refine hK _ ?_; clear hK K; (try simp only [nA, Nat.reduceBEq, Nat.reduceEqDiff, ↓reduceIte, Nat.reduceAdd, Nat.reduceSub]))
  refine AW.block ?_
  refine AW.join (fun (b : Bool) => [(1, .ptr 0 1 0 0), (8, .v (.int .i64 x.kind)), (9, .v (.bool b))]) (fun b => ⟨[(1, .own 35 [x.av])], 2⟩) (fun b => b = true ↔ x.kind = 2 ∨ x.kind = 10) ?_ ?_
  ·
   (refine AW.seq_k ?_; intro K hK)
   refine AW.region ?_
   (refine awP (op_eql rfl rfl rfl) ?_)
   refine awP (op_assign rfl rfl) ?_
   refine AWL.nil ?_
   (refine hK _ ?_; clear hK K; (simp only [nA]))
   refine AW.cond rfl rfl rfl (fun hc => ?_) (fun hc => ?_)
   ·
    have hc1 := hc
    refine AW.skip ?_
    exact ⟨decide (x.kind = 2), ⟨fun h => .inl (of_decide_eq_true h), fun _ => hc1⟩, ⟨rfl, rfl, rfl, trivial⟩, (by rfl), (by rfl)⟩
   have hc1 := hc
   refine AW.region ?_
   (refine awP (op_eql rfl rfl rfl) ?_)
   refine awP (op_assign rfl rfl) ?_
   refine AWL.nil ?_
   exact ⟨decide (x.kind = 10), ⟨fun h => .inr (of_decide_eq_true h), fun h => h.elim (fun h => absurd h (of_decide_eq_false hc1)) decide_eq_true⟩, ⟨rfl, rfl, rfl, trivial⟩, (by rfl), (by rfl)⟩
  intro b1 ρ hb1; simp only [updL]
  refine AW.cond rfl rfl rfl (fun hc => ?_) (fun hc => ?_)
  ·
   have hc2 := hc
   (refine AW.seq_k ?_; intro K hK)
   refine AW.region (AWL.quiet ?_)
   (refine aqP (op_fa_ptr rfl rfl rfl fl35_3 (by exact sz23) (by decide) rfl) ?_)
   (refine aqR (op_load_ptr rfl rfl rfl rfl ag23 sz23 (bl rfl) rfl) ?_)
   refine aqQ (op_callQ (b := true) rfl en68 (C68 (p := x.plate)) (RL.cons (by exact View.same rfl) (RL.nil)) rfl) ?_; (try simp only [nA, Nat.reduceBEq, Nat.reduceEqDiff, ↓reduceIte, Nat.reduceAdd, Nat.reduceSub])
   refine aqP (op_move rfl rfl) ?_
   refine' aqAnd' [_, _, _] [16,17,18] rfl rfl rfl rfl rfl rfl rfl rfl rfl rfl rfl rfl (fun hb => ?_) ?_; rotate_left
   ·
    (try simp only [hcS] at hb)
    (refine aqP (op_fa_ptr rfl rfl rfl fl35_4 (by exact sz3) (by decide) rfl) ?_)
    (refine aqR (op_load_ptr1 rfl rfl rfl rfl ag3 rfl rfl) ?_)
    refine aqQ (op_callQ (b := true) rfl en69 (C69 (n := x.node)) (RL.cons (by exact View.same rfl) (RL.nil)) rfl) ?_; (simp only [nA])
    (refine aqSeg rfl rfl rfl ?_; repeat (first | exact fun _ _ => rfl | refine upd_out rfl ?_))
   simp only [nA]
   refine aqP (op_assign rfl rfl) ?_
   refine AQ.nil ?_
   (refine hK _ ?_; clear hK K; (simp only [nA]))
   skip
   refine AW.ret ?_; (try simp only [thenE, inBlk, Nat.reduceEqDiff, ↓reduceIte]); rw [show rngV x = (plB x.plate && inB x.node 0 23) from rg_2 (hb1.1 hc2)]; exact RQ.of0 rfl (.tmp (bl rfl) rfl rfl .nil)
  have hc2 := hc
  (refine AW.seq_k ?_; intro K hK)
  refine AW.region ?_
  (refine awP (op_eql rfl rfl rfl) ?_)
  refine awP (op_assign rfl rfl) ?_
  refine AWL.nil ?_
  (refine hK _ ?_; clear hK K; (simp only [nA]))
  refine AW.cond rfl rfl rfl (fun hc => ?_) (fun hc => ?_)
  ·
   have hc3 := hc
   (refine AW.seq_k ?_; intro K hK)
   (refine AW.seq_k ?_; intro K hK)
   refine AW.region ?_
   refine awP (op_assign rfl rfl) ?_
   refine AWL.nil ?_
   (refine hK _ ?_; clear hK K; (try simp only [nA, Nat.reduceBEq, Nat.reduceEqDiff, ↓reduceIte, Nat.reduceAdd, Nat.reduceSub]))
   refine AW.block ?_
   refine AW.loopI (fun (q : Nat × Nat) => [(1, .ptr 0 1 0 0), (3, .v (.int .i64 (q.1 : Nat)))]) (fun q => ⟨[(1, .own 35 [x.av])], q.2⟩) (fun q => q.1 ≤ x.reports.length ∧ ∀ k, k < q.1 → rpB (x.reports.getD k default) = true) (fun q => x.reports.length - q.1) (0, _) ⟨by simp, fun k h => by cases h⟩ ⟨rfl, rfl, trivial⟩ rfl ?_; rintro ⟨i, ep⟩ ρ ⟨hi, hgood⟩; dsimp only at hi hgood ⊢; simp only [updL]
   (refine AW.seq_k ?_; intro K hK)
   (refine AW.seq_k ?_; intro K hK)
   refine AW.region ?_
   refine awP (op_move rfl rfl) ?_
   (refine awP (op_fa_ptr rfl rfl rfl fl35_7 (by exact sz24) (by decide) rfl) ?_)
   (refine awR (op_load_ptr1 rfl rfl rfl rfl ag24 rfl rfl) ?_)
   refine awP (op_len_ro (n := x.reports.length) rfl rfl Tryd.underlying24 (.inr (.inl ⟨_, rfl, by simp⟩))) ?_
   refine awP (op_lss rfl rfl rfl) ?_
   refine AWL.nil ?_
   (refine hK _ ?_; clear hK K; (simp only [nA, ↓reduceIte]))
   refine AW.cond rfl rfl rfl (fun hc => ?_) (fun hc => ?_)
   ·
    have hc4 := hc; have hlt : i < x.reports.length := (by simpa using hc4)
    refine AW.skip ?_
    (refine hK _ ?_; clear hK K; (skip))
    (refine AW.seq_k ?_; intro K hK)
    refine AW.block ?_
    (refine AW.seq_k ?_; intro K hK)
    refine AW.region ?_
    (refine awP (op_fa_ptr rfl rfl rfl fl35_7 (by exact sz24) (by decide) rfl) ?_)
    (refine awR (op_load_ptr1 rfl rfl rfl rfl ag24 rfl rfl) ?_)
    refine awP (op_move rfl rfl) ?_
    refine awP (op_ia_ro i rfl (.inl rfl) rfl Tryd.underlying24 rfl (get_mapD (by omega)) (by exact sz66) (bl rfl)) ?_
    (refine awR (op_load_rop rfl rfl ag66 sz66 (bl rfl) (by decide) rfl) ?_)
    refine awJ (op_alloc rfl ze66 rfl) ?_; (simp only [nA, ↓reduceIte])
    refine awJ (op_store rfl rfl rfl rfl rfl rfl sz66 rfl (bl rfl) rfl) ?_; (simp only [nA, Nat.reduceBEq, Nat.reduceEqDiff, ↓reduceIte])
    refine AWL.nil ?_
    (refine hK _ ?_; clear hK K; (skip))
    (refine AW.seq_k ?_; intro K hK)
    refine AW.region (AWL.quiet ?_)
    (refine aqP (op_fa_ptr rfl rfl rfl fl66_0 (by exact sz3) (by decide) rfl) ?_)
    (refine aqR (op_load_ptr1 rfl rfl rfl rfl ag3 rfl rfl) ?_)
    refine aqP (op_lss rfl rfl rfl) ?_
    refine aqP (op_move rfl rfl) ?_
    refine' aqOr' [_, _, _] [38,39,40] rfl rfl rfl rfl rfl rfl rfl rfl rfl rfl rfl rfl (fun hb => ?_) ?_; rotate_left
    ·
     (try simp only [hcS] at hb)
     (refine aqP (op_fa_ptr rfl rfl rfl fl66_0 (by exact sz3) (by decide) rfl) ?_)
     (refine aqR (op_load_ptr1 rfl rfl rfl rfl ag3 rfl rfl) ?_)
     refine aqP (op_geq rfl rfl rfl) ?_
     (refine aqSeg rfl rfl rfl ?_; repeat (first | exact fun _ _ => rfl | refine upd_out rfl ?_))
    simp only [nA]
    refine aqP (op_move rfl rfl) ?_
    refine' aqOr' [_, _, _, _] [43,44,45,46] rfl rfl rfl rfl rfl rfl rfl rfl rfl rfl rfl rfl (fun hb => ?_) ?_; rotate_left
    ·
     (try simp only [hcS] at hb)
     (refine aqP (op_fa_ptr rfl rfl rfl fl66_2 (by exact sz9) (by decide) rfl) ?_)
     (refine aqR (op_load_ptr1 rfl rfl rfl rfl ag9 rfl rfl) ?_)
     refine aqQ (op_callQ (b := true) rfl en70 (C70 (s := (x.reports.getD i default).read) (hx.rr _ (by rw [getD_of hlt]; exact List.getElem_mem hlt))) (RL.cons (by exact View.same rfl) (RL.nil)) rfl) ?_; (simp only [nA])
     refine aqP (op_not rfl rfl rfl) ?_
     (refine aqSeg rfl rfl rfl ?_; repeat (first | exact fun _ _ => rfl | refine upd_out rfl ?_))
    simp only [nA]
    refine AQ.nil ?_
    (refine hK _ ?_; clear hK K; (skip))
    refine AW.cond rfl rfl rfl (fun hc => ?_) (fun hc => ?_)
    ·
     have hc5 := hc; rw [rp_neg] at hc5
     (refine AW.seq_k ?_; intro K hK)
     refine AW.region ?_
     refine awP (op_assign rfl rfl) ?_
     refine AWL.nil ?_
     (refine hK _ ?_; clear hK K; (try simp only [nA, Nat.reduceBEq, Nat.reduceEqDiff, ↓reduceIte, Nat.reduceAdd, Nat.reduceSub]))
     skip
     refine AW.ret ?_; (try simp only [thenE, inBlk, Nat.reduceEqDiff, ↓reduceIte]); rw [show rngV x = false by rw [rg_3 (of_decide_eq_true hc3), all_no_ hlt (by simpa using hc5), Bool.and_false]]; exact RQ.of0 rfl (.tmp (bl rfl) rfl rfl .nil)
    have hc5 := hc; rw [rp_neg] at hc5
    refine AW.skip ?_
    (try simp only [thenE, inBlk, Nat.reduceEqDiff, ↓reduceIte])
    (refine hK _ ?_; clear hK K; (skip))
    refine AW.region ?_
    refine awP (op_move rfl rfl) ?_
    (refine awP (op_addi rfl rfl rfl (by omega)) ?_)
    refine awP (op_assign rfl rfl) ?_
    refine AWL.gh (Gh.drop 1) ?_; (simp only [nA, Nat.reduceEqDiff, ↓reduceIte])
    refine AWL.nil ?_
    refine ⟨(i + 1, _), ⟨by dsimp only; omega, all_b_step (f := fun k => rpB (x.reports.getD k default)) hgood (by simpa using hc5)⟩, by dsimp only; omega, ⟨rfl, by dsimp only; exact congrArg (fun z => AV.v (.int .i64 z)) (by omega), trivial⟩, (by rfl), (by rfl)⟩
   have hc4 := hc; have hnl : ¬ i < x.reports.length := (by simpa using hc4)
   refine AW.exit ?_; (try simp only [thenE, inBlk, Nat.reduceEqDiff, ↓reduceIte])
   clear hK K
   (refine hK _ ?_; clear hK K; (skip))
   (refine AW.seq_k ?_; intro K hK)
   refine AW.region (AWL.quiet ?_)
   (refine aqP (op_fa_ptr rfl rfl rfl fl35_1 (by exact sz3) (by decide) rfl) ?_)
   (refine aqR (op_load_ptr1 rfl rfl rfl rfl ag3 rfl rfl) ?_)
   refine aqP (op_geq rfl rfl rfl) ?_
   refine aqP (op_move rfl rfl) ?_
   refine' aqAnd' [_, _, _] [52,53,54] rfl rfl rfl rfl rfl rfl rfl rfl rfl rfl rfl rfl (fun hb => ?_) ?_; rotate_left
   ·
    (try simp only [hcS] at hb)
    (refine aqP (op_fa_ptr rfl rfl rfl fl35_1 (by exact sz3) (by decide) rfl) ?_)
    (refine aqR (op_load_ptr1 rfl rfl rfl rfl ag3 rfl rfl) ?_)
    refine aqP (op_leq rfl rfl rfl) ?_
    (refine aqSeg rfl rfl rfl ?_; repeat (first | exact fun _ _ => rfl | refine upd_out rfl ?_))
   simp only [nA]
   refine aqP (op_assign rfl rfl) ?_
   refine AQ.nil ?_
   (refine hK _ ?_; clear hK K; (simp only [nA]))
   skip
   refine AW.ret ?_; (try simp only [thenE, inBlk, Nat.reduceEqDiff, ↓reduceIte]); rw [show rngV x = (decide (x.time ≥ 0) && decide (x.time ≤ 1048576)) by rw [rg_3 (of_decide_eq_true hc3), all_yes_ hnl hgood, Bool.and_true]; rfl]; exact RQ.of0 rfl (.tmp (bl rfl) rfl rfl .nil)
  have hc3 := hc
  (refine AW.seq_k ?_; intro K hK)
  refine AW.region ?_
  (refine awP (op_eql rfl rfl rfl) ?_)
  refine awP (op_assign rfl rfl) ?_
  refine AWL.nil ?_
  (refine hK _ ?_; clear hK K; (simp only [nA]))
  refine AW.cond rfl rfl rfl (fun hc => ?_) (fun hc => ?_)
  ·
   have hc6 := hc
   (refine AW.seq_k ?_; intro K hK)
   refine AW.region (AWL.quiet ?_)
   (refine aqP (op_fa_ptr rfl rfl rfl fl35_5 (by exact sz3) (by decide) rfl) ?_)
   (refine aqR (op_load_ptr1 rfl rfl rfl rfl ag3 rfl rfl) ?_)
   refine aqP (op_geq rfl rfl rfl) ?_
   refine aqP (op_move rfl rfl) ?_
   refine' aqAnd' [_, _, _] [62,63,64] rfl rfl rfl rfl rfl rfl rfl rfl rfl rfl rfl rfl (fun hb => ?_) ?_; rotate_left
   ·
    (try simp only [hcS] at hb)
    (refine aqP (op_fa_ptr rfl rfl rfl fl35_5 (by exact sz3) (by decide) rfl) ?_)
    (refine aqR (op_load_ptr1 rfl rfl rfl rfl ag3 rfl rfl) ?_)
    refine aqP (op_leq rfl rfl rfl) ?_
    (refine aqSeg rfl rfl rfl ?_; repeat (first | exact fun _ _ => rfl | refine upd_out rfl ?_))
   simp only [nA]
   refine aqP (op_assign rfl rfl) ?_
   refine AQ.nil ?_
   (refine hK _ ?_; clear hK K; (simp only [nA]))
   skip
   refine AW.ret ?_; (try simp only [thenE, inBlk, Nat.reduceEqDiff, ↓reduceIte]); rw [show rngV x = (decide (x.image ≥ 0) && decide (x.image ≤ 1048576)) from rg_4 (of_decide_eq_true hc6)]; exact RQ.of0 rfl (.tmp (bl rfl) rfl rfl .nil)
  have hc6 := hc
  (refine AW.seq_k ?_; intro K hK)
  refine AW.region ?_
  (refine awP (op_eql rfl rfl rfl) ?_)
  refine awP (op_assign rfl rfl) ?_
  refine AWL.nil ?_
  (refine hK _ ?_; clear hK K; (simp only [nA]))
  refine AW.cond rfl rfl rfl (fun hc => ?_) (fun hc => ?_)
  ·
   have hc7 := hc
   (refine AW.seq_k ?_; intro K hK)
   refine AW.region ?_
   (refine awP (op_fa_ptr rfl rfl rfl fl35_8 (by exact sz28) (by decide) rfl) ?_)
   (refine awR (op_load_ptr rfl rfl rfl rfl ag28 sz28 (bl rfl) rfl) ?_)
   refine awJ (op_alloc rfl ze28 rfl) ?_; (simp only [nA, Nat.reduceBEq, Nat.reduceEqDiff, ↓reduceIte])
   refine awJ (op_store rfl rfl rfl rfl rfl rfl sz28 rfl (bl rfl) rfl) ?_; (simp only [nA, Nat.reduceBEq, Nat.reduceEqDiff, ↓reduceIte])
   refine AWL.nil ?_
   (refine hK _ ?_; clear hK K; (skip))
   (refine AW.seq_k ?_; intro K hK)
   refine AW.region (AWL.quiet ?_)
   (refine aqP (op_fa_ptr rfl rfl rfl fl28_0 (by exact sz3) (by decide) rfl) ?_)
   (refine aqR (op_load_ptr1 rfl rfl rfl rfl ag3 rfl rfl) ?_)
   refine aqP (op_geq rfl rfl rfl) ?_
   refine aqP (op_move rfl rfl) ?_
   refine' aqAnd' [_, _, _] [74,75,76] rfl rfl rfl rfl rfl rfl rfl rfl rfl rfl rfl rfl (fun hb => ?_) ?_; rotate_left
   ·
    (try simp only [hcS] at hb)
    (refine aqP (op_fa_ptr rfl rfl rfl fl28_0 (by exact sz3) (by decide) rfl) ?_)
    (refine aqR (op_load_ptr1 rfl rfl rfl rfl ag3 rfl rfl) ?_)
    refine aqP (op_leq rfl rfl rfl) ?_
    (refine aqSeg rfl rfl rfl ?_; repeat (first | exact fun _ _ => rfl | refine upd_out rfl ?_))
   simp only [nA]
   refine aqP (op_move rfl rfl) ?_
   refine' aqAnd' [_, _, _] [79,80,81] rfl rfl rfl rfl rfl rfl rfl rfl rfl rfl rfl rfl (fun hb => ?_) ?_; rotate_left
   ·
    (try simp only [hcS] at hb)
    (refine aqP (op_fa_ptr rfl rfl rfl fl28_1 (by exact sz3) (by decide) rfl) ?_)
    (refine aqR (op_load_ptr1 rfl rfl rfl rfl ag3 rfl rfl) ?_)
    refine aqP (op_geq rfl rfl rfl) ?_
    (refine aqSeg rfl rfl rfl ?_; repeat (first | exact fun _ _ => rfl | refine upd_out rfl ?_))
   simp only [nA]
   refine aqP (op_move rfl rfl) ?_
   refine' aqAnd' [_, _, _] [84,85,86] rfl rfl rfl rfl rfl rfl rfl rfl rfl rfl rfl rfl (fun hb => ?_) ?_; rotate_left
   ·
    (try simp only [hcS] at hb)
    (refine aqP (op_fa_ptr rfl rfl rfl fl28_1 (by exact sz3) (by decide) rfl) ?_)
    (refine aqR (op_load_ptr1 rfl rfl rfl rfl ag3 rfl rfl) ?_)
    refine aqP (op_leq rfl rfl rfl) ?_
    (refine aqSeg rfl rfl rfl ?_; repeat (first | exact fun _ _ => rfl | refine upd_out rfl ?_))
   simp only [nA]
   refine aqP (op_move rfl rfl) ?_
   refine' aqAnd' [_, _, _] [89,90,91] rfl rfl rfl rfl rfl rfl rfl rfl rfl rfl rfl rfl (fun hb => ?_) ?_; rotate_left
   ·
    (try simp only [hcS] at hb)
    (refine aqP (op_fa_ptr rfl rfl rfl fl28_2 (by exact sz26) (by decide) rfl) ?_)
    (refine aqR (op_load_ptr rfl rfl rfl rfl ag26 sz26 (bl rfl) rfl) ?_)
    refine aqQ (op_callQ (b := true) rfl en71 (C71 (f := x.rev.fl)) (RL.cons (by exact View.same rfl) (RL.nil)) rfl) ?_; (simp only [nA])
    (refine aqSeg rfl rfl rfl ?_; repeat (first | exact fun _ _ => rfl | refine upd_out rfl ?_))
   simp only [nA]
   refine aqP (op_assign rfl rfl) ?_
   refine AQ.nil ?_
   (refine hK _ ?_; clear hK K; (simp only [nA]))
   skip
   refine AW.ret ?_; (try simp only [thenE, inBlk, Nat.reduceEqDiff, ↓reduceIte]); rw [rg_5 (of_decide_eq_true hc7)]; exact RQ.of0 rfl (.tmp (bl rfl) rfl rfl .nil)
  have hc7 := hc
  refine AW.join (fun (b : Bool) => [(1, .ptr 0 1 0 0), (8, .v (.int .i64 x.kind)), (93, .v (.bool b))]) (fun b => ⟨[(1, .own 35 [x.av])], 2⟩) (fun b => b = true ↔ x.kind = 6 ∨ x.kind = 7) ?_ ?_
  ·
   (refine AW.seq_k ?_; intro K hK)
   refine AW.region ?_
   (refine awP (op_eql rfl rfl rfl) ?_)
   refine awP (op_assign rfl rfl) ?_
   refine AWL.nil ?_
   (refine hK _ ?_; clear hK K; (simp only [nA]))
   refine AW.cond rfl rfl rfl (fun hc => ?_) (fun hc => ?_)
   ·
    have hc8 := hc
    refine AW.skip ?_
    exact ⟨decide (x.kind = 6), ⟨fun h => .inl (of_decide_eq_true h), fun _ => hc8⟩, ⟨rfl, rfl, rfl, trivial⟩, (by rfl), (by rfl)⟩
   have hc8 := hc
   refine AW.region ?_
   (refine awP (op_eql rfl rfl rfl) ?_)
   refine awP (op_assign rfl rfl) ?_
   refine AWL.nil ?_
   exact ⟨decide (x.kind = 7), ⟨fun h => .inr (of_decide_eq_true h), fun h => h.elim (fun h => absurd h (of_decide_eq_false hc8)) decide_eq_true⟩, ⟨rfl, rfl, rfl, trivial⟩, (by rfl), (by rfl)⟩
  intro b8 ρ hb8; simp only [updL]
  refine AW.cond rfl rfl rfl (fun hc => ?_) (fun hc => ?_)
  ·
   have hc9 := hc
   (refine AW.seq_k ?_; intro K hK)
   refine AW.region ?_
   (refine awP (op_fa_ptr rfl rfl rfl fl35_4 (by exact sz3) (by decide) rfl) ?_)
   (refine awR (op_load_ptr1 rfl rfl rfl rfl ag3 rfl rfl) ?_)
   refine awJ (OpQ.j (op_callQ (b := true) rfl en69 (C69 (n := x.node)) (RL.cons (by exact View.same rfl) (RL.nil)) rfl)) ?_; (try simp only [nA, Nat.reduceBEq, Nat.reduceEqDiff, ↓reduceIte, Nat.reduceAdd, Nat.reduceSub])
   refine awP (op_assign rfl rfl) ?_
   refine AWL.nil ?_
   (refine hK _ ?_; clear hK K; (simp only [nA]))
   skip
   refine AW.ret ?_; (try simp only [thenE, inBlk, Nat.reduceEqDiff, ↓reduceIte]); rw [rg_6 (hb8.1 hc9)]; exact RQ.of0 rfl (.tmp (bl rfl) rfl rfl .nil)
  have hc9 := hc
  (refine AW.seq_k ?_; intro K hK)
  refine AW.region ?_
  (refine awP (op_eql rfl rfl rfl) ?_)
  refine awP (op_assign rfl rfl) ?_
  refine AWL.nil ?_
  (refine hK _ ?_; clear hK K; (simp only [nA]))
  refine AW.cond rfl rfl rfl (fun hc => ?_) (fun hc => ?_)
  ·
   have hc10 := hc
   (refine AW.seq_k ?_; intro K hK)
   refine AW.region (AWL.quiet ?_)
   (refine aqP (op_fa_ptr rfl rfl rfl fl35_10 (by exact sz32) (by decide) rfl) ?_)
   (refine aqR (op_load_ptr rfl rfl rfl rfl ag32 sz32 (bl rfl) rfl) ?_)
   refine aqQ (op_callQ (b := true) rfl en72 (C72 (o := x.op)) (RL.cons (by exact View.same rfl) (RL.nil)) rfl) ?_; (try simp only [nA, Nat.reduceBEq, Nat.reduceEqDiff, ↓reduceIte, Nat.reduceAdd, Nat.reduceSub])
   refine aqP (op_move rfl rfl) ?_
   refine' aqAnd' [_, _, _, _] [105,106,107,108] rfl rfl rfl rfl rfl rfl rfl rfl rfl rfl rfl rfl (fun hb => ?_) ?_; rotate_left
   ·
    (try simp only [hcS] at hb)
    (refine aqP (op_fa_ptr rfl rfl rfl fl35_10 (by exact sz32) (by decide) rfl) ?_)
    (refine aqP (op_fa_ptr rfl rfl rfl fl32_3 (by exact sz3) (by decide) rfl) ?_)
    (refine aqR (op_load_ptr1 rfl rfl rfl rfl ag3 rfl rfl) ?_)
    (refine aqP (op_eql rfl rfl rfl) ?_)
    (refine aqSeg rfl rfl rfl ?_; repeat (first | exact fun _ _ => rfl | refine upd_out rfl ?_))
   simp only [nA]
   refine aqP (op_move rfl rfl) ?_
   refine' aqAnd' [_, _, _] [111,112,113] rfl rfl rfl rfl rfl rfl rfl rfl rfl rfl rfl rfl (fun hb => ?_) ?_; rotate_left
   ·
    (try simp only [hcS] at hb)
    (refine aqP (op_fa_ptr rfl rfl rfl fl35_4 (by exact sz3) (by decide) rfl) ?_)
    (refine aqR (op_load_ptr1 rfl rfl rfl rfl ag3 rfl rfl) ?_)
    refine aqQ (op_callQ (b := true) rfl en69 (C69 (n := x.node)) (RL.cons (by exact View.same rfl) (RL.nil)) rfl) ?_; (simp only [nA])
    (refine aqSeg rfl rfl rfl ?_; repeat (first | exact fun _ _ => rfl | refine upd_out rfl ?_))
   simp only [nA]
   refine aqP (op_assign rfl rfl) ?_
   refine AQ.nil ?_
   (refine hK _ ?_; clear hK K; (simp only [nA]))
   skip
   refine AW.ret ?_; (try simp only [thenE, inBlk, Nat.reduceEqDiff, ↓reduceIte]); rw [rg_8 (of_decide_eq_true hc10)]; exact RQ.of0 rfl (.tmp (bl rfl) rfl rfl .nil)
  have hc10 := hc
  (refine AW.seq_k ?_; intro K hK)
  refine AW.region ?_
  (refine awP (op_eql rfl rfl rfl) ?_)
  refine awP (op_assign rfl rfl) ?_
  refine AWL.nil ?_
  (refine hK _ ?_; clear hK K; (simp only [nA]))
  refine AW.cond rfl rfl rfl (fun hc => ?_) (fun hc => ?_)
  ·
   have hc11 := hc
   (refine AW.seq_k ?_; intro K hK)
   refine AW.region (AWL.quiet ?_)
   (refine aqP (op_fa_ptr rfl rfl rfl fl35_10 (by exact sz32) (by decide) rfl) ?_)
   (refine aqR (op_load_ptr rfl rfl rfl rfl ag32 sz32 (bl rfl) rfl) ?_)
   refine aqQ (op_callQ (b := true) rfl en72 (C72 (o := x.op)) (RL.cons (by exact View.same rfl) (RL.nil)) rfl) ?_; (try simp only [nA, Nat.reduceBEq, Nat.reduceEqDiff, ↓reduceIte, Nat.reduceAdd, Nat.reduceSub])
   refine aqP (op_move rfl rfl) ?_
   refine' aqAnd' [_, _, _, _] [121,122,123,124] rfl rfl rfl rfl rfl rfl rfl rfl rfl rfl rfl rfl (fun hb => ?_) ?_; rotate_left
   ·
    (try simp only [hcS] at hb)
    (refine aqP (op_fa_ptr rfl rfl rfl fl35_10 (by exact sz32) (by decide) rfl) ?_)
    (refine aqP (op_fa_ptr rfl rfl rfl fl32_3 (by exact sz3) (by decide) rfl) ?_)
    (refine aqR (op_load_ptr1 rfl rfl rfl rfl ag3 rfl rfl) ?_)
    (refine aqP (op_eql rfl rfl rfl) ?_)
    (refine aqSeg rfl rfl rfl ?_; repeat (first | exact fun _ _ => rfl | refine upd_out rfl ?_))
   simp only [nA]
   refine aqP (op_assign rfl rfl) ?_
   refine AQ.nil ?_
   (refine hK _ ?_; clear hK K; (simp only [nA]))
   skip
   refine AW.ret ?_; (try simp only [thenE, inBlk, Nat.reduceEqDiff, ↓reduceIte]); rw [rg_9 (of_decide_eq_true hc11)]; exact RQ.of0 rfl (.tmp (bl rfl) rfl rfl .nil)
  have hc11 := hc
  refine AW.join (fun (b : Bool) => [(1, .ptr 0 1 0 0), (8, .v (.int .i64 x.kind)), (126, .v (.bool b))]) (fun b => ⟨[(1, .own 35 [x.av])], 2⟩) (fun b => b = true ↔ x.kind = 11 ∨ x.kind = 12) ?_ ?_
  ·
   (refine AW.seq_k ?_; intro K hK)
   refine AW.region ?_
   (refine awP (op_eql rfl rfl rfl) ?_)
   refine awP (op_assign rfl rfl) ?_
   refine AWL.nil ?_
   (refine hK _ ?_; clear hK K; (simp only [nA]))
   refine AW.cond rfl rfl rfl (fun hc => ?_) (fun hc => ?_)
   ·
    have hc12 := hc
    refine AW.skip ?_
    exact ⟨decide (x.kind = 11), ⟨fun h => .inl (of_decide_eq_true h), fun _ => hc12⟩, ⟨rfl, rfl, rfl, trivial⟩, (by rfl), (by rfl)⟩
   have hc12 := hc
   refine AW.region ?_
   (refine awP (op_eql rfl rfl rfl) ?_)
   refine awP (op_assign rfl rfl) ?_
   refine AWL.nil ?_
   exact ⟨decide (x.kind = 12), ⟨fun h => .inr (of_decide_eq_true h), fun h => h.elim (fun h => absurd h (of_decide_eq_false hc12)) decide_eq_true⟩, ⟨rfl, rfl, rfl, trivial⟩, (by rfl), (by rfl)⟩
  intro b12 ρ hb12; simp only [updL]
  refine AW.cond rfl rfl rfl (fun hc => ?_) (fun hc => ?_)
  ·
   have hc13 := hc
   (refine AW.seq_k ?_; intro K hK)
   (refine AW.seq_k ?_; intro K hK)
   refine AW.region ?_
   refine awP (op_assign rfl rfl) ?_
   refine AWL.nil ?_
   (refine hK _ ?_; clear hK K; (try simp only [nA, Nat.reduceBEq, Nat.reduceEqDiff, ↓reduceIte, Nat.reduceAdd, Nat.reduceSub]))
   refine AW.block ?_
   refine AW.loopI (fun j => [(1, .ptr 0 1 0 0), (6, .v (.int .i64 (j : Nat)))]) (fun j => ⟨[(1, .own 35 [x.av])], 2⟩) (fun j => j ≤ x.ops.length ∧ ∀ k, k < j → p67 x (x.ops.getD k default) = false) (fun j => x.ops.length - j) 0 ⟨by simp, fun k h => by cases h⟩ ⟨rfl, rfl, trivial⟩ rfl ?_; intro j ρ hj; simp only [updL]
   (refine AW.seq_k ?_; intro K hK)
   (refine AW.seq_k ?_; intro K hK)
   refine AW.region ?_
   refine awP (op_move rfl rfl) ?_
   (refine awP (op_fa_ptr rfl rfl rfl fl35_11 (by exact sz33) (by decide) rfl) ?_)
   (refine awR (op_load_ptr1 rfl rfl rfl rfl ag33 rfl rfl) ?_)
   refine awP (op_len_ro (n := x.ops.length) rfl rfl Tryd.underlying33 (.inr (.inl ⟨_, rfl, by simp⟩))) ?_
   refine awP (op_lss rfl rfl rfl) ?_
   refine AWL.nil ?_
   (refine hK _ ?_; clear hK K; (simp only [nA, ↓reduceIte]))
   refine AW.cond rfl rfl rfl (fun hc => ?_) (fun hc => ?_)
   ·
    have hc14 := hc; have hlt : j < x.ops.length := (by simpa using hc14)
    refine AW.skip ?_
    (refine hK _ ?_; clear hK K; (skip))
    (refine AW.seq_k ?_; intro K hK)
    refine AW.block ?_
    (refine AW.seq_k ?_; intro K hK)
    refine AW.quiet mix (by kernel_rfl) ?_
    (refine aqP (op_fa_ptr rfl rfl rfl fl35_11 (by exact sz33) (by decide) rfl) ?_)
    (refine aqR (op_load_ptr1 rfl rfl rfl rfl ag33 rfl rfl) ?_)
    refine aqP (op_move rfl rfl) ?_
    refine aqP (op_ia_ro j rfl (.inl rfl) rfl Tryd.underlying33 rfl (get_mapD (by omega)) (by exact sz32) (bl rfl)) ?_
    (refine aqR (op_load_rop rfl rfl ag32 sz32 (bl rfl) (by decide) rfl) ?_)
    refine aqQ (op_callQ (b := true) rfl en72 (C72 (o := x.ops.getD j default)) (RL.cons (by exact View.same rfl) (RL.nil)) rfl) ?_; (simp only [nA, ↓reduceIte])
    refine aqP (op_not rfl rfl rfl) ?_
    refine aqP (op_move rfl rfl) ?_
    refine' aqOr' [_, _, _, _, _, _, _, _, _] [144,145,146,147,148,149,150,151,152] rfl rfl rfl rfl rfl rfl rfl rfl rfl rfl rfl rfl (fun hb => ?_) ?_; rotate_left
    ·
     (try simp only [hcS] at hb)
     (refine aqP (op_fa_ptr rfl rfl rfl fl35_11 (by exact sz33) (by decide) rfl) ?_)
     (refine aqR (op_load_ptr1 rfl rfl rfl rfl ag33 rfl rfl) ?_)
     refine aqP (op_move rfl rfl) ?_
     refine aqP (op_ia_ro j rfl (.inl rfl) rfl Tryd.underlying33 rfl (get_mapD (by omega)) (by exact sz32) (bl rfl)) ?_
     (refine aqP (op_fa_rop rfl rfl fl32_1 (by exact sz3) (by decide) (bl rfl) rfl) ?_)
     (refine aqR (op_load_rop1 rfl rfl ag3) ?_)
     (refine aqP (op_fa_ptr rfl rfl rfl fl35_9 (by exact sz3) (by decide) rfl) ?_)
     (refine aqR (op_load_ptr1 rfl rfl rfl rfl ag3 rfl rfl) ?_)
     (refine aqP (op_neq rfl rfl rfl) ?_)
     (refine aqSeg rfl rfl rfl ?_; repeat (first | exact fun _ _ => rfl | refine upd_out rfl ?_))
    simp only [nA]
    refine AQ.nil ?_
    (refine hK _ ?_; clear hK K; (skip))
    refine AW.cond rfl rfl rfl (fun hc => ?_) (fun hc => ?_)
    ·
     have hc15 := hc
     (refine AW.seq_k ?_; intro K hK)
     refine AW.region ?_
     refine awP (op_assign rfl rfl) ?_
     refine AWL.nil ?_
     (refine hK _ ?_; clear hK K; (try simp only [nA, Nat.reduceBEq, Nat.reduceEqDiff, ↓reduceIte, Nat.reduceAdd, Nat.reduceSub]))
     skip
     refine AW.ret ?_; (try simp only [thenE, inBlk, Nat.reduceEqDiff, ↓reduceIte]); rw [show rngV x = false by rw [rg_12 (hb12.1 hc13) ho, any_yes_ (f := p67 x) hlt hc15, Bool.not_true, Bool.and_false]]; exact RQ.of0 rfl (.tmp (bl rfl) rfl rfl .nil)
    have hc15 := hc
    refine AW.skip ?_
    (try simp only [thenE, inBlk, Nat.reduceEqDiff, ↓reduceIte])
    (refine hK _ ?_; clear hK K; (skip))
    refine AW.region ?_
    refine awP (op_move rfl rfl) ?_
    (refine awP (op_addi rfl rfl rfl (by omega)) ?_)
    refine awP (op_assign rfl rfl) ?_
    skip
    refine AWL.nil ?_
    refine ⟨j + 1, ⟨by omega, all_f_step (f := fun k => p67 x (x.ops.getD k default)) hj.2 hc15⟩, by omega, ⟨rfl, rfl, trivial⟩, (by rfl), (by rfl)⟩
   have hc14 := hc; have hnl : ¬ j < x.ops.length := (by simpa using hc14)
   refine AW.exit ?_; (try simp only [thenE, inBlk, Nat.reduceEqDiff, ↓reduceIte])
   clear hK K
   (refine hK _ ?_; clear hK K; (skip))
   (refine AW.seq_k ?_; intro K hK)
   refine AW.region (AWL.quiet ?_)
   (refine aqP (op_fa_ptr rfl rfl rfl fl35_9 (by exact sz3) (by decide) rfl) ?_)
   (refine aqR (op_load_ptr1 rfl rfl rfl rfl ag3 rfl rfl) ?_)
   refine aqP (op_geq rfl rfl rfl) ?_
   refine aqP (op_move rfl rfl) ?_
   refine' aqAnd' [_, _, _] [158,159,160] rfl rfl rfl rfl rfl rfl rfl rfl rfl rfl rfl rfl (fun hb => ?_) ?_; rotate_left
   ·
    (try simp only [hcS] at hb)
    (refine aqP (op_fa_ptr rfl rfl rfl fl35_9 (by exact sz3) (by decide) rfl) ?_)
    (refine aqR (op_load_ptr1 rfl rfl rfl rfl ag3 rfl rfl) ?_)
    refine aqP (op_leq rfl rfl rfl) ?_
    (refine aqSeg rfl rfl rfl ?_; repeat (first | exact fun _ _ => rfl | refine upd_out rfl ?_))
   simp only [nA]
   refine aqP (op_assign rfl rfl) ?_
   refine AQ.nil ?_
   (refine hK _ ?_; clear hK K; (simp only [nA]))
   skip
   refine AW.ret ?_; (try simp only [thenE, inBlk, Nat.reduceEqDiff, ↓reduceIte]); rw [show rngV x = (decide (x.device ≥ 1) && decide (x.device ≤ 6)) by rw [rg_12 (hb12.1 hc13) ho, any_no_ (f := p67 x) hnl hj.2, Bool.not_false, Bool.and_true]]; exact RQ.of0 rfl (.tmp (bl rfl) rfl rfl .nil)
  have hc13 := hc
  (refine AW.seq_k ?_; intro K hK)
  refine AW.region ?_
  (refine awP (op_eql rfl rfl rfl) ?_)
  refine awP (op_assign rfl rfl) ?_
  refine AWL.nil ?_
  (refine hK _ ?_; clear hK K; (simp only [nA]))
  refine AW.cond rfl rfl rfl (fun hc => ?_) (fun hc => ?_)
  ·
   have hc16 := hc
   (refine AW.seq_k ?_; intro K hK)
   refine AW.region ?_
   (refine awP (op_fa_ptr rfl rfl rfl fl35_12 (by exact sz26) (by decide) rfl) ?_)
   (refine awR (op_load_ptr rfl rfl rfl rfl ag26 sz26 (bl rfl) rfl) ?_)
   refine awJ (OpQ.j (op_callQ (b := true) rfl en71 (C71 (f := x.fl)) (RL.cons (by exact View.same rfl) (RL.nil)) rfl)) ?_; (try simp only [nA, Nat.reduceBEq, Nat.reduceEqDiff, ↓reduceIte, Nat.reduceAdd, Nat.reduceSub])
   refine awP (op_assign rfl rfl) ?_
   refine AWL.nil ?_
   (refine hK _ ?_; clear hK K; (simp only [nA]))
   skip
   refine AW.ret ?_; (try simp only [thenE, inBlk, Nat.reduceEqDiff, ↓reduceIte]); rw [rg_13 (of_decide_eq_true hc16)]; exact RQ.of0 rfl (.tmp (bl rfl) rfl rfl .nil)
  have hc16 := hc
  refine AW.skip ?_
  (try simp only [thenE, inBlk, Nat.reduceEqDiff, ↓reduceIte])
  (refine hK _ ?_; clear hK K; (skip))
  (refine AW.seq_k ?_; intro K hK)
  refine AW.region ?_
  refine awP (op_assign rfl rfl) ?_
  refine AWL.nil ?_
  (refine hK _ ?_; clear hK K; (try simp only [nA, Nat.reduceBEq, Nat.reduceEqDiff, ↓reduceIte, Nat.reduceAdd, Nat.reduceSub]))
  skip
  refine AW.ret ?_; (try simp only [thenE, inBlk, Nat.reduceEqDiff, ↓reduceIte]); rw [rg_1 (by have h2 : ¬ (x.kind = 2 ∨ x.kind = 10) := (fun h => by have := hb1.2 h; rw [this] at hc2; cases hc2); have h8 : ¬ (x.kind = 6 ∨ x.kind = 7) := (fun h => by have := hb8.2 h; rw [this] at hc9; cases hc9); have h12 : ¬ (x.kind = 11 ∨ x.kind = 12) := (fun h => by have := hb12.2 h; rw [this] at hc13; cases hc13); simp only [decide_eq_false_iff_not] at hc3 hc6 hc7 hc10 hc11 hc16; omega)]; exact RQ.of0 rfl (.tmp (bl rfl) rfl rfl .nil)
theorem kind_neg (k : Int) : (decide (k < 1) || decide (k > 14)) = !inB k 1 14 := by
  unfold inB
  rw [Bool.not_and, show decide (k < 1) = !decide (k ≥ 1) by rw [← decide_not]; exact decide_eq_decide.2 (by omega), show decide (k > 14) = !decide (k ≤ 14) by rw [← decide_not]; exact decide_eq_decide.2 (by omega)]
set_option maxHeartbeats 8000000 in
theorem C16 {x : Ev} (hx : x.Sm) : Fn Tryd.prog 16 [] [.agg x.av] [.v (.int .i64 (valV x))] [] := by
  have hrl := hx.r
  have hol := hx.o
  have htl := hx.t
  refine Spec.body Tryd.func16 rfl Tryd.ntmps16 (by simp) rfl ?_; intro S0 own0 v0 w0 gl
  (refine AW.seq_k ?_; intro K hK)
  refine AW.region ?_
  refine awJ (op_box rfl rfl rfl sz35 rfl) ?_; (simp only [nA, Nat.reduceBEq, Nat.reduceEqDiff, ↓reduceIte])
  refine awP (op_assign rfl rfl) ?_
  refine AWL.nil ?_
  (refine hK _ ?_; clear hK K; (try simp only [nA, Nat.reduceBEq, Nat.reduceEqDiff, ↓reduceIte, Nat.reduceAdd, Nat.reduceSub]))
  (refine AW.seq_k ?_; intro K hK)
  (refine AW.seq_k ?_; intro K hK)
  refine AW.region (AWL.quiet ?_)
  (refine aqP (op_fa_ptr rfl rfl rfl fl35_0 (by exact sz3) (by decide) rfl) ?_)
  (refine aqR (op_load_ptr1 rfl rfl rfl rfl ag3 rfl rfl) ?_)
  refine aqP (op_lss rfl rfl rfl) ?_
  refine aqP (op_move rfl rfl) ?_
  refine' aqOr' [_, _, _] [8,9,10] rfl rfl rfl rfl rfl rfl rfl rfl rfl rfl rfl rfl (fun hb => ?_) ?_; rotate_left
  ·
   (try simp only [hcS] at hb)
   (refine aqP (op_fa_ptr rfl rfl rfl fl35_0 (by exact sz3) (by decide) rfl) ?_)
   (refine aqR (op_load_ptr1 rfl rfl rfl rfl ag3 rfl rfl) ?_)
   refine aqP (op_gtr rfl rfl rfl) ?_
   (refine aqSeg rfl rfl rfl ?_; repeat (first | exact fun _ _ => rfl | refine upd_out rfl ?_))
  simp only [nA]
  refine AQ.nil ?_
  (refine hK _ ?_; clear hK K; (skip))
  refine AW.cond rfl rfl rfl (fun hc => ?_) (fun hc => ?_)
  ·
   have hc1 := hc; rw [kind_neg] at hc1
   (refine AW.seq_k ?_; intro K hK)
   refine AW.region ?_
   refine awP (op_assign rfl rfl) ?_
   refine AWL.nil ?_
   (refine hK _ ?_; clear hK K; (try simp only [nA, Nat.reduceBEq, Nat.reduceEqDiff, ↓reduceIte, Nat.reduceAdd, Nat.reduceSub]))
   skip
   refine AW.ret ?_; (try simp only [thenE, inBlk, Nat.reduceEqDiff, ↓reduceIte]); rw [val_k (by simpa using hc1)]; exact RQ.of0 rfl (.tmp (bl rfl) rfl rfl .nil)
  have hc1 := hc; rw [kind_neg] at hc1; have hk0 : inB x.kind 1 14 = true := (by simpa using hc1); have hk := inB_iff.1 hk0
  refine AW.skip ?_
  (refine hK _ ?_; clear hK K; (skip))
  (refine AW.seq_k ?_; intro K hK)
  (refine AW.seq_k ?_; intro K hK)
  refine AW.ad [(0, (1, .own 35 [x.av]))] mix rfl ?_
  (refine adR 0 rfl (fun T' ok => op_load_ptr rfl rfl (by exact ok.1) rfl ag35 sz35 (bl rfl) rfl) (by exact ⟨rfl, trivial⟩) (by kernel_rfl) (by kernel_rfl) ?_)
  (refine adR 1 rfl (fun T' ok => op_load_ptr rfl rfl (by exact ok.1) rfl ag35 sz35 (bl rfl) rfl) (by exact ⟨rfl, trivial⟩) (by kernel_rfl) (by kernel_rfl) ?_)
  refine adF 2 rfl (fun T' ok => op_callS rfl en11 (C11 (x := x)) (RL.cons (by exact View.same rfl) (RL.nil)) rfl rfl rfl) (by exact ⟨rfl, trivial⟩) (by kernel_rfl) (by kernel_rfl) ?_; (simp only [nA, Nat.reduceBEq, Nat.reduceEqDiff, ↓reduceIte])
  refine adQ 3 rfl (fun T' ok => op_callQ (b := true) rfl en18 (C18 (a := x) (b := onlyV x) hx.r hx.o) (RL.cons (by exact View.same rfl) (RL.cons (by exact View.same rfl) (RL.nil))) rfl) (by exact ⟨rfl, trivial⟩) (by kernel_rfl) (by kernel_rfl) ?_; (try simp only [nA, Nat.reduceBEq, Nat.reduceEqDiff, ↓reduceIte, Nat.reduceAdd, Nat.reduceSub])
  refine adP 4 rfl (fun T' ok => op_not rfl rfl rfl) (by exact ⟨rfl, trivial⟩) (by kernel_rfl) (by kernel_rfl) ?_
  refine adDone (by kernel_rfl) ?_
  (refine hK _ ?_; clear hK K; (try simp only [nA, Nat.reduceBEq, Nat.reduceEqDiff, ↓reduceIte, Nat.reduceAdd, Nat.reduceSub]))
  refine AW.cond rfl rfl rfl (fun hc => ?_) (fun hc => ?_)
  ·
   have hc2 := hc
   (refine AW.seq_k ?_; intro K hK)
   refine AW.region ?_
   refine awP (op_assign rfl rfl) ?_
   refine AWL.nil ?_
   (refine hK _ ?_; clear hK K; (try simp only [nA, Nat.reduceBEq, Nat.reduceEqDiff, ↓reduceIte, Nat.reduceAdd, Nat.reduceSub]))
   skip
   refine AW.ret ?_; (try simp only [thenE, inBlk, Nat.reduceEqDiff, ↓reduceIte]); rw [val_s hk0 (by simpa using hc2)]; exact RQ.of0 rfl (.tmp (bl rfl) rfl rfl .nil)
  have hc2 := hc; have hs0 : sameB x (onlyV x) = true := (by simpa using hc2)
  refine AW.skip ?_
  (refine hK _ ?_; clear hK K; (skip))
  (refine AW.seq_k ?_; intro K hK)
  (refine AW.seq_k ?_; intro K hK)
  refine AW.region (AWL.quiet ?_)
  (refine aqP (op_fa_ptr rfl rfl rfl fl35_2 (by exact sz9) (by decide) rfl) ?_)
  (refine aqR (op_load_ptr1 rfl rfl rfl rfl ag9 rfl rfl) ?_)
  (refine aqP (op_len_str rfl rfl Tryd.underlying9) ?_)
  refine aqP (op_gtr rfl rfl rfl) ?_
  refine aqP (op_move rfl rfl) ?_
  refine' aqOr' [_, _, _, _] [22,23,24,25] rfl rfl rfl rfl rfl rfl rfl rfl rfl rfl rfl rfl (fun hb => ?_) ?_; rotate_left
  ·
   (try simp only [hcS] at hb)
   (refine aqP (op_fa_ptr rfl rfl rfl fl35_7 (by exact sz24) (by decide) rfl) ?_)
   (refine aqR (op_load_ptr1 rfl rfl rfl rfl ag24 rfl rfl) ?_)
   refine aqP (op_len_ro (n := x.reports.length) rfl rfl Tryd.underlying24 (.inr (.inl ⟨_, rfl, by simp⟩))) ?_
   refine aqP (op_gtr rfl rfl rfl) ?_
   (refine aqSeg rfl rfl rfl ?_; repeat (first | exact fun _ _ => rfl | refine upd_out rfl ?_))
  simp only [nA]
  refine aqP (op_move rfl rfl) ?_
  refine' aqOr' [_, _, _, _] [28,29,30,31] rfl rfl rfl rfl rfl rfl rfl rfl rfl rfl rfl rfl (fun hb => ?_) ?_; rotate_left
  ·
   (try simp only [hcS] at hb)
   (refine aqP (op_fa_ptr rfl rfl rfl fl35_11 (by exact sz33) (by decide) rfl) ?_)
   (refine aqR (op_load_ptr1 rfl rfl rfl rfl ag33 rfl rfl) ?_)
   refine aqP (op_len_ro (n := x.ops.length) rfl rfl Tryd.underlying33 (.inr (.inl ⟨_, rfl, by simp⟩))) ?_
   refine aqP (op_gtr rfl rfl rfl) ?_
   (refine aqSeg rfl rfl rfl ?_; repeat (first | exact fun _ _ => rfl | refine upd_out rfl ?_))
  simp only [nA]
  refine AQ.nil ?_
  (refine hK _ ?_; clear hK K; (skip))
  refine AW.cond rfl rfl rfl (fun hc => ?_) (fun hc => ?_)
  ·
   have hc3 := hc
   (refine AW.seq_k ?_; intro K hK)
   refine AW.region ?_
   refine awP (op_assign rfl rfl) ?_
   refine AWL.nil ?_
   (refine hK _ ?_; clear hK K; (try simp only [nA, Nat.reduceBEq, Nat.reduceEqDiff, ↓reduceIte, Nat.reduceAdd, Nat.reduceSub]))
   skip
   refine AW.ret ?_; (try simp only [thenE, inBlk, Nat.reduceEqDiff, ↓reduceIte]); rw [val_l hk0 hs0 hc3]; exact RQ.of0 rfl (.tmp (bl rfl) rfl rfl .nil)
  have hc3 := hc; have hl0 : limB x = false := hc3
  refine AW.skip ?_
  (refine hK _ ?_; clear hK K; (skip))
  (refine AW.seq_k ?_; intro K hK)
  (refine AW.seq_k ?_; intro K hK)
  refine AW.region ?_
  (refine awR (op_load_ptr rfl rfl rfl rfl ag35 sz35 (bl rfl) rfl) ?_)
  refine awJ (OpQ.j (op_callQ (b := true) rfl en40 (C40 (x := x) hx hk (sameB_iff.1 hs0)) (RL.cons (by exact View.same rfl) (RL.nil)) rfl)) ?_; (try simp only [nA, Nat.reduceBEq, Nat.reduceEqDiff, ↓reduceIte, Nat.reduceAdd, Nat.reduceSub])
  refine awP (op_not rfl rfl rfl) ?_
  refine AWL.nil ?_
  (refine hK _ ?_; clear hK K; (try simp only [nA, Nat.reduceBEq, Nat.reduceEqDiff, ↓reduceIte, Nat.reduceAdd, Nat.reduceSub]))
  refine AW.cond rfl rfl rfl (fun hc => ?_) (fun hc => ?_)
  ·
   have hc4 := hc
   (refine AW.seq_k ?_; intro K hK)
   refine AW.region ?_
   refine awP (op_assign rfl rfl) ?_
   refine AWL.nil ?_
   (refine hK _ ?_; clear hK K; (try simp only [nA, Nat.reduceBEq, Nat.reduceEqDiff, ↓reduceIte, Nat.reduceAdd, Nat.reduceSub]))
   skip
   refine AW.ret ?_; (try simp only [thenE, inBlk, Nat.reduceEqDiff, ↓reduceIte]); rw [val_r hk0 hs0 hl0 (show rngV x = false by simpa using hc4)]; exact RQ.of0 rfl (.tmp (bl rfl) rfl rfl .nil)
  have hc4 := hc; have hp0 : (fieldsL x.kind).all (prB x) = true := (show rngV x = true by simpa using hc4)
  refine AW.skip ?_
  (refine hK _ ?_; clear hK K; (skip))
  (refine AW.seq_k ?_; intro K hK)
  (refine AW.seq_k ?_; intro K hK)
  refine AW.region ?_
  refine awP (op_assign rfl rfl) ?_
  refine AWL.nil ?_
  (refine hK _ ?_; clear hK K; (try simp only [nA, Nat.reduceBEq, Nat.reduceEqDiff, ↓reduceIte, Nat.reduceAdd, Nat.reduceSub]))
  refine AW.block ?_
  refine AW.loopI (fun j => [(1, .ptr 0 1 0 0), (3, .v (.int .i64 (j : Nat)))]) (fun j => ⟨[(1, .own 35 [x.av])], 2⟩) (fun j => 1 ≤ j ∧ j ≤ x.reports.length + 1 ∧ ∀ k, 1 ≤ k → k < j → (x.reports.getD (k - 1) default).device < (x.reports.getD k default).device) (fun j => x.reports.length + 1 - j) 1 ⟨by omega, by omega, fun k h1 h2 => by omega⟩ ⟨rfl, rfl, trivial⟩ rfl ?_; intro j ρ hj; simp only [updL]
  (refine AW.seq_k ?_; intro K hK)
  (refine AW.seq_k ?_; intro K hK)
  refine AW.region ?_
  refine awP (op_move rfl rfl) ?_
  (refine awP (op_fa_ptr rfl rfl rfl fl35_7 (by exact sz24) (by decide) rfl) ?_)
  (refine awR (op_load_ptr1 rfl rfl rfl rfl ag24 rfl rfl) ?_)
  refine awP (op_len_ro (n := x.reports.length) rfl rfl Tryd.underlying24 (.inr (.inl ⟨_, rfl, by simp⟩))) ?_
  refine awP (op_lss rfl rfl rfl) ?_
  refine AWL.nil ?_
  (refine hK _ ?_; clear hK K; (simp only [nA, ↓reduceIte]))
  refine AW.cond rfl rfl rfl (fun hc => ?_) (fun hc => ?_)
  ·
   have hc5 := hc; have hlt : j < x.reports.length := (by simpa using hc5)
   refine AW.skip ?_
   (refine hK _ ?_; clear hK K; (skip))
   (refine AW.seq_k ?_; intro K hK)
   refine AW.block ?_
   (refine AW.seq_k ?_; intro K hK)
   refine AW.quiet mix (by kernel_rfl) ?_
   (refine aqP (op_fa_ptr rfl rfl rfl fl35_7 (by exact sz24) (by decide) rfl) ?_)
   (refine aqR (op_load_ptr1 rfl rfl rfl rfl ag24 rfl rfl) ?_)
   refine aqP (op_move rfl rfl) ?_
   refine aqP (op_ia_ro j rfl (.inl rfl) rfl Tryd.underlying24 rfl (get_mapD (by omega)) (by exact sz66) (bl rfl)) ?_
   (refine aqP (op_fa_rop rfl rfl fl66_0 (by exact sz3) (by decide) (bl rfl) rfl) ?_)
   (refine aqR (op_load_rop1 rfl rfl ag3) ?_)
   (refine aqP (op_fa_ptr rfl rfl rfl fl35_7 (by exact sz24) (by decide) rfl) ?_)
   (refine aqR (op_load_ptr1 rfl rfl rfl rfl ag24 rfl rfl) ?_)
   refine aqP (op_move rfl rfl) ?_
   (refine aqP (op_subi rfl rfl rfl (by omega)) ?_)
   refine aqP (op_ia_ro (j - 1) rfl (.inl rfl) rfl Tryd.underlying24 (by omega) (get_mapD (by omega)) (by exact sz66) (bl rfl)) ?_
   (refine aqP (op_fa_rop rfl rfl fl66_0 (by exact sz3) (by decide) (bl rfl) rfl) ?_)
   (refine aqR (op_load_rop1 rfl rfl ag3) ?_)
   refine aqP (op_leq rfl rfl rfl) ?_
   refine AQ.nil ?_
   (refine hK _ ?_; clear hK K; (simp only [nA, ↓reduceIte]))
   refine AW.cond rfl rfl rfl (fun hc => ?_) (fun hc => ?_)
   ·
    have hc6 := hc
    (refine AW.seq_k ?_; intro K hK)
    refine AW.region ?_
    refine awP (op_assign rfl rfl) ?_
    refine AWL.nil ?_
    (refine hK _ ?_; clear hK K; (try simp only [nA, Nat.reduceBEq, Nat.reduceEqDiff, ↓reduceIte, Nat.reduceAdd, Nat.reduceSub]))
    skip
    refine AW.ret ?_; (try simp only [thenE, inBlk, Nat.reduceEqDiff, ↓reduceIte]); rw [val_a hk0 hs0 hl0 hp0 (asc_no hj.1 hlt hc6)]; exact RQ.of0 rfl (.tmp (bl rfl) rfl rfl .nil)
   have hc6 := hc
   refine AW.skip ?_
   (try simp only [thenE, inBlk, Nat.reduceEqDiff, ↓reduceIte])
   (refine hK _ ?_; clear hK K; (skip))
   refine AW.region ?_
   refine awP (op_move rfl rfl) ?_
   (refine awP (op_addi rfl rfl rfl (by omega)) ?_)
   refine awP (op_assign rfl rfl) ?_
   skip
   refine AWL.nil ?_
   refine ⟨j + 1, ⟨by omega, by omega, fun k h1 h2 => by rcases Nat.lt_or_ge k j with h | h; exact hj.2.2 k h1 h; (obtain rfl : k = j := by omega); have := of_decide_eq_false hc6; omega⟩, by omega, ⟨rfl, rfl, trivial⟩, (by rfl), (by rfl)⟩
  have hc5 := hc; have hnl : ¬ j < x.reports.length := (by simpa using hc5)
  refine AW.exit ?_; (try simp only [thenE, inBlk, Nat.reduceEqDiff, ↓reduceIte])
  clear hK K
  (refine hK _ ?_; clear hK K; (skip))
  (refine AW.seq_k ?_; intro K hK)
  refine AW.region ?_
  refine awP (op_assign rfl rfl) ?_
  refine AWL.nil ?_
  (refine hK _ ?_; clear hK K; (try simp only [nA, Nat.reduceBEq, Nat.reduceEqDiff, ↓reduceIte, Nat.reduceAdd, Nat.reduceSub]))
  skip
  refine AW.ret ?_; (try simp only [thenE, inBlk, Nat.reduceEqDiff, ↓reduceIte]); rw [val_0 hk0 hs0 hl0 hp0 (asc_yes hnl hj.2.2)]; exact RQ.of0 rfl (.tmp (bl rfl) rfl rfl .nil)
end Go.Proofs.YtfmnaigedgmhoaaDoor
namespace Go.Proofs.YtfmnaigedgmhoaaDoor
open Go.RowKit
set_option linter.unusedSimpArgs false
set_option linter.unusedVariables false
theorem op_buildArr {C : Cx} {o : Oper} {ev : Operand → AV} {T : Sl} {t e : TypeId} {m n sz b : Nat} {z : Value} {ps : Array (Nat × Operand)} (ho : o.op = .build t ps) (rows : List (Nat × List AV)) (ht : C.P.underlying t = some (.array m e)) (hs : sizeIs C.P e sz) (hz : zeroIs C.P t z n b)
    (hp : ps.toList.map (fun p => (p.1, rowR (ev p.2))) = rows.map (fun p => (p.1, some p.2))) (hr : rows.all (fun p => p.2.length == sz && p.1 * sz + sz ≤ n) = true) {xs : List AV} (hx : rows.foldl (fun cs p => splice cs (p.1 * sz) p.2) (z.cells.toList.map .v) = xs) :
    OpP C o ev T (.agg xs) := by
  intro a w S vals bss hm h
  have hrl : RL (fun (u : Nat × Value) (x : Nat × List AV) => u.1 = x.1 ∧ RL (RefOK C.P S w T vals) u.2.cells.toList x.2) (evP a ps).toList rows := by
    refine ⟨by have := congrArg List.length hp; simpa [evP] using this, fun i u x hu hx => ?_⟩
    simp only [evP, Array.toList_map, List.getElem?_map] at hu
    cases hq : ps.toList[i]? with
    | none => rw [hq] at hu; cases hu
    | some q =>
      rw [hq] at hu
      simp at hu
      have h1 := congrArg (·[i]?) hp
      simp only [List.getElem?_map, hq, hx, Option.map_some, Option.some.injEq] at h1
      injection h1 with h1 h2
      rw [← hu]
      exact ⟨h1, (h q.2 (by simp [ho, Op.operands]; exact ⟨q.1, Array.mem_toList_iff.1 (List.mem_of_getElem? hq)⟩)).rowR h2⟩
  have hfill := fill_run (fun i => some (i * sz, sz)) (evP a ps).toList z.cells fun p hp => by
    obtain ⟨i, hi', rfl⟩ := List.getElem_of_mem hp
    have hi2 : i < rows.length := by rw [← hrl.1]; exact hi'
    obtain ⟨e1, e2⟩ := hrl.2 i _ _ (List.getElem?_eq_getElem hi') (List.getElem?_eq_getElem hi2)
    have h3 := List.all_eq_true.1 hr rows[i] (List.getElem_mem hi2)
    rw [e1]
    simp only [Bool.and_eq_true, beq_iff_eq, decide_eq_true_eq] at h3
    have e5 : (evP a ps).toList[i].2.cells.size = sz := by rw [← h3.1, ← e2.1]; simp
    refine ⟨rows[i].1 * sz, by rw [e5], ?_⟩
    rw [e5, hz.2.1]; exact h3.2
  have hf2 := rl_foldl_ref (T := T) (P := C.P) (S := S) (w := w) (vals := vals) (fun i => i * sz) _ _ _ _ hrl (hz.rl.mono fun u x h => Rep.ref (T := T) (vals := vals) h)
  rw [hx] at hf2
  refine ⟨.agg ((evP a ps).toList.foldl (fun cs p => splice cs (p.1 * sz) p.2.cells.toList) z.cells.toList).toArray, fun w => ?_, ⟨_, rfl, hf2⟩⟩
  have he : execOp a.eval o = (do let v ← Instr.build t (evP a ps); pure (Next.value v) : Sem Next) := by simp only [execOp, ho]; rfl
  rw [he]
  have hfill' : Instr.fill (fun i => some (i * sz, sz)) z.cells (evP a ps).toList = _ := hfill
  simp only [Instr.build, Sem.run_bind, hz.run, run_underlying ht, Result.andThen_ok, run_sizeOf hs, hfill', Sem.run_pure]
  simp
end Go.Proofs.YtfmnaigedgmhoaaDoor
namespace Go.Proofs.YtfmnaigedgmhoaaDoor
open Go.RowKit
set_option linter.unusedSimpArgs false
set_option linter.unusedVariables false
theorem own_app_str {P : Program} {w : World} {t u ty e : TypeId} {i : TypeInfo} (ht : P.underlying t = some (.slice e)) (hu : P.underlying u = some .string) (hi : P.info? e = some i) (hz : i.zero = some (.int .u8 0)) (hsize : i.size = 1) (hby : i.bytes = 1)
    {v : Value} {n : Nat} {xs : List Value} (hown : w.ownsRow 0 e 1 v n xs) (s : ByteArray) (hb : n + s.size ≤ 140737488355328) :
    ∃ v' w', (Builtin.append_ #[t, u] ty #[v, .string s]).run P w = .ok v' w' ∧ w'.ownsRow 0 e 1 v' (n + s.size) (xs ++ Lib.strCells s) ∧ w.grownBy w' v.ownBlock ∧ (v'.ownBlock = v.ownBlock ∨ v'.ownBlock = some w.heap.size) := by
  have hmax : n + s.size ≤ maxLen := by unfold maxLen; omega
  obtain ⟨v', w', hr, ho, hg, hn⟩ := Lib.run_append_own_string (P := P) w 0 t u ty e i ht hu hi hz hsize hby v n xs hown s hmax hb (Nat.zero_le _)
  refine ⟨v', w', hr, ho, hg, ?_⟩
  rcases hown.2 with ⟨rfl, rfl⟩ | ⟨g, cap, cur, rfl, -, hgg, hnc, hcm, hcs, htake⟩
  · by_cases hm : s.size = 0
    · left; rw [hn.2 ⟨rfl, hm⟩]
    have h1 := run_append_nil_string (P := P) w t u ty e i (.int .u8 0) ht hu hi hz s (by omega) (by omega) (by rw [hby]; omega)
    rw [hr] at h1
    injection h1 with h1 _
    right; rw [h1]; rfl
  by_cases hroom : n + s.size ≤ cap
  · have hcs2 : cur.size = cap := by simpa using hcs
    have h1 := Lib.run_append_room_string (P := P) w t u ty e i ht hu hi hsize g n cap cur hgg s hroom (by omega)
    rw [hr] at h1
    injection h1 with h1 _
    left; rw [h1]; rfl
  have holds : ∀ j u, xs[j]? = some u → w.cell? ((⟨g, 0, none⟩ : Addr).add j) = some u := hown.cells (g := g) rfl
  have h1 := Lib.run_append_grow_string (P := P) w t u ty e i (.int .u8 0) ht hu hi hz ⟨g, 0, none⟩ n cap xs (by rw [hsize]; simpa using hown.1) holds s (by omega) (by omega) (by rw [hby]; exact growslice_fits (by omega) (by omega))
  rw [hr] at h1
  injection h1 with h1 _
  right; rw [h1]; rfl
abbrev strRows (s : ByteArray) : List (List AV) := s.data.toList.map fun b => [.v (.int .u8 (b.toNat : Nat))]
theorem strRows_len (s : ByteArray) : (strRows s).length = s.size := by
  rw [List.length_map, Array.length_toList]; rfl
theorem flat_one {α : Type} (f : UInt8 → α) : ∀ l : List UInt8, (l.map fun b => [f b]).flatten = l.map f
  | [] => rfl
  | x :: l => by rw [List.map_cons, List.flatten_cons, flat_one f l]; rfl
theorem run_app_str {P : Program} {S : Nat → Prop} {w : World} {t u e ty : TypeId} (ht : P.underlying t = some (.slice e)) (hu : P.underlying u = some .string) (hz : zeroIs P e (.int .u8 0) 1 1) {bs : List Nat} {v : Value} {es : List (List AV)} {s : ByteArray}
    (h : Rep P S w bs v (.own e es)) (hnd : bs.Nodup) (hap : ∀ q ∈ bs, ¬ S q) (hlen : es.length + s.size ≤ 140737488355328) :
    ∃ v' w' bs', (Builtin.append_ #[t, u] ty #[v, .string s]).run P w = .ok v' w' ∧ Rep P S w' bs' v' (.own e (es ++ strRows s)) ∧ bs'.Nodup ∧ (∀ q ∈ bs', q ∈ bs ∨ w.heap.size ≤ q) ∧ Kept (fun q => q ∉ bs) w w' := by
  obtain ⟨us0, sz0, bss, rfl, hi, hsz, hown, hul, hbl, hcc⟩ := h.own_inv
  obtain rfl := hi.inj hz.size
  obtain ⟨hzi, hz2, hz3⟩ := hz
  obtain ⟨i, hii, hz0, hz1, hz4⟩ := info_parts hzi
  obtain ⟨v', w', hrun, ho, hg, hb'⟩ := own_app_str (ty := ty) ht hu hii hz0 hz1 hz4 hown s hlen
  have hsl : (Lib.strCells s).length = s.size := Lib.strCells_length s
  have hfl : (strRows s).flatten = s.data.toList.map fun b => AV.v (.int .u8 (b.toNat : Nat)) := flat_one _ _
  have hk : Kept (fun q => some q ≠ v.ownBlock) w w' := (Kept.refl _ _).grown hg fun k hk => .inl fun h => h hk.symm
  rw [List.nodup_append] at hnd
  obtain ⟨nd1, nd2, nd3⟩ := hnd
  have hvS : ∀ k, k < w.heap.size → S k → some k ≠ v.ownBlock := fun k _ hk he => hap k (List.mem_append_left _ (by rw [← he]; simp)) hk
  refine ⟨v', w', v'.ownBlock.toList ++ (bss ++ List.replicate s.size []).flatten, hrun, ?_, ?_, ?_, ?_⟩
  · refine Rep.own (us := us0 ++ Lib.strCells s) hi ?_ (by rw [List.length_append, strRows_len]; exact ho) (by rw [List.flatten_append, List.length_append, List.length_append, hul, hfl, List.length_map, hsl, Array.length_toList]; rfl) (by simp [hbl, hsl]) fun q u x bq h1 h2 h3 => ?_
    · intro x hx
      rcases List.mem_append.1 hx with h | h
      · exact hsz x h
      obtain ⟨b, _, rfl⟩ := List.mem_map.1 h; rfl
    rw [List.flatten_append] at h2
    by_cases hq : q < us0.length
    · rw [List.getElem?_append_left hq] at h1
      rw [List.getElem?_append_left (by rw [← hul]; exact hq)] at h2
      rw [List.getElem?_append_left (by rw [hbl]; exact hq)] at h3
      refine (hcc q u x bq h1 h2 h3).kept hk hvS fun b' hb' he => ?_
      exact nd3 b' (by rw [← he]; simp) b' (List.mem_flatten.2 ⟨bq, List.mem_of_getElem? h3, hb'⟩) rfl
    rw [List.getElem?_append_right (by omega)] at h1
    rw [List.getElem?_append_right (by rw [← hul]; omega), ← hul, hfl] at h2
    rw [List.getElem?_append_right (by rw [hbl]; omega), hbl] at h3
    have : bq = [] := by rw [List.getElem?_replicate] at h3; split at h3 <;> simp_all
    subst this
    unfold Lib.strCells at h1
    rw [List.getElem?_map] at h1 h2
    cases hc : s.data.toList[q - us0.length]? with
    | none => rw [hc] at h1; cases h1
    | some c =>
      rw [hc] at h1 h2
      simp only [Option.map_some, Option.some.injEq] at h1 h2
      subst h1; subst h2
      exact .v rfl
  · rw [List.flatten_append, List.flatten_replicate_nil, List.append_nil, List.nodup_append]
    refine ⟨by cases v'.ownBlock <;> simp, nd2, fun a ha b hb he => ?_⟩
    subst he
    rcases hb' with h1 | h1
    · rw [h1] at ha; exact nd3 a ha a hb rfl
    rw [h1] at ha
    simp at ha
    subst ha
    have := h.lt _ (List.mem_append_right _ hb)
    omega
  · intro q hq
    rw [List.flatten_append, List.flatten_replicate_nil, List.append_nil] at hq
    rcases List.mem_append.1 hq with h2 | h2
    · rcases hb' with h1 | h1
      · rw [h1] at h2; exact .inl (List.mem_append_left _ h2)
      rw [h1] at h2; simp at h2; right; omega
    exact .inl (List.mem_append_right _ h2)
  exact hk.mono fun k _ hk' he => hk' (List.mem_append_left _ (by rw [← he]; simp))
section
variable {C : Cx} {o : Oper} {ev : Operand → AV} {T : Sl}
theorem op_app_str {t u e : TypeId} {y q : Operand} {r k : Nat} {es : List (List AV)} {s : ByteArray} (ho : o.op = .call { callee := .builtin .append, args := #[y, q], argTypes := #[t, u] }) {len : Nat} (hy : ev y = .sl r k 0 len) (hs : ev q = .v (.string s)) (hT : T.slots[r]? = some (k, .own e es)) (hl : len = es.length)
    (ht : C.P.underlying t = some (.slice e)) (hu : C.P.underlying u = some .string) (hz : zeroIs C.P e (.int .u8 0) 1 1) (hb : es.length + s.size ≤ 140737488355328) {es' : List (List AV)} (he : es ++ strRows s = es') {n : Nat} (hn : es.length + s.size = n) :
    OpJ C o ev T (.sl r T.ep 0 n) ⟨T.slots.set r (T.ep, .own e es'), T.ep + 1⟩ := by
  intro a w S vals bss hm h K hK Q
  have h1 := h y (by simp [ho, Op.operands, Call.operands])
  have h2 := h q (by simp [ho, Op.operands, Call.operands])
  rw [hy] at h1
  rw [hs] at h2
  have e1 : a.eval q = .string s := h2.v
  obtain ⟨v, bs, hv, hbb, hrep⟩ := hm.slot hT
  have hmax : es.length + s.size ≤ maxLen := by
    unfold maxLen
    omega
  obtain ⟨v', w', bs', hrun, hrep', hnd, hsub, hk⟩ := run_app_str (P := C.P) (ty := o.type) ht hu hz hrep (hm.nodup r bs hbb) (hm.apart r bs hbb) hb
  obtain ⟨us0, sz0, bss0, -, hi0, hsz0, hown, -⟩ := hrep.own_inv
  obtain ⟨hol, A0, nn, cap, hve, g3, g4, g5, g6⟩ := h1.2.2 e es v sz0 hT hv hi0
  have hyv : a.eval y = v := by
    rcases g6 with ⟨-, h8⟩ | ⟨A', h8, _⟩
    · rw [h8, hve, hl]
      rcases hown.2 with ⟨hnil, h0'⟩ | ⟨g, cap', cur, hcap, -⟩
      · rw [hve] at hnil; injection hnil with q1 q2 q3; rw [q2, h0']
      rw [hve] at hcap; injection hcap with q1 q2 q3; rw [q2]
    omega
  rw [he] at hrep'
  obtain ⟨hm', hf⟩ := hm.set (k' := T.ep) (ep' := T.ep + 1) hT hv hbb hk hrep' hnd hsub (.inr ⟨rfl, rfl⟩)
  unfold Oper.wp execOp
  simp only [ho, resolve, invoke, builtin, Sem.run_bind, Sem.run_pure, Result.andThen_ok, List.map_toArray, List.map_cons, List.map_nil, hyv, e1, hrun]
  refine hK v' _ _ _ _ hm' hf ⟨by simp, hrep'.one, fun e2 es2 v2 sz2 q1 q2 q3 => ?_⟩
  have hrl : r < T.slots.length := (List.getElem?_eq_some_iff.1 hT).1
  have q1 : (T.slots.set r _)[r]? = _ := q1
  rw [getElem?_set_ _ _ _ _ hrl, if_pos rfl] at q1
  rw [getElem?_set_ _ _ _ _ (by rw [hm.nv]; exact hrl), if_pos rfl] at q2
  injection q1 with q1; injection q1 with _ q1; injection q1 with q1 q4
  injection q2 with q2
  subst q1; subst q2; subst q4
  obtain ⟨us1, sz1, bss1, -, hi1, hsz1, hown1, -⟩ := hrep'.own_inv
  have hel : es'.length = n := by rw [← he, List.length_append, strRows_len, hn]
  refine ⟨by omega, ?_⟩
  rcases hown1.2 with ⟨hnil, h0'⟩ | ⟨g, cap', cur, hcap, -, -, p1, p2, -⟩
  · exact ⟨none, 0, 0, hnil, by omega, Nat.le_refl _, by unfold maxLen; omega, .inl ⟨rfl, by rw [hnil, show n = 0 by omega]⟩⟩
  exact ⟨_, _, _, hcap, by omega, p1, p2, .inl ⟨rfl, by rw [hcap, hel]⟩⟩
end
end Go.Proofs.YtfmnaigedgmhoaaDoor
namespace Go.Proofs.YtfmnaigedgmhoaaDoor
open Go.RowKit
set_option linter.unusedSimpArgs false
set_option linter.unusedVariables false
set_option maxRecDepth 100000
abbrev wB (bs : BL) : AV := .own 77 [[.own 5 (bs.map bv)]]
theorem wrapU (x : Int) : IntKind.u8.wrap x = (((byI x).toNat : Nat) : Int) := by rw [IntKind.wrap_u8, byI_nat]
theorem shr24 (n : Int) : n.fdiv (2 ^ (min (24 : Int).toNat IntKind.i64.bits)) = n / 16777216 := Int.fdiv_eq_ediv_of_nonneg n (by decide)
theorem shr16 (n : Int) : n.fdiv (2 ^ (min (16 : Int).toNat IntKind.i64.bits)) = n / 65536 := Int.fdiv_eq_ediv_of_nonneg n (by decide)
theorem shr8 (n : Int) : n.fdiv (2 ^ (min (8 : Int).toNat IntKind.i64.bits)) = n / 256 := Int.fdiv_eq_ediv_of_nonneg n (by decide)
set_option maxHeartbeats 8000000 in
theorem C51 {bs : BL} {n : Int} (hb : bs.length ≤ 1000000) : Fn Tryd.prog 51 [wB bs] [.ptr 0 0 0 0, .v (.int .i64 n)] [] [wB (bs ++ b4 n)] := by
  refine Spec.body Tryd.func51 rfl Tryd.ntmps51 (by simp) rfl ?_; intro S0 own0 v0 w0 gl
  refine AW.region ?_
  refine awP (op_move rfl rfl) ?_; (try simp only [nA, Nat.reduceBEq, Nat.reduceEqDiff, ↓reduceIte, Nat.reduceAdd, Nat.reduceSub])
  refine awP (op_move rfl rfl) ?_; (simp only [nA, ↓reduceIte])
  (refine awP (op_nil_slot rfl rfl rfl) ?_); (try simp only [nA, Nat.reduceBEq, Nat.reduceEqDiff, ↓reduceIte, Nat.reduceAdd, Nat.reduceSub])
  (refine awP (op_fa_ptr rfl rfl rfl fl77_0 (by exact sz43) (by decide) rfl) ?_); (try simp only [nA, Nat.reduceBEq, Nat.reduceEqDiff, ↓reduceIte, Nat.reduceAdd, Nat.reduceSub])
  refine awJ (op_load_nest (i := 0) (j := 0) rfl rfl rfl rfl ag43 rfl rfl) ?_; (simp only [nA, Nat.reduceBEq, Nat.reduceEqDiff, ↓reduceIte])
  refine awP (op_move rfl rfl) ?_; (simp only [nA, ↓reduceIte])
  refine awP (op_shr rfl rfl rfl (by decide) (shr24 n)) ?_; (try simp only [nA, Nat.reduceBEq, Nat.reduceEqDiff, ↓reduceIte, Nat.reduceAdd, Nat.reduceSub])
  refine awP (op_conv rfl rfl Tryd.underlying3 Tryd.underlying5 (wrapU _)) ?_; (try simp only [nA, Nat.reduceBEq, Nat.reduceEqDiff, ↓reduceIte, Nat.reduceAdd, Nat.reduceSub])
  refine awP (op_move rfl rfl) ?_; (simp only [nA, ↓reduceIte])
  refine awP (op_shr rfl rfl rfl (by decide) (shr16 n)) ?_; (try simp only [nA, Nat.reduceBEq, Nat.reduceEqDiff, ↓reduceIte, Nat.reduceAdd, Nat.reduceSub])
  refine awP (op_conv rfl rfl Tryd.underlying3 Tryd.underlying5 (wrapU _)) ?_; (try simp only [nA, Nat.reduceBEq, Nat.reduceEqDiff, ↓reduceIte, Nat.reduceAdd, Nat.reduceSub])
  refine awP (op_move rfl rfl) ?_; (simp only [nA, ↓reduceIte])
  refine awP (op_shr rfl rfl rfl (by decide) (shr8 n)) ?_; (try simp only [nA, Nat.reduceBEq, Nat.reduceEqDiff, ↓reduceIte, Nat.reduceAdd, Nat.reduceSub])
  refine awP (op_conv rfl rfl Tryd.underlying3 Tryd.underlying5 (wrapU _)) ?_; (try simp only [nA, Nat.reduceBEq, Nat.reduceEqDiff, ↓reduceIte, Nat.reduceAdd, Nat.reduceSub])
  refine awP (op_move rfl rfl) ?_; (simp only [nA, ↓reduceIte])
  refine awP (op_conv rfl rfl Tryd.underlying3 Tryd.underlying5 (wrapU _)) ?_; (try simp only [nA, Nat.reduceBEq, Nat.reduceEqDiff, ↓reduceIte, Nat.reduceAdd, Nat.reduceSub])
  refine awJ (OpJ.frz (op_buildSlice rfl [(0, bv (byI (n / 16777216))), (1, bv (byI (n / 65536))), (2, bv (byI (n / 256))), (3, bv (byI n))] ((b4 n).map bv) Tryd.underlying43 ze5 rfl (by simp [b4]) rfl (bv_len _) rfl (bl rfl) (by simp [b4, maxLen])) (bv_flat _) rfl) ?_; (try simp only [nA, Nat.reduceBEq, Nat.reduceEqDiff, ↓reduceIte, Nat.reduceAdd, Nat.reduceSub])
  refine awJ (op_app (rows := (b4 n).map bv) rfl rfl rfl rfl (by simp) .ro Tryd.underlying43 ze5 (by decide) (bv_len _) (by simp [b4]; omega) (by decide) (es' := (bs ++ b4 n).map bv) (by simp) (n := (bs ++ b4 n).length) (by simp)) ?_; (simp only [nA, Nat.reduceBEq, Nat.reduceEqDiff, ↓reduceIte])
  (refine awP (op_nil_slot rfl rfl rfl) ?_); (try simp only [nA, Nat.reduceBEq, Nat.reduceEqDiff, ↓reduceIte, Nat.reduceAdd, Nat.reduceSub])
  (refine awP (op_fa_ptr rfl rfl rfl fl77_0 (by exact sz43) (by decide) rfl) ?_); (try simp only [nA, Nat.reduceBEq, Nat.reduceEqDiff, ↓reduceIte, Nat.reduceAdd, Nat.reduceSub])
  refine awJ (op_store_nest (r := 0) (q := 1) rfl rfl rfl rfl rfl sz43 rfl (by decide) (by simp) (by simp) (es2 := [[.own 5 ((bs ++ b4 n).map bv)]]) rfl) ?_; (try simp only [nA, Nat.reduceBEq, Nat.reduceEqDiff, ↓reduceIte, Nat.reduceAdd, Nat.reduceSub])
  refine AWL.nil ?_
  exact RQ.of (.inr rfl) rfl .nil (by simp) rfl (one_out rfl)
set_option maxHeartbeats 8000000 in
theorem C52 {bs : BL} {s : ByteArray} (hb : bs.length ≤ 1000000) (hs : s.size ≤ 1000000) : Fn Tryd.prog 52 [wB bs] [.ptr 0 0 0 0, .v (.string s)] [] [wB (bs ++ eWd s)] := by
  refine Spec.body Tryd.func52 rfl Tryd.ntmps52 (by simp) rfl ?_; intro S0 own0 v0 w0 gl
  (refine AW.seq_k ?_; intro K hK)
  refine AW.region ?_
  refine awP (op_move rfl rfl) ?_; (try simp only [nA, Nat.reduceBEq, Nat.reduceEqDiff, ↓reduceIte, Nat.reduceAdd, Nat.reduceSub])
  refine awP (op_move rfl rfl) ?_; (simp only [nA, ↓reduceIte])
  (refine awP (op_len_str rfl rfl Tryd.underlying9) ?_); (try simp only [nA, Nat.reduceBEq, Nat.reduceEqDiff, ↓reduceIte, Nat.reduceAdd, Nat.reduceSub])
  refine awJ (op_call1 rfl en51 (C51 (bs := bs) (n := (s.size : Nat)) (by omega)) (by exact rfl) (RL.cons .ptr (RL.cons (.base (by exact View.same rfl)) (RL.nil))) (by exact ⟨_, _, _, rfl, rfl, rfl⟩) (by exact rfl) (by exact rfl) (by exact rfl)) ?_; (try simp only [nA, Nat.reduceBEq, Nat.reduceEqDiff, ↓reduceIte, Nat.reduceAdd, Nat.reduceSub])
  refine AWL.nil ?_
  (refine hK _ ?_; clear hK K; (try simp only [nA, Nat.reduceBEq, Nat.reduceEqDiff, ↓reduceIte, Nat.reduceAdd, Nat.reduceSub]))
  refine AW.region ?_
  refine awP (op_move rfl rfl) ?_; (simp only [nA, ↓reduceIte])
  refine awP (op_move rfl rfl) ?_; (simp only [nA, ↓reduceIte])
  (refine awP (op_nil_slot rfl rfl rfl) ?_); (try simp only [nA, Nat.reduceBEq, Nat.reduceEqDiff, ↓reduceIte, Nat.reduceAdd, Nat.reduceSub])
  (refine awP (op_fa_ptr rfl rfl rfl fl77_0 (by exact sz43) (by decide) rfl) ?_); (try simp only [nA, Nat.reduceBEq, Nat.reduceEqDiff, ↓reduceIte, Nat.reduceAdd, Nat.reduceSub])
  refine awJ (op_load_nest (i := 0) (j := 0) rfl rfl rfl rfl ag43 rfl rfl) ?_; (simp only [nA, Nat.reduceBEq, Nat.reduceEqDiff, ↓reduceIte])
  refine awP (op_move rfl rfl) ?_; (simp only [nA, ↓reduceIte])
  refine awJ (op_app_str rfl rfl rfl rfl (by simp) Tryd.underlying43 Tryd.underlying9 ze5 (by simp [b4]; omega) (es' := (bs ++ eWd s).map bv) (by simp [eWd]) (n := (bs ++ eWd s).length) (by rw [List.length_map, List.length_append, List.length_append, wd_len, b4_len]; omega)) ?_; (simp only [nA, Nat.reduceBEq, Nat.reduceEqDiff, ↓reduceIte])
  (refine awP (op_nil_slot rfl rfl rfl) ?_); (try simp only [nA, Nat.reduceBEq, Nat.reduceEqDiff, ↓reduceIte, Nat.reduceAdd, Nat.reduceSub])
  (refine awP (op_fa_ptr rfl rfl rfl fl77_0 (by exact sz43) (by decide) rfl) ?_); (try simp only [nA, Nat.reduceBEq, Nat.reduceEqDiff, ↓reduceIte, Nat.reduceAdd, Nat.reduceSub])
  refine awJ (op_store_nest (r := 0) (q := 1) rfl rfl rfl rfl rfl sz43 rfl (by decide) (by simp) (by simp) (es2 := [[.own 5 ((bs ++ eWd s).map bv)]]) rfl) ?_; (try simp only [nA, Nat.reduceBEq, Nat.reduceEqDiff, ↓reduceIte, Nat.reduceAdd, Nat.reduceSub])
  refine AWL.nil ?_
  exact RQ.of (.inr rfl) rfl .nil (by simp) rfl (one_out rfl)
set_option maxHeartbeats 8000000 in
theorem C54 {bs : BL} {yes : Bool} (hb : bs.length ≤ 1000000) : Fn Tryd.prog 54 [wB bs] [.ptr 0 0 0 0, .v (.bool yes)] [] [wB (bs ++ eTr yes)] := by
  refine Spec.body Tryd.func54 rfl Tryd.ntmps54 (by simp) rfl ?_; intro S0 own0 v0 w0 gl
  (refine AW.seq_k ?_; intro K hK)
  refine AW.region ?_
  refine awP (op_assign rfl rfl) ?_; (try simp only [nA, Nat.reduceBEq, Nat.reduceEqDiff, ↓reduceIte, Nat.reduceAdd, Nat.reduceSub])
  refine AWL.nil ?_
  (refine hK _ ?_; clear hK K; (try simp only [nA, Nat.reduceBEq, Nat.reduceEqDiff, ↓reduceIte, Nat.reduceAdd, Nat.reduceSub]))
  (refine AW.seq_k ?_; intro K hK)
  (refine AW.seq_k ?_; intro K hK)
  refine AW.region ?_
  refine awP (op_move rfl rfl) ?_; (simp only [nA, ↓reduceIte])
  refine AWL.nil ?_
  (refine hK _ ?_; clear hK K; (skip))
  refine AW.cond rfl rfl rfl (fun hc => ?_) (fun hc => ?_)
  ·
   have hc1 := hc; obtain rfl : yes = true := hc1
   refine AW.region ?_
   refine awP (op_assign rfl rfl) ?_; (try simp only [nA, Nat.reduceBEq, Nat.reduceEqDiff, ↓reduceIte, Nat.reduceAdd, Nat.reduceSub])
   refine AWL.nil ?_
   (refine hK _ ?_; clear hK K; (skip))
   refine AW.region ?_
   refine awP (op_move rfl rfl) ?_; (simp only [nA, ↓reduceIte])
   refine awP (op_move rfl rfl) ?_; (simp only [nA, ↓reduceIte])
   (refine awP (op_nil_slot rfl rfl rfl) ?_); (try simp only [nA, Nat.reduceBEq, Nat.reduceEqDiff, ↓reduceIte, Nat.reduceAdd, Nat.reduceSub])
   (refine awP (op_fa_ptr rfl rfl rfl fl77_0 (by exact sz43) (by decide) rfl) ?_); (try simp only [nA, Nat.reduceBEq, Nat.reduceEqDiff, ↓reduceIte, Nat.reduceAdd, Nat.reduceSub])
   refine awJ (op_load_nest (i := 0) (j := 0) rfl rfl rfl rfl ag43 rfl rfl) ?_; (simp only [nA, Nat.reduceBEq, Nat.reduceEqDiff, ↓reduceIte])
   refine awP (op_move rfl rfl) ?_; (simp only [nA, ↓reduceIte])
   (refine awJ (OpJ.frz (op_buildSlice rfl [(0, bv 1)] ((eTr true).map bv) Tryd.underlying43 ze5 rfl (by simp [eTr]) rfl (bv_len _) rfl (bl rfl) (by simp [eTr, maxLen])) (bv_flat _) rfl) ?_); (try simp only [nA, Nat.reduceBEq, Nat.reduceEqDiff, ↓reduceIte, Nat.reduceAdd, Nat.reduceSub])
   refine awJ (op_app (rows := (eTr true).map bv) rfl rfl rfl rfl (by simp) .ro Tryd.underlying43 ze5 (by decide) (bv_len _) (by simp [eTr]; omega) (by decide) (es' := (bs ++ eTr true).map bv) (by simp) (n := (bs ++ eTr true).length) (by simp)) ?_; (simp only [nA, Nat.reduceBEq, Nat.reduceEqDiff, ↓reduceIte])
   (refine awP (op_nil_slot rfl rfl rfl) ?_); (try simp only [nA, Nat.reduceBEq, Nat.reduceEqDiff, ↓reduceIte, Nat.reduceAdd, Nat.reduceSub])
   (refine awP (op_fa_ptr rfl rfl rfl fl77_0 (by exact sz43) (by decide) rfl) ?_); (try simp only [nA, Nat.reduceBEq, Nat.reduceEqDiff, ↓reduceIte, Nat.reduceAdd, Nat.reduceSub])
   refine awJ (op_store_nest (r := 0) (q := 1) rfl rfl rfl rfl rfl sz43 rfl (by decide) (by simp) (by simp) (es2 := [[.own 5 ((bs ++ eTr true).map bv)]]) rfl) ?_; (try simp only [nA, Nat.reduceBEq, Nat.reduceEqDiff, ↓reduceIte, Nat.reduceAdd, Nat.reduceSub])
   refine AWL.nil ?_
   exact RQ.of (.inr rfl) rfl .nil (by simp) rfl (one_out rfl)
  have hc1 := hc; obtain rfl : yes = false := hc1
  refine AW.skip ?_
  (refine hK _ ?_; clear hK K; (skip))
  refine AW.region ?_
  refine awP (op_move rfl rfl) ?_; (simp only [nA, ↓reduceIte])
  refine awP (op_move rfl rfl) ?_; (simp only [nA, ↓reduceIte])
  (refine awP (op_nil_slot rfl rfl rfl) ?_); (try simp only [nA, Nat.reduceBEq, Nat.reduceEqDiff, ↓reduceIte, Nat.reduceAdd, Nat.reduceSub])
  (refine awP (op_fa_ptr rfl rfl rfl fl77_0 (by exact sz43) (by decide) rfl) ?_); (try simp only [nA, Nat.reduceBEq, Nat.reduceEqDiff, ↓reduceIte, Nat.reduceAdd, Nat.reduceSub])
  refine awJ (op_load_nest (i := 0) (j := 0) rfl rfl rfl rfl ag43 rfl rfl) ?_; (simp only [nA, Nat.reduceBEq, Nat.reduceEqDiff, ↓reduceIte])
  refine awP (op_move rfl rfl) ?_; (simp only [nA, ↓reduceIte])
  (refine awJ (OpJ.frz (op_buildSlice rfl [(0, bv 0)] ((eTr false).map bv) Tryd.underlying43 ze5 rfl (by simp [eTr]) rfl (bv_len _) rfl (bl rfl) (by simp [eTr, maxLen])) (bv_flat _) rfl) ?_); (try simp only [nA, Nat.reduceBEq, Nat.reduceEqDiff, ↓reduceIte, Nat.reduceAdd, Nat.reduceSub])
  refine awJ (op_app (rows := (eTr false).map bv) rfl rfl rfl rfl (by simp) .ro Tryd.underlying43 ze5 (by decide) (bv_len _) (by simp [eTr]; omega) (by decide) (es' := (bs ++ eTr false).map bv) (by simp) (n := (bs ++ eTr false).length) (by simp)) ?_; (simp only [nA, Nat.reduceBEq, Nat.reduceEqDiff, ↓reduceIte])
  (refine awP (op_nil_slot rfl rfl rfl) ?_); (try simp only [nA, Nat.reduceBEq, Nat.reduceEqDiff, ↓reduceIte, Nat.reduceAdd, Nat.reduceSub])
  (refine awP (op_fa_ptr rfl rfl rfl fl77_0 (by exact sz43) (by decide) rfl) ?_); (try simp only [nA, Nat.reduceBEq, Nat.reduceEqDiff, ↓reduceIte, Nat.reduceAdd, Nat.reduceSub])
  refine awJ (op_store_nest (r := 0) (q := 1) rfl rfl rfl rfl rfl sz43 rfl (by decide) (by simp) (by simp) (es2 := [[.own 5 ((bs ++ eTr false).map bv)]]) rfl) ?_; (try simp only [nA, Nat.reduceBEq, Nat.reduceEqDiff, ↓reduceIte, Nat.reduceAdd, Nat.reduceSub])
  refine AWL.nil ?_
  exact RQ.of (.inr rfl) rfl .nil (by simp) rfl (one_out rfl)
theorem take_flat {bs : BL} {xs : List Int} {i : Nat} (h : i < xs.length) : (bs ++ (xs.take i).flatMap b4) ++ b4 (xs.getD i default) = bs ++ (xs.take (i + 1)).flatMap b4 := by
  rw [List.take_add_one, List.getElem?_eq_getElem h, getD_of h, List.flatMap_append, List.append_assoc]
  congr 2
theorem flat_b4 : ∀ (xs : List Int), (xs.flatMap b4).length = 4 * xs.length
  | [] => rfl
  | x :: xs => by rw [List.flatMap_cons, List.length_append, flat_b4 xs, b4_len, List.length_cons]; omega
set_option maxHeartbeats 8000000 in
theorem C89 {bs : BL} {xs : List Int} (hb : bs.length ≤ 900000) (hx : xs.length ≤ 1000) : Fn Tryd.prog 89 [wB bs] [.ptr 0 0 0 0, .ro (xs.map iv)] [] [wB (bs ++ xs.flatMap b4)] := by
  refine Spec.body Tryd.func89 rfl Tryd.ntmps89 (by simp) rfl ?_; intro S0 own0 v0 w0 gl
  (refine AW.seq_k ?_; intro K hK)
  refine AW.region ?_
  refine awP (op_move rfl rfl) ?_; (try simp only [nA, Nat.reduceBEq, Nat.reduceEqDiff, ↓reduceIte, Nat.reduceAdd, Nat.reduceSub])
  refine awP (op_len_ro (n := xs.length) rfl rfl Tryd.underlying36 (.inr (.inl ⟨_, rfl, by simp⟩))) ?_; (try simp only [nA, Nat.reduceBEq, Nat.reduceEqDiff, ↓reduceIte, Nat.reduceAdd, Nat.reduceSub])
  refine awP (op_move rfl rfl) ?_; (try simp only [nA, Nat.reduceBEq, Nat.reduceEqDiff, ↓reduceIte, Nat.reduceAdd, Nat.reduceSub])
  refine AWL.nil ?_
  (refine hK _ ?_; clear hK K; (try simp only [nA, Nat.reduceBEq, Nat.reduceEqDiff, ↓reduceIte, Nat.reduceAdd, Nat.reduceSub]))
  refine AW.block ?_
  refine AW.loopI (fun i => [(0, .ptr 0 0 0 0), (6, .ro (xs.map iv)), (7, .v (.int .i64 xs.length)), (8, .v (.int .i64 (i : Nat)))]) (fun i => ⟨[(0, wB (bs ++ (xs.take i).flatMap b4))], 1⟩) (fun i => i ≤ xs.length) (fun i => xs.length - i) 0 (by simp) ⟨rfl, rfl, rfl, rfl, trivial⟩ (by simp) ?_; intro i ρ hi; simp only [updL]; have hfl := flat_b4 (xs.take i); have htl : (xs.take i).length ≤ 1000 := (by rw [List.length_take]; omega)
  (refine AW.seq_k ?_; intro K hK)
  refine AW.region ?_
  refine awP (op_lss rfl rfl rfl) ?_; (try simp only [nA, Nat.reduceBEq, Nat.reduceEqDiff, ↓reduceIte, Nat.reduceAdd, Nat.reduceSub])
  refine AWL.nil ?_
  (refine hK _ ?_; clear hK K; (skip))
  (refine AW.seq_k ?_; intro K hK)
  refine AW.cond rfl rfl rfl (fun hc => ?_) (fun hc => ?_)
  ·
   have hc1 := hc; have hlt : i < xs.length := (by simpa using hc1)
   refine AW.skip ?_
   (refine hK _ ?_; clear hK K; (skip))
   (refine AW.seq_k ?_; intro K hK)
   refine AW.block ?_
   (refine AW.seq_k ?_; intro K hK)
   refine AW.region ?_
   refine awP (op_ia_ro i rfl (.inl rfl) rfl Tryd.underlying36 rfl (get_mapD (by omega)) (by exact sz3) (bl rfl)) ?_; (try simp only [nA, Nat.reduceBEq, Nat.reduceEqDiff, ↓reduceIte, Nat.reduceAdd, Nat.reduceSub])
   (refine awR (op_load_rop1 rfl rfl ag3) ?_); (try simp only [nA, Nat.reduceBEq, Nat.reduceEqDiff, ↓reduceIte, Nat.reduceAdd, Nat.reduceSub])
   refine awP (op_assign rfl rfl) ?_; (simp only [nA])
   refine AWL.nil ?_
   (refine hK _ ?_; clear hK K; (skip))
   refine AW.region ?_
   refine awP (op_move rfl rfl) ?_; (simp only [nA, ↓reduceIte])
   refine awP (op_move rfl rfl) ?_; (simp only [nA, ↓reduceIte])
   refine awJ (op_call1 rfl en51 (C51 (bs := bs ++ (xs.take i).flatMap b4) (n := xs.getD i default) (by rw [List.length_append]; omega)) (by exact rfl) (RL.cons .ptr (RL.cons (.base (by exact View.same rfl)) (RL.nil))) (by exact ⟨_, _, _, rfl, rfl, rfl⟩) (by exact rfl) (by exact rfl) (by exact rfl)) ?_; (try simp only [nA, Nat.reduceBEq, Nat.reduceEqDiff, ↓reduceIte, Nat.reduceAdd, Nat.reduceSub])
   refine AWL.nil ?_
   (try simp only [thenE, inBlk, Nat.reduceEqDiff, ↓reduceIte])
   (refine hK _ ?_; clear hK K; (skip))
   refine AW.region ?_
   (refine awP (op_addi rfl rfl rfl (by omega)) ?_); (try simp only [nA, Nat.reduceBEq, Nat.reduceEqDiff, ↓reduceIte, Nat.reduceAdd, Nat.reduceSub])
   refine awP (op_move rfl rfl) ?_; (simp only [nA])
   skip
   refine AWL.nil ?_
   refine ⟨i + 1, by omega, by omega, ⟨rfl, rfl, rfl, rfl, trivial⟩, congrArg (fun z => (⟨[(0, wB z)], 1⟩ : Sl)) (take_flat hlt), (by rfl)⟩
  have hc1 := hc; have hnl : ¬ i < xs.length := (by simpa using hc1); rw [show xs.take i = xs from List.take_of_length_le (by omega)]
  refine AW.exit ?_; (try simp only [thenE, inBlk, Nat.reduceEqDiff, ↓reduceIte])
  clear hK K
  show RQ _ _ _ _ _ _; exact RQ.of (.inr rfl) rfl .nil (by simp) rfl (one_out rfl)
end Go.Proofs.YtfmnaigedgmhoaaDoor
