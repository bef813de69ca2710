import Derived.Test.YtfmnaigedgmhoaaDoorXgd
namespace Go.Proofs.YtfmnaigedgmhoaaDoor
open Go.RowKit
set_option linter.unusedSimpArgs false
set_option linter.unusedVariables false
set_option maxRecDepth 100000
structure Ev.Sm (x : Ev) : Prop where
  r : x.reports.length ≤ 1000000
  o : x.ops.length ≤ 1000000
  t : x.text.size ≤ 1000000
  rr : ∀ r ∈ x.reports, r.read.size ≤ 1000000
def chB (c : UInt8) : Bool := decide (c = 63) || dgB c
theorem chB_eq (c : UInt8) : (!decide ((c.toNat : Int) = 63) && (decide ((c.toNat : Int) < 48) || decide ((c.toNat : Int) > 57))) = !chB c := by
  have e : decide (c = 63) = decide ((c.toNat : Int) = 63) := decide_eq_decide.2 ⟨fun h => by subst h; rfl, fun h => UInt8.toNat_inj.1 (by show c.toNat = 63; omega)⟩
  unfold chB dgB
  rw [e]
  by_cases h1 : (c.toNat : Int) = 63
  · simp [h1]
  by_cases h2 : (c.toNat : Int) < 48
  · simp [h1, h2]
  by_cases h3 : (c.toNat : Int) > 57
  · simp [h1, h2, h3]
  simp [h1, h2, h3]; omega
theorem rdB_no {s : ByteArray} (h : s.data.toList.all chB = false) : rdB s = false := by
  unfold rdB
  rw [show (s.data.toList.all fun c => decide (c = 63) || dgB c) = false from h]
  rfl
theorem rdB_yes {s : ByteArray} (h : s.data.toList.all chB = true) : rdB s = (decide ((s.size : Int) = 0) || decide ((s.size : Int) = 10)) := by
  unfold rdB
  rw [show (s.data.toList.all fun c => decide (c = 63) || dgB c) = true from h, Bool.true_and]
  congr 1 <;> exact decide_eq_decide.2 (by omega)
set_option maxHeartbeats 8000000 in
theorem C63 {s : ByteArray} (hs : s.size ≤ 1000000) : Fn Tryd.prog 63 [] [.v (.string s)] [.v (.bool (rdB s))] [] := by
  refine Spec.body Tryd.func63 rfl Tryd.ntmps63 (by simp) rfl ?_; intro S0 own0 v0 w0 gl
  (refine AW.seq_k ?_; intro K hK)
  refine AW.region ?_
  refine awP (op_assign rfl rfl) ?_
  refine AWL.nil ?_
  (refine hK _ ?_; clear hK K; (try simp only [nA, Nat.reduceBEq, Nat.reduceEqDiff, ↓reduceIte, Nat.reduceAdd, Nat.reduceSub]))
  (refine AW.seq_k ?_; intro K hK)
  (refine AW.seq_k ?_; intro K hK)
  refine AW.region ?_
  refine awP (op_move rfl rfl) ?_
  (refine awP (op_len_str rfl rfl Tryd.underlying9) ?_)
  refine awP (op_move rfl rfl) ?_
  refine AWL.nil ?_
  (refine hK _ ?_; clear hK K; (simp only [nA, ↓reduceIte]))
  refine AW.block ?_
  refine AW.loopI (fun i => [(0, .v (.string s)), (5, .v (.int .i64 s.size)), (6, .v (.int .i64 (i : Nat)))]) (fun _ => ⟨[], 1⟩) (fun i => i ≤ s.size ∧ (s.data.toList.take i).all chB = true) (fun i => s.size - i) 0 (by simp) ⟨rfl, rfl, rfl, trivial⟩ rfl ?_; intro i ρ hi; simp only [updL]
  (refine AW.seq_k ?_; intro K hK)
  refine AW.region ?_
  refine awP (op_lss rfl rfl rfl) ?_
  refine AWL.nil ?_
  (refine hK _ ?_; clear hK K; (try simp only [nA, Nat.reduceBEq, Nat.reduceEqDiff, ↓reduceIte, Nat.reduceAdd, Nat.reduceSub]))
  (refine AW.seq_k ?_; intro K hK)
  refine AW.cond rfl rfl rfl (fun hc => ?_) (fun hc => ?_)
  ·
   have hc1 := hc; have hlt : i < s.size := (by simpa using hc1)
   refine AW.skip ?_
   (refine hK _ ?_; clear hK K; (skip))
   (refine AW.seq_k ?_; intro K hK)
   refine AW.block ?_
   (refine AW.seq_k ?_; intro K hK)
   refine AW.region ?_
   refine awP (op_move rfl rfl) ?_
   refine awP (op_assign rfl rfl) ?_
   refine AWL.nil ?_
   (refine hK _ ?_; clear hK K; (simp only [nA, ↓reduceIte]))
   (refine AW.seq_k ?_; intro K hK)
   refine AW.region (AWL.quiet ?_)
   refine aqP (op_move rfl rfl) ?_
   refine aqP (op_move rfl rfl) ?_
   refine aqP (op_ix_str _ rfl rfl rfl Tryd.underlying9 rfl (get_chr (i := i) (by omega))) ?_
   (refine aqP (op_neq rfl rfl rfl) ?_)
   refine aqP (op_move rfl rfl) ?_
   refine' aqAndN' [_, _, _, _, _, _, _, _, _, _] [14,15,16,17,18,19,20,21,22,23] rfl rfl rfl rfl rfl rfl rfl rfl rfl rfl rfl rfl (fun hb => ?_) ?_; rotate_left
   ·
    (try simp only [hcS] at hb)
    refine aqP (op_move rfl rfl) ?_
    refine aqP (op_move rfl rfl) ?_
    refine aqP (op_ix_str _ rfl rfl rfl Tryd.underlying9 rfl (get_chr (i := i) (by omega))) ?_
    refine aqP (op_lss rfl rfl rfl) ?_
    refine aqP (op_move rfl rfl) ?_
    refine' aqOr' [_, _, _, _] [19,20,21,22] rfl rfl rfl rfl rfl rfl rfl rfl rfl rfl rfl rfl (fun hb => ?_) ?_; rotate_left
    ·
     (try simp only [hcS] at hb)
     refine aqP (op_move rfl rfl) ?_
     refine aqP (op_move rfl rfl) ?_
     refine aqP (op_ix_str _ rfl rfl rfl Tryd.underlying9 rfl (get_chr (i := i) (by omega))) ?_
     refine aqP (op_gtr rfl rfl rfl) ?_
     (refine aqSeg rfl rfl rfl ?_; repeat (first | exact fun _ _ => rfl | refine upd_out rfl ?_))
    simp only [nA, ↓reduceIte]
    (refine aqSeg rfl rfl rfl ?_; repeat (first | exact fun _ _ => rfl | refine upd_out rfl ?_ | refine era_out rfl ?_))
   simp only [nA, ↓reduceIte]
   refine AQ.nil ?_
   (refine hK _ ?_; clear hK K; (skip))
   refine AW.cond rfl rfl rfl (fun hc => ?_) (fun hc => ?_)
   ·
    have hc2 := hc; rw [chB_eq] at hc2
    (refine AW.seq_k ?_; intro K hK)
    refine AW.region ?_
    refine awP (op_assign rfl rfl) ?_
    refine AWL.nil ?_
    (refine hK _ ?_; clear hK K; (try simp only [nA, Nat.reduceBEq, Nat.reduceEqDiff, ↓reduceIte, Nat.reduceAdd, Nat.reduceSub]))
    skip
    refine AW.ret ?_; (try simp only [thenE, inBlk, Nat.reduceEqDiff, ↓reduceIte]); rw [rdB_no (all_no hlt (by simpa using hc2))]; exact RQ.of0 rfl (.tmp (bl rfl) rfl rfl .nil)
   have hc2 := hc; rw [chB_eq] at hc2
   refine AW.skip ?_
   (try simp only [thenE, inBlk, Nat.reduceEqDiff, ↓reduceIte])
   (refine hK _ ?_; clear hK K; (skip))
   refine AW.region ?_
   (refine awP (op_addi rfl rfl rfl (by omega)) ?_)
   refine awP (op_move rfl rfl) ?_
   skip
   refine AWL.nil ?_
   refine ⟨i + 1, ⟨by omega, by rw [take_all hlt, hi.2]; simpa using hc2⟩, by omega, ⟨rfl, rfl, rfl, trivial⟩, rfl, rfl⟩
  have hc1 := hc; have hnl : ¬ i < s.size := (by simpa using hc1)
  refine AW.exit ?_; (try simp only [thenE, inBlk, Nat.reduceEqDiff, ↓reduceIte])
  clear hK K
  (refine hK _ ?_; clear hK K; (skip))
  (refine AW.seq_k ?_; intro K hK)
  refine AW.region (AWL.quiet ?_)
  refine aqP (op_move rfl rfl) ?_
  (refine aqP (op_len_str rfl rfl Tryd.underlying9) ?_)
  (refine aqP (op_eql rfl rfl rfl) ?_)
  refine aqP (op_move rfl rfl) ?_
  refine' aqOr' [_, _, _] [30,31,32] rfl rfl rfl rfl rfl rfl rfl rfl rfl rfl rfl rfl (fun hb => ?_) ?_; rotate_left
  ·
   (try simp only [hcS] at hb)
   refine aqP (op_move rfl rfl) ?_
   (refine aqP (op_len_str rfl rfl Tryd.underlying9) ?_)
   (refine aqP (op_eql rfl rfl rfl) ?_)
   (refine aqSeg rfl rfl rfl ?_; repeat (first | exact fun _ _ => rfl | refine upd_out rfl ?_))
  simp only [nA, ↓reduceIte]
  refine aqP (op_assign rfl rfl) ?_
  refine AQ.nil ?_
  (refine hK _ ?_; clear hK K; (simp only [nA]))
  skip
  refine AW.ret ?_; (try simp only [thenE, inBlk, Nat.reduceEqDiff, ↓reduceIte]); rw [rdB_yes (by rw [← all_take hnl]; exact hi.2)]; exact RQ.of0 rfl (.tmp (bl rfl) rfl rfl .nil)
def p62 (r : Report) : Bool := !inB r.device 0 23 || !rdB r.read
def p67 (x : Ev) (o : Op) : Bool := !opB o || !decide (o.device = x.device)
set_option maxHeartbeats 8000000 in
theorem C62 {r : Report} (hr : r.read.size ≤ 1000000) : Fn Tryd.prog 62 [] [.agg r.av] [.v (.bool (p62 r))] [] := by
  refine Spec.body Tryd.func62 rfl Tryd.ntmps62 (by simp) rfl ?_; intro S0 own0 v0 w0 gl
  (refine AW.seq_k ?_; intro K hK)
  refine AW.region ?_
  refine awJ (op_box rfl rfl rfl sz66 rfl) ?_; (simp only [nA, Nat.reduceBEq, Nat.reduceEqDiff, ↓reduceIte])
  refine awP (op_assign rfl rfl) ?_
  refine AWL.nil ?_
  (refine hK _ ?_; clear hK K; (try simp only [nA, Nat.reduceBEq, Nat.reduceEqDiff, ↓reduceIte, Nat.reduceAdd, Nat.reduceSub]))
  (refine AW.seq_k ?_; intro K hK)
  refine AW.region (AWL.quiet ?_)
  (refine aqP (op_fa_ptr rfl rfl rfl fl66_0 (by exact sz3) (by decide) rfl) ?_)
  (refine aqR (op_load_ptr1 rfl rfl rfl rfl ag3 rfl rfl) ?_)
  refine aqQ (op_callQ (b := true) rfl en37 (C37 (n := r.device) (lo := 0) (hi := 23)) (RL.cons (by exact View.same rfl) (RL.cons (by exact View.same rfl) (RL.cons (by exact View.same rfl) (RL.nil)))) rfl) ?_; (try simp only [nA, Nat.reduceBEq, Nat.reduceEqDiff, ↓reduceIte, Nat.reduceAdd, Nat.reduceSub])
  refine aqP (op_not rfl rfl rfl) ?_
  refine aqP (op_move rfl rfl) ?_
  refine' aqOr' [_, _, _, _] [8,9,10,11] rfl rfl rfl rfl rfl rfl rfl rfl rfl rfl rfl rfl (fun hb => ?_) ?_; rotate_left
  ·
   (try simp only [hcS] at hb)
   (refine aqP (op_fa_ptr rfl rfl rfl fl66_2 (by exact sz9) (by decide) rfl) ?_)
   (refine aqR (op_load_ptr1 rfl rfl rfl rfl ag9 rfl rfl) ?_)
   refine aqQ (op_callQ (b := true) rfl en63 (C63 (s := r.read) hr) (RL.cons (by exact View.same rfl) (RL.nil)) rfl) ?_; (simp only [nA])
   refine aqP (op_not rfl rfl rfl) ?_
   (refine aqSeg rfl rfl rfl ?_; repeat (first | exact fun _ _ => rfl | refine upd_out rfl ?_))
  simp only [nA]
  refine aqP (op_assign rfl rfl) ?_
  refine AQ.nil ?_
  (refine hK _ ?_; clear hK K; (simp only [nA]))
  skip
  refine AW.ret ?_; (try simp only [thenE, inBlk, Nat.reduceEqDiff, ↓reduceIte]); exact RQ.of0 rfl (.tmp (bl rfl) rfl rfl .nil)
set_option maxHeartbeats 8000000 in
theorem C67 {x : Ev} {o : Op} : Fn Tryd.prog 67 [] [.agg o.av, .rop x.av] [.v (.bool (p67 x o))] [] := by
  refine Spec.body Tryd.func67 rfl Tryd.ntmps67 (by simp) rfl ?_; intro S0 own0 v0 w0 gl
  (refine AW.seq_k ?_; intro K hK)
  refine AW.region ?_
  refine awJ (op_box rfl rfl rfl sz32 rfl) ?_; (simp only [nA, Nat.reduceBEq, Nat.reduceEqDiff, ↓reduceIte])
  refine awP (op_assign rfl rfl) ?_
  refine AWL.nil ?_
  (refine hK _ ?_; clear hK K; (try simp only [nA, Nat.reduceBEq, Nat.reduceEqDiff, ↓reduceIte, Nat.reduceAdd, Nat.reduceSub]))
  (refine AW.seq_k ?_; intro K hK)
  refine AW.region (AWL.quiet ?_)
  (refine aqR (op_load_ptr rfl rfl rfl rfl ag32 sz32 (bl rfl) rfl) ?_)
  refine aqQ (op_callQ (b := true) rfl en65 (C65 (o := o)) (RL.cons (by exact View.same rfl) (RL.nil)) rfl) ?_; (try simp only [nA, Nat.reduceBEq, Nat.reduceEqDiff, ↓reduceIte, Nat.reduceAdd, Nat.reduceSub])
  refine aqP (op_not rfl rfl rfl) ?_
  refine aqP (op_move rfl rfl) ?_
  refine' aqOr' [_, _, _, _, _] [8,9,10,11,12] rfl rfl rfl rfl rfl rfl rfl rfl rfl rfl rfl rfl (fun hb => ?_) ?_; rotate_left
  ·
   (try simp only [hcS] at hb)
   (refine aqP (op_fa_ptr rfl rfl rfl fl32_1 (by exact sz3) (by decide) rfl) ?_)
   (refine aqR (op_load_ptr1 rfl rfl rfl rfl ag3 rfl rfl) ?_)
   (refine aqP (op_fa_rop rfl rfl fl35_9 (by exact sz3) (by decide) (bl rfl) rfl) ?_)
   (refine aqR (op_load_rop1 rfl rfl ag3) ?_)
   (refine aqP (op_neq rfl rfl rfl) ?_)
   (refine aqSeg rfl rfl rfl ?_; repeat (first | exact fun _ _ => rfl | refine upd_out rfl ?_))
  simp only [nA]
  refine aqP (op_assign rfl rfl) ?_
  refine AQ.nil ?_
  (refine hK _ ?_; clear hK K; (simp only [nA]))
  skip
  refine AW.ret ?_; (try simp only [thenE, inBlk, Nat.reduceEqDiff, ↓reduceIte]); exact RQ.of0 rfl (.tmp (bl rfl) rfl rfl .nil)
set_option maxHeartbeats 8000000 in
theorem C90 {l : List Report} (h1 : l.length ≤ 1000000) (hr : ∀ r ∈ l, r.read.size ≤ 1000000) : Fn Tryd.prog 90 [] [.ro (l.map Report.av), .v (.func (.func 62) #[] #[])] [.v (.int .i64 (idxI p62 l))] [] := by
  refine Spec.body Tryd.func90 rfl Tryd.ntmps90 (by simp) rfl ?_; intro S0 own0 v0 w0 gl
  (refine AW.seq_k ?_; intro K hK)
  refine AW.region ?_
  refine awP (op_assign rfl rfl) ?_
  refine AWL.nil ?_
  (refine hK _ ?_; clear hK K; (try simp only [nA, Nat.reduceBEq, Nat.reduceEqDiff, ↓reduceIte, Nat.reduceAdd, Nat.reduceSub]))
  (refine AW.seq_k ?_; intro K hK)
  (refine AW.seq_k ?_; intro K hK)
  refine AW.region ?_
  refine awP (op_move rfl rfl) ?_
  refine awP (op_len_ro (n := l.length) rfl rfl Tryd.underlying24 (.inr (.inl ⟨_, rfl, by simp⟩))) ?_
  refine awP (op_move rfl rfl) ?_
  refine AWL.nil ?_
  (refine hK _ ?_; clear hK K; (simp only [nA, ↓reduceIte]))
  refine AW.block ?_
  refine AW.loopI (fun i => [(0, .ro (l.map Report.av)), (1, .v (.func (.func 62) #[] #[])), (7, .v (.int .i64 l.length)), (8, .v (.int .i64 (i : Nat)))]) (fun i => ⟨[], 1⟩) (fun i => i ≤ l.length ∧ ∀ k, k < i → p62 (l.getD k default) = false) (fun i => l.length - i) 0 (by simp) ⟨rfl, rfl, rfl, rfl, trivial⟩ rfl ?_; intro i ρ hi; simp only [updL]
  (refine AW.seq_k ?_; intro K hK)
  refine AW.region ?_
  refine awP (op_lss rfl rfl rfl) ?_
  refine AWL.nil ?_
  (refine hK _ ?_; clear hK K; (try simp only [nA, Nat.reduceBEq, Nat.reduceEqDiff, ↓reduceIte, Nat.reduceAdd, Nat.reduceSub]))
  (refine AW.seq_k ?_; intro K hK)
  refine AW.cond rfl rfl rfl (fun hc => ?_) (fun hc => ?_)
  ·
   have hc1 := hc; have hlt : i < l.length := (by simpa using hc1)
   refine AW.skip ?_
   (refine hK _ ?_; clear hK K; (skip))
   (refine AW.seq_k ?_; intro K hK)
   refine AW.block ?_
   (refine AW.seq_k ?_; intro K hK)
   refine AW.region ?_
   refine awP (op_move rfl rfl) ?_
   refine awP (op_assign rfl rfl) ?_
   refine AWL.nil ?_
   (refine hK _ ?_; clear hK K; (simp only [nA, ↓reduceIte]))
   (refine AW.seq_k ?_; intro K hK)
   refine AW.region ?_
   refine awP (op_move rfl rfl) ?_
   refine awP (op_move rfl rfl) ?_
   refine awP (op_move rfl rfl) ?_
   refine awP (op_ia_ro i rfl (.inl rfl) rfl Tryd.underlying24 rfl (get_mapD (by omega)) (by exact sz66) (bl rfl)) ?_
   (refine awR (op_load_rop rfl rfl ag66 sz66 (bl rfl) (by decide) rfl) ?_)
   refine awJ (OpQ.j (op_valQ (b := true) rfl rfl en62 (C62 (r := l.getD i default) (hr _ (by rw [getD_of hlt]; exact List.getElem_mem hlt))) (RL.cons (by exact View.same rfl) (RL.nil)) rfl)) ?_; (simp only [nA, ↓reduceIte])
   refine AWL.nil ?_
   (refine hK _ ?_; clear hK K; (skip))
   refine AW.cond rfl rfl rfl (fun hc => ?_) (fun hc => ?_)
   ·
    have hc2 := hc
    (refine AW.seq_k ?_; intro K hK)
    refine AW.region ?_
    refine awP (op_move rfl rfl) ?_
    refine awP (op_assign rfl rfl) ?_
    refine AWL.nil ?_
    (refine hK _ ?_; clear hK K; (simp only [nA, ↓reduceIte]))
    skip
    refine AW.ret ?_; (try simp only [thenE, inBlk, Nat.reduceEqDiff, ↓reduceIte]); rw [idx_yes hlt hi.2 hc2]; exact RQ.of0 rfl (.tmp (bl rfl) rfl rfl .nil)
   have hc2 := hc
   refine AW.skip ?_
   (try simp only [thenE, inBlk, Nat.reduceEqDiff, ↓reduceIte])
   (refine hK _ ?_; clear hK K; (skip))
   refine AW.region ?_
   (refine awP (op_addi rfl rfl rfl (by omega)) ?_)
   refine awP (op_move rfl rfl) ?_
   skip
   refine AWL.nil ?_
   refine ⟨i + 1, ⟨by omega, all_f_step hi.2 hc2⟩, by omega, ⟨rfl, rfl, rfl, rfl, trivial⟩, (by rfl), (by rfl)⟩
  have hc1 := hc; have hnl : ¬ i < l.length := (by simpa using hc1)
  refine AW.exit ?_; (try simp only [thenE, inBlk, Nat.reduceEqDiff, ↓reduceIte])
  clear hK K
  (refine hK _ ?_; clear hK K; (skip))
  (refine AW.seq_k ?_; intro K hK)
  refine AW.region ?_
  refine awP (op_assign rfl rfl) ?_
  refine AWL.nil ?_
  (refine hK _ ?_; clear hK K; (try simp only [nA, Nat.reduceBEq, Nat.reduceEqDiff, ↓reduceIte, Nat.reduceAdd, Nat.reduceSub]))
  skip
  refine AW.ret ?_; (try simp only [thenE, inBlk, Nat.reduceEqDiff, ↓reduceIte]); rw [idx_no hnl hi.2]; exact RQ.of0 rfl (.tmp (bl rfl) rfl rfl .nil)
set_option maxHeartbeats 8000000 in
theorem C95 {x : Ev} {l : List Op} (h1 : l.length ≤ 1000000) : Fn Tryd.prog 95 [] [.ro (l.map Op.av), .clo 67 [.rop x.av]] [.v (.int .i64 (idxI (p67 x) l))] [] := by
  refine Spec.body Tryd.func95 rfl Tryd.ntmps95 (by simp) rfl ?_; intro S0 own0 v0 w0 gl
  (refine AW.seq_k ?_; intro K hK)
  refine AW.region ?_
  refine awP (op_assign rfl rfl) ?_
  refine AWL.nil ?_
  (refine hK _ ?_; clear hK K; (try simp only [nA, Nat.reduceBEq, Nat.reduceEqDiff, ↓reduceIte, Nat.reduceAdd, Nat.reduceSub]))
  (refine AW.seq_k ?_; intro K hK)
  (refine AW.seq_k ?_; intro K hK)
  refine AW.region ?_
  refine awP (op_move rfl rfl) ?_
  refine awP (op_len_ro (n := l.length) rfl rfl Tryd.underlying33 (.inr (.inl ⟨_, rfl, by simp⟩))) ?_
  refine awP (op_move rfl rfl) ?_
  refine AWL.nil ?_
  (refine hK _ ?_; clear hK K; (simp only [nA, ↓reduceIte]))
  refine AW.block ?_
  refine AW.loopI (fun i => [(0, .ro (l.map Op.av)), (1, .clo 67 [.rop x.av]), (7, .v (.int .i64 l.length)), (8, .v (.int .i64 (i : Nat)))]) (fun i => ⟨[], 1⟩) (fun i => i ≤ l.length ∧ ∀ k, k < i → p67 x (l.getD k default) = false) (fun i => l.length - i) 0 (by simp) ⟨rfl, rfl, rfl, rfl, trivial⟩ rfl ?_; intro i ρ hi; simp only [updL]
  (refine AW.seq_k ?_; intro K hK)
  refine AW.region ?_
  refine awP (op_lss rfl rfl rfl) ?_
  refine AWL.nil ?_
  (refine hK _ ?_; clear hK K; (try simp only [nA, Nat.reduceBEq, Nat.reduceEqDiff, ↓reduceIte, Nat.reduceAdd, Nat.reduceSub]))
  (refine AW.seq_k ?_; intro K hK)
  refine AW.cond rfl rfl rfl (fun hc => ?_) (fun hc => ?_)
  ·
   have hc1 := hc; have hlt : i < l.length := (by simpa using hc1)
   refine AW.skip ?_
   (refine hK _ ?_; clear hK K; (skip))
   (refine AW.seq_k ?_; intro K hK)
   refine AW.block ?_
   (refine AW.seq_k ?_; intro K hK)
   refine AW.region ?_
   refine awP (op_move rfl rfl) ?_
   refine awP (op_assign rfl rfl) ?_
   refine AWL.nil ?_
   (refine hK _ ?_; clear hK K; (simp only [nA, ↓reduceIte]))
   (refine AW.seq_k ?_; intro K hK)
   refine AW.region ?_
   refine awP (op_move rfl rfl) ?_
   refine awP (op_move rfl rfl) ?_
   refine awP (op_move rfl rfl) ?_
   refine awP (op_ia_ro i rfl (.inl rfl) rfl Tryd.underlying33 rfl (get_mapD (by omega)) (by exact sz32) (bl rfl)) ?_
   (refine awR (op_load_rop rfl rfl ag32 sz32 (bl rfl) (by decide) rfl) ?_)
   refine awJ (OpQ.j (op_cloQ (b := true) rfl rfl en67 (C67 (x := x) (o := l.getD i default)) (RL.cons (by exact View.same rfl) (RL.nil)) rfl)) ?_; (simp only [nA, ↓reduceIte])
   refine AWL.nil ?_
   (refine hK _ ?_; clear hK K; (skip))
   refine AW.cond rfl rfl rfl (fun hc => ?_) (fun hc => ?_)
   ·
    have hc2 := hc
    (refine AW.seq_k ?_; intro K hK)
    refine AW.region ?_
    refine awP (op_move rfl rfl) ?_
    refine awP (op_assign rfl rfl) ?_
    refine AWL.nil ?_
    (refine hK _ ?_; clear hK K; (simp only [nA, ↓reduceIte]))
    skip
    refine AW.ret ?_; (try simp only [thenE, inBlk, Nat.reduceEqDiff, ↓reduceIte]); rw [idx_yes (p := p67 x) hlt hi.2 hc2]; exact RQ.of0 rfl (.tmp (bl rfl) rfl rfl .nil)
   have hc2 := hc
   refine AW.skip ?_
   (try simp only [thenE, inBlk, Nat.reduceEqDiff, ↓reduceIte])
   (refine hK _ ?_; clear hK K; (skip))
   refine AW.region ?_
   (refine awP (op_addi rfl rfl rfl (by omega)) ?_)
   refine awP (op_move rfl rfl) ?_
   skip
   refine AWL.nil ?_
   refine ⟨i + 1, ⟨by omega, all_f_step (f := fun k => p67 x (l.getD k default)) hi.2 hc2⟩, by omega, ⟨rfl, rfl, rfl, rfl, trivial⟩, (by rfl), (by rfl)⟩
  have hc1 := hc; have hnl : ¬ i < l.length := (by simpa using hc1)
  refine AW.exit ?_; (try simp only [thenE, inBlk, Nat.reduceEqDiff, ↓reduceIte])
  clear hK K
  (refine hK _ ?_; clear hK K; (skip))
  (refine AW.seq_k ?_; intro K hK)
  refine AW.region ?_
  refine awP (op_assign rfl rfl) ?_
  refine AWL.nil ?_
  (refine hK _ ?_; clear hK K; (try simp only [nA, Nat.reduceBEq, Nat.reduceEqDiff, ↓reduceIte, Nat.reduceAdd, Nat.reduceSub]))
  skip
  refine AW.ret ?_; (try simp only [thenE, inBlk, Nat.reduceEqDiff, ↓reduceIte]); rw [idx_no (p := p67 x) hnl hi.2]; exact RQ.of0 rfl (.tmp (bl rfl) rfl rfl .nil)
theorem idx_any {α : Type} {p : α → Bool} {l : List α} : decide (idxI p l ≥ 0) = l.any p := by
  unfold idxI
  rw [Bool.eq_iff_iff, decide_eq_true_eq, List.any_eq_true]
  by_cases h : l.findIdx p < l.length
  · rw [if_pos h]
    exact ⟨fun _ => ⟨_, List.getElem_mem h, List.findIdx_getElem (w := h)⟩, fun _ => by omega⟩
  rw [if_neg h]
  refine ⟨fun h => by omega, fun ⟨x, hx, hp⟩ => ?_⟩
  exact absurd (List.findIdx_lt_length_of_exists ⟨x, hx, hp⟩) h
set_option maxHeartbeats 8000000 in
theorem C61 {l : List Report} (h1 : l.length ≤ 1000000) (hr : ∀ r ∈ l, r.read.size ≤ 1000000) : Fn Tryd.prog 61 [] [.ro (l.map Report.av), .v (.func (.func 62) #[] #[])] [.v (.bool (l.any p62))] [] := by
  refine Spec.body Tryd.func61 rfl Tryd.ntmps61 (by simp) rfl ?_; intro S0 own0 v0 w0 gl
  (refine AW.seq_k ?_; intro K hK)
  refine AW.region ?_
  refine awP (op_assign rfl rfl) ?_
  refine AWL.nil ?_
  (refine hK _ ?_; clear hK K; (try simp only [nA, Nat.reduceBEq, Nat.reduceEqDiff, ↓reduceIte, Nat.reduceAdd, Nat.reduceSub]))
  (refine AW.seq_k ?_; intro K hK)
  refine AW.region ?_
  refine awP (op_move rfl rfl) ?_
  refine awP (op_move rfl rfl) ?_
  refine awJ (OpQ.j (op_callQ (b := true) rfl en90 (C90 (l := l) h1 hr) (RL.cons (by exact View.same rfl) (RL.cons (by exact View.same rfl) (RL.nil))) rfl)) ?_; (simp only [nA, ↓reduceIte])
  refine awP (op_geq rfl rfl rfl) ?_
  refine awP (op_assign rfl rfl) ?_
  refine AWL.nil ?_
  (refine hK _ ?_; clear hK K; (simp only [nA]))
  skip
  refine AW.ret ?_; (try simp only [thenE, inBlk, Nat.reduceEqDiff, ↓reduceIte]); rw [← idx_any]; exact RQ.of0 rfl (.tmp (bl rfl) rfl rfl .nil)
set_option maxHeartbeats 8000000 in
theorem C66 {x : Ev} {l : List Op} (h1 : l.length ≤ 1000000) : Fn Tryd.prog 66 [] [.ro (l.map Op.av), .clo 67 [.rop x.av]] [.v (.bool (l.any (p67 x)))] [] := by
  refine Spec.body Tryd.func66 rfl Tryd.ntmps66 (by simp) rfl ?_; intro S0 own0 v0 w0 gl
  (refine AW.seq_k ?_; intro K hK)
  refine AW.region ?_
  refine awP (op_assign rfl rfl) ?_
  refine AWL.nil ?_
  (refine hK _ ?_; clear hK K; (try simp only [nA, Nat.reduceBEq, Nat.reduceEqDiff, ↓reduceIte, Nat.reduceAdd, Nat.reduceSub]))
  (refine AW.seq_k ?_; intro K hK)
  refine AW.region ?_
  refine awP (op_move rfl rfl) ?_
  refine awP (op_move rfl rfl) ?_
  refine awJ (OpQ.j (op_callQ (b := true) rfl en95 (C95 (x := x) (l := l) h1) (RL.cons (by exact View.same rfl) (RL.cons (by exact View.same rfl) (RL.nil))) rfl)) ?_; (simp only [nA, ↓reduceIte])
  refine awP (op_geq rfl rfl rfl) ?_
  refine awP (op_assign rfl rfl) ?_
  refine AWL.nil ?_
  (refine hK _ ?_; clear hK K; (simp only [nA]))
  skip
  refine AW.ret ?_; (try simp only [thenE, inBlk, Nat.reduceEqDiff, ↓reduceIte]); rw [← idx_any]; exact RQ.of0 rfl (.tmp (bl rfl) rfl rfl .nil)
theorem not_any {α : Type} {p q : α → Bool} (h : ∀ x, p x = !q x) (l : List α) : (!l.any p) = l.all q := by
  rw [show p = fun x => !q x from funext h]
  induction l with
  | nil => rfl
  | cons x l ih => rw [List.any_cons, List.all_cons, Bool.not_or, ih, Bool.not_not]
theorem evav_flat (x : Ev) : ∀ c ∈ x.av, flatA c = true := List.all_eq_true.1 rfl
theorem prB_rest {x : Ev} {p : Nat} (h : p = 1 ∨ p = 5 ∨ 12 ≤ p) : prB x p = true := by
  rcases h with rfl | rfl | h
  · rfl
  · rfl
  obtain ⟨n, rfl⟩ : ∃ n, p = n + 12 := ⟨p - 12, by omega⟩
  rfl
set_option maxHeartbeats 8000000 in
theorem C39 {x : Ev} {p : Nat} (hx : x.Sm) : Fn Tryd.prog 39 [] [.agg x.av, .v (.int .i64 (p : Nat))] [.v (.bool (prB x p))] [] := by
  refine Spec.body Tryd.func39 rfl Tryd.ntmps39 (by simp) rfl ?_; intro S0 own0 v0 w0 gl
  (refine AW.seq_k ?_; intro K hK)
  refine AW.region ?_
  refine awJ (op_box rfl rfl rfl sz35 rfl) ?_; (simp only [nA, Nat.reduceBEq, Nat.reduceEqDiff, ↓reduceIte])
  refine awP (op_assign rfl rfl) ?_
  refine AWL.nil ?_
  (refine hK _ ?_; clear hK K; (try simp only [nA, Nat.reduceBEq, Nat.reduceEqDiff, ↓reduceIte, Nat.reduceAdd, Nat.reduceSub]))
  (refine AW.seq_k ?_; intro K hK)
  (refine AW.seq_k ?_; intro K hK)
  refine AW.region ?_
  refine awP (op_move rfl rfl) ?_
  refine AWL.nil ?_
  (refine hK _ ?_; clear hK K; (simp only [nA, ↓reduceIte]))
  refine AW.block ?_
  (refine AW.seq_k ?_; intro K hK)
  refine AW.region ?_
  (refine awP (op_eql rfl rfl rfl) ?_)
  refine awP (op_assign rfl rfl) ?_
  refine AWL.nil ?_
  (refine hK _ ?_; clear hK K; (simp only [nA]))
  refine AW.cond rfl rfl rfl (fun hc => ?_) (fun hc => ?_)
  ·
   have hc1 := hc; obtain rfl : p = 0 := (by have := of_decide_eq_true hc1; omega)
   (refine AW.seq_k ?_; intro K hK)
   refine AW.region ?_
   (refine awP (op_fa_ptr rfl rfl rfl fl35_1 (by exact sz3) (by decide) rfl) ?_)
   (refine awR (op_load_ptr1 rfl rfl rfl rfl ag3 rfl rfl) ?_)
   refine awJ (OpQ.j (op_callQ (b := true) rfl en37 (C37 (n := x.time) (lo := 0) (hi := 1048576)) (RL.cons (by exact View.same rfl) (RL.cons (by exact View.same rfl) (RL.cons (by exact View.same rfl) (RL.nil)))) rfl)) ?_; (try simp only [nA, Nat.reduceBEq, Nat.reduceEqDiff, ↓reduceIte, Nat.reduceAdd, Nat.reduceSub])
   refine awP (op_assign rfl rfl) ?_
   refine AWL.nil ?_
   (refine hK _ ?_; clear hK K; (simp only [nA]))
   skip
   refine AW.ret ?_; (try simp only [thenE, inBlk, Nat.reduceEqDiff, ↓reduceIte]); exact RQ.of0 rfl (.tmp (bl rfl) rfl rfl .nil)
  have hc1 := hc
  (refine AW.seq_k ?_; intro K hK)
  refine AW.region ?_
  (refine awP (op_eql rfl rfl rfl) ?_)
  refine awP (op_assign rfl rfl) ?_
  refine AWL.nil ?_
  (refine hK _ ?_; clear hK K; (simp only [nA]))
  refine AW.cond rfl rfl rfl (fun hc => ?_) (fun hc => ?_)
  ·
   have hc2 := hc; obtain rfl : p = 2 := (by have := of_decide_eq_true hc2; omega)
   (refine AW.seq_k ?_; intro K hK)
   refine AW.region ?_
   (refine awP (op_fa_ptr rfl rfl rfl fl35_3 (by exact sz23) (by decide) rfl) ?_)
   (refine awR (op_load_ptr rfl rfl rfl rfl ag23 sz23 (bl rfl) rfl) ?_)
   refine awJ (OpQ.j (op_callQ (b := true) rfl en60 (C60 (p := x.plate)) (RL.cons (by exact View.same rfl) (RL.nil)) rfl)) ?_; (try simp only [nA, Nat.reduceBEq, Nat.reduceEqDiff, ↓reduceIte, Nat.reduceAdd, Nat.reduceSub])
   refine awP (op_assign rfl rfl) ?_
   refine AWL.nil ?_
   (refine hK _ ?_; clear hK K; (simp only [nA]))
   skip
   refine AW.ret ?_; (try simp only [thenE, inBlk, Nat.reduceEqDiff, ↓reduceIte]); exact RQ.of0 rfl (.tmp (bl rfl) rfl rfl .nil)
  have hc2 := hc
  (refine AW.seq_k ?_; intro K hK)
  refine AW.region ?_
  (refine awP (op_eql rfl rfl rfl) ?_)
  refine awP (op_assign rfl rfl) ?_
  refine AWL.nil ?_
  (refine hK _ ?_; clear hK K; (simp only [nA]))
  refine AW.cond rfl rfl rfl (fun hc => ?_) (fun hc => ?_)
  ·
   have hc3 := hc; obtain rfl : p = 3 := (by have := of_decide_eq_true hc3; omega)
   (refine AW.seq_k ?_; intro K hK)
   refine AW.region ?_
   (refine awP (op_fa_ptr rfl rfl rfl fl35_4 (by exact sz3) (by decide) rfl) ?_)
   (refine awR (op_load_ptr1 rfl rfl rfl rfl ag3 rfl rfl) ?_)
   refine awJ (OpQ.j (op_callQ (b := true) rfl en37 (C37 (n := x.node) (lo := 0) (hi := 23)) (RL.cons (by exact View.same rfl) (RL.cons (by exact View.same rfl) (RL.cons (by exact View.same rfl) (RL.nil)))) rfl)) ?_; (try simp only [nA, Nat.reduceBEq, Nat.reduceEqDiff, ↓reduceIte, Nat.reduceAdd, Nat.reduceSub])
   refine awP (op_assign rfl rfl) ?_
   refine AWL.nil ?_
   (refine hK _ ?_; clear hK K; (simp only [nA]))
   skip
   refine AW.ret ?_; (try simp only [thenE, inBlk, Nat.reduceEqDiff, ↓reduceIte]); exact RQ.of0 rfl (.tmp (bl rfl) rfl rfl .nil)
  have hc3 := hc
  (refine AW.seq_k ?_; intro K hK)
  refine AW.region ?_
  (refine awP (op_eql rfl rfl rfl) ?_)
  refine awP (op_assign rfl rfl) ?_
  refine AWL.nil ?_
  (refine hK _ ?_; clear hK K; (simp only [nA]))
  refine AW.cond rfl rfl rfl (fun hc => ?_) (fun hc => ?_)
  ·
   have hc4 := hc; obtain rfl : p = 4 := (by have := of_decide_eq_true hc4; omega)
   (refine AW.seq_k ?_; intro K hK)
   refine AW.region ?_
   (refine awP (op_fa_ptr rfl rfl rfl fl35_5 (by exact sz3) (by decide) rfl) ?_)
   (refine awR (op_load_ptr1 rfl rfl rfl rfl ag3 rfl rfl) ?_)
   refine awJ (OpQ.j (op_callQ (b := true) rfl en37 (C37 (n := x.image) (lo := 0) (hi := 1048576)) (RL.cons (by exact View.same rfl) (RL.cons (by exact View.same rfl) (RL.cons (by exact View.same rfl) (RL.nil)))) rfl)) ?_; (try simp only [nA, Nat.reduceBEq, Nat.reduceEqDiff, ↓reduceIte, Nat.reduceAdd, Nat.reduceSub])
   refine awP (op_assign rfl rfl) ?_
   refine AWL.nil ?_
   (refine hK _ ?_; clear hK K; (simp only [nA]))
   skip
   refine AW.ret ?_; (try simp only [thenE, inBlk, Nat.reduceEqDiff, ↓reduceIte]); exact RQ.of0 rfl (.tmp (bl rfl) rfl rfl .nil)
  have hc4 := hc
  (refine AW.seq_k ?_; intro K hK)
  refine AW.region ?_
  (refine awP (op_eql rfl rfl rfl) ?_)
  refine awP (op_assign rfl rfl) ?_
  refine AWL.nil ?_
  (refine hK _ ?_; clear hK K; (simp only [nA]))
  refine AW.cond rfl rfl rfl (fun hc => ?_) (fun hc => ?_)
  ·
   have hc5 := hc; obtain rfl : p = 6 := (by have := of_decide_eq_true hc5; omega)
   (refine AW.seq_k ?_; intro K hK)
   refine AW.region ?_
   (refine awP (op_fa_ptr rfl rfl rfl fl35_7 (by exact sz24) (by decide) rfl) ?_)
   (refine awR (op_load_ptr1 rfl rfl rfl rfl ag24 rfl rfl) ?_)
   refine awJ (OpQ.j (op_callQ (b := true) rfl en61 (C61 (l := x.reports) hx.r hx.rr) (RL.cons (by exact View.same rfl) (RL.cons (by exact View.same rfl) (RL.nil))) rfl)) ?_; (try simp only [nA, Nat.reduceBEq, Nat.reduceEqDiff, ↓reduceIte, Nat.reduceAdd, Nat.reduceSub])
   refine awP (op_not rfl rfl rfl) ?_
   refine awP (op_assign rfl rfl) ?_
   refine AWL.nil ?_
   (refine hK _ ?_; clear hK K; (simp only [nA]))
   skip
   refine AW.ret ?_; (try simp only [thenE, inBlk, Nat.reduceEqDiff, ↓reduceIte]); rw [show prB x 6 = !(x.reports.any p62) from (not_any (p := p62) (fun r => by unfold p62 rpB; rw [Bool.not_and]) _).symm]; exact RQ.of0 rfl (.tmp (bl rfl) rfl rfl .nil)
  have hc5 := hc
  (refine AW.seq_k ?_; intro K hK)
  refine AW.region ?_
  (refine awP (op_eql rfl rfl rfl) ?_)
  refine awP (op_assign rfl rfl) ?_
  refine AWL.nil ?_
  (refine hK _ ?_; clear hK K; (simp only [nA]))
  refine AW.cond rfl rfl rfl (fun hc => ?_) (fun hc => ?_)
  ·
   have hc6 := hc; obtain rfl : p = 7 := (by have := of_decide_eq_true hc6; omega)
   (refine AW.seq_k ?_; intro K hK)
   refine AW.region ?_
   (refine awP (op_fa_ptr rfl rfl rfl fl35_8 (by exact sz28) (by decide) rfl) ?_)
   (refine awR (op_load_ptr rfl rfl rfl rfl ag28 sz28 (bl rfl) rfl) ?_)
   refine awJ (op_alloc rfl ze28 rfl) ?_; (simp only [nA, Nat.reduceBEq, Nat.reduceEqDiff, ↓reduceIte])
   refine awJ (op_store rfl rfl rfl rfl rfl rfl sz28 rfl (bl rfl) rfl) ?_; (simp only [nA, Nat.reduceBEq, Nat.reduceEqDiff, ↓reduceIte])
   refine AWL.nil ?_
   (refine hK _ ?_; clear hK K; (skip))
   (refine AW.seq_k ?_; intro K hK)
   refine AW.region (AWL.quiet ?_)
   (refine aqP (op_fa_ptr rfl rfl rfl fl28_0 (by exact sz3) (by decide) rfl) ?_)
   (refine aqR (op_load_ptr1 rfl rfl rfl rfl ag3 rfl rfl) ?_)
   refine aqQ (op_callQ (b := true) rfl en37 (C37 (n := x.rev.kind) (lo := 1) (hi := 5)) (RL.cons (by exact View.same rfl) (RL.cons (by exact View.same rfl) (RL.cons (by exact View.same rfl) (RL.nil)))) rfl) ?_; (try simp only [nA, Nat.reduceBEq, Nat.reduceEqDiff, ↓reduceIte, Nat.reduceAdd, Nat.reduceSub])
   refine aqP (op_move rfl rfl) ?_
   refine' aqAnd' [_, _, _] [41,42,43] rfl rfl rfl rfl rfl rfl rfl rfl rfl rfl rfl rfl (fun hb => ?_) ?_; rotate_left
   ·
    (try simp only [hcS] at hb)
    (refine aqP (op_fa_ptr rfl rfl rfl fl28_1 (by exact sz3) (by decide) rfl) ?_)
    (refine aqR (op_load_ptr1 rfl rfl rfl rfl ag3 rfl rfl) ?_)
    refine aqQ (op_callQ (b := true) rfl en37 (C37 (n := x.rev.amount) (lo := 0) (hi := 1048576)) (RL.cons (by exact View.same rfl) (RL.cons (by exact View.same rfl) (RL.cons (by exact View.same rfl) (RL.nil)))) rfl) ?_; (simp only [nA])
    (refine aqSeg rfl rfl rfl ?_; repeat (first | exact fun _ _ => rfl | refine upd_out rfl ?_))
   simp only [nA]
   refine aqP (op_move rfl rfl) ?_
   refine' aqAnd' [_, _, _] [46,47,48] rfl rfl rfl rfl rfl rfl rfl rfl rfl rfl rfl rfl (fun hb => ?_) ?_; rotate_left
   ·
    (try simp only [hcS] at hb)
    (refine aqP (op_fa_ptr rfl rfl rfl fl28_2 (by exact sz26) (by decide) rfl) ?_)
    (refine aqR (op_load_ptr rfl rfl rfl rfl ag26 sz26 (bl rfl) rfl) ?_)
    refine aqQ (op_callQ (b := true) rfl en64 (C64 (f := x.rev.fl)) (RL.cons (by exact View.same rfl) (RL.nil)) rfl) ?_; (simp only [nA])
    (refine aqSeg rfl rfl rfl ?_; repeat (first | exact fun _ _ => rfl | refine upd_out rfl ?_))
   simp only [nA]
   refine aqP (op_assign rfl rfl) ?_
   refine AQ.nil ?_
   (refine hK _ ?_; clear hK K; (simp only [nA]))
   skip
   refine AW.ret ?_; (try simp only [thenE, inBlk, Nat.reduceEqDiff, ↓reduceIte]); exact RQ.of0 rfl (.tmp (bl rfl) rfl rfl .nil)
  have hc6 := hc
  (refine AW.seq_k ?_; intro K hK)
  refine AW.region ?_
  (refine awP (op_eql rfl rfl rfl) ?_)
  refine awP (op_assign rfl rfl) ?_
  refine AWL.nil ?_
  (refine hK _ ?_; clear hK K; (simp only [nA]))
  refine AW.cond rfl rfl rfl (fun hc => ?_) (fun hc => ?_)
  ·
   have hc7 := hc; obtain rfl : p = 8 := (by have := of_decide_eq_true hc7; omega)
   (refine AW.seq_k ?_; intro K hK)
   refine AW.region ?_
   (refine awP (op_fa_ptr rfl rfl rfl fl35_9 (by exact sz3) (by decide) rfl) ?_)
   (refine awR (op_load_ptr1 rfl rfl rfl rfl ag3 rfl rfl) ?_)
   refine awJ (OpQ.j (op_callQ (b := true) rfl en37 (C37 (n := x.device) (lo := 1) (hi := 6)) (RL.cons (by exact View.same rfl) (RL.cons (by exact View.same rfl) (RL.cons (by exact View.same rfl) (RL.nil)))) rfl)) ?_; (try simp only [nA, Nat.reduceBEq, Nat.reduceEqDiff, ↓reduceIte, Nat.reduceAdd, Nat.reduceSub])
   refine awP (op_assign rfl rfl) ?_
   refine AWL.nil ?_
   (refine hK _ ?_; clear hK K; (simp only [nA]))
   skip
   refine AW.ret ?_; (try simp only [thenE, inBlk, Nat.reduceEqDiff, ↓reduceIte]); exact RQ.of0 rfl (.tmp (bl rfl) rfl rfl .nil)
  have hc7 := hc
  (refine AW.seq_k ?_; intro K hK)
  refine AW.region ?_
  (refine awP (op_eql rfl rfl rfl) ?_)
  refine awP (op_assign rfl rfl) ?_
  refine AWL.nil ?_
  (refine hK _ ?_; clear hK K; (simp only [nA]))
  refine AW.cond rfl rfl rfl (fun hc => ?_) (fun hc => ?_)
  ·
   have hc8 := hc; obtain rfl : p = 9 := (by have := of_decide_eq_true hc8; omega)
   (refine AW.seq_k ?_; intro K hK)
   refine AW.region (AWL.quiet ?_)
   (refine aqP (op_fa_ptr rfl rfl rfl fl35_10 (by exact sz32) (by decide) rfl) ?_)
   (refine aqR (op_load_ptr rfl rfl rfl rfl ag32 sz32 (bl rfl) rfl) ?_)
   refine aqQ (op_callQ (b := true) rfl en65 (C65 (o := x.op)) (RL.cons (by exact View.same rfl) (RL.nil)) rfl) ?_; (try simp only [nA, Nat.reduceBEq, Nat.reduceEqDiff, ↓reduceIte, Nat.reduceAdd, Nat.reduceSub])
   refine aqP (op_move rfl rfl) ?_
   refine' aqAnd' [_, _, _, _, _, _, _, _] [61,62,63,64,65,66,67,68] rfl rfl rfl rfl rfl rfl rfl rfl rfl rfl rfl rfl (fun hb => ?_) ?_; rotate_left
   ·
    (try simp only [hcS] at hb)
    (refine aqP (op_fa_ptr rfl rfl rfl fl35_10 (by exact sz32) (by decide) rfl) ?_)
    (refine aqP (op_fa_ptr rfl rfl rfl fl32_3 (by exact sz3) (by decide) rfl) ?_)
    (refine aqR (op_load_ptr1 rfl rfl rfl rfl ag3 rfl rfl) ?_)
    (refine aqP (op_eql rfl rfl rfl) ?_)
    (refine aqP (op_fa_ptr rfl rfl rfl fl35_0 (by exact sz3) (by decide) rfl) ?_)
    (refine aqR (op_load_ptr1 rfl rfl rfl rfl ag3 rfl rfl) ?_)
    (refine aqP (op_eql rfl rfl rfl) ?_)
    (refine aqP (op_beql rfl rfl rfl Tryd.underlying4) ?_)
    (refine aqSeg rfl rfl rfl ?_; repeat (first | exact fun _ _ => rfl | refine upd_out rfl ?_))
   simp only [nA]
   refine aqP (op_assign rfl rfl) ?_
   refine AQ.nil ?_
   (refine hK _ ?_; clear hK K; (simp only [nA]))
   skip
   refine AW.ret ?_; (try simp only [thenE, inBlk, Nat.reduceEqDiff, ↓reduceIte]); exact RQ.of0 rfl (.tmp (bl rfl) rfl rfl .nil)
  have hc8 := hc
  (refine AW.seq_k ?_; intro K hK)
  refine AW.region ?_
  (refine awP (op_eql rfl rfl rfl) ?_)
  refine awP (op_assign rfl rfl) ?_
  refine AWL.nil ?_
  (refine hK _ ?_; clear hK K; (simp only [nA]))
  refine AW.cond rfl rfl rfl (fun hc => ?_) (fun hc => ?_)
  ·
   have hc9 := hc; obtain rfl : p = 10 := (by have := of_decide_eq_true hc9; omega); refine AW.gh (Gh.freezeP 2 (bl rfl) rfl rfl (evav_flat x)) ?_; (try simp only [nA, Nat.reduceBEq, Nat.reduceEqDiff, ↓reduceIte, Nat.reduceAdd, Nat.reduceSub])
   (refine AW.seq_k ?_; intro K hK)
   refine AW.region ?_
   (refine awP (op_fa_rop rfl rfl fl35_11 (by exact sz33) (by decide) (bl rfl) rfl) ?_)
   (refine awR (op_load_rop1 rfl rfl ag33) ?_)
   refine awP (op_makeFunc rfl rfl rfl) ?_
   refine awJ (OpQ.j (op_callQ (b := true) rfl en66 (C66 (x := x) (l := x.ops) hx.o) (RL.cons (by exact View.same rfl) (RL.cons (by exact View.same rfl) (RL.nil))) rfl)) ?_; (simp only [nA, ↓reduceIte])
   refine awP (op_not rfl rfl rfl) ?_
   refine awP (op_assign rfl rfl) ?_
   refine AWL.nil ?_
   (refine hK _ ?_; clear hK K; (simp only [nA]))
   skip
   refine AW.ret ?_; (try simp only [thenE, inBlk, Nat.reduceEqDiff, ↓reduceIte]); rw [show prB x 10 = !(x.ops.any (p67 x)) from (not_any (p := p67 x) (fun r => by unfold p67; rw [Bool.not_and]) _).symm]; exact RQ.of0 rfl (.tmp (bl rfl) rfl rfl .nil)
  have hc9 := hc
  (refine AW.seq_k ?_; intro K hK)
  refine AW.region ?_
  (refine awP (op_eql rfl rfl rfl) ?_)
  refine awP (op_assign rfl rfl) ?_
  refine AWL.nil ?_
  (refine hK _ ?_; clear hK K; (simp only [nA]))
  refine AW.cond rfl rfl rfl (fun hc => ?_) (fun hc => ?_)
  ·
   have hc10 := hc; obtain rfl : p = 11 := (by have := of_decide_eq_true hc10; omega)
   (refine AW.seq_k ?_; intro K hK)
   refine AW.region ?_
   (refine awP (op_fa_ptr rfl rfl rfl fl35_12 (by exact sz26) (by decide) rfl) ?_)
   (refine awR (op_load_ptr rfl rfl rfl rfl ag26 sz26 (bl rfl) rfl) ?_)
   refine awJ (OpQ.j (op_callQ (b := true) rfl en64 (C64 (f := x.fl)) (RL.cons (by exact View.same rfl) (RL.nil)) rfl)) ?_; (try simp only [nA, Nat.reduceBEq, Nat.reduceEqDiff, ↓reduceIte, Nat.reduceAdd, Nat.reduceSub])
   refine awP (op_assign rfl rfl) ?_
   refine AWL.nil ?_
   (refine hK _ ?_; clear hK K; (simp only [nA]))
   skip
   refine AW.ret ?_; (try simp only [thenE, inBlk, Nat.reduceEqDiff, ↓reduceIte]); exact RQ.of0 rfl (.tmp (bl rfl) rfl rfl .nil)
  have hc10 := hc
  refine AW.skip ?_
  (try simp only [thenE, inBlk, Nat.reduceEqDiff, ↓reduceIte])
  (refine hK _ ?_; clear hK K; (skip))
  (refine AW.seq_k ?_; intro K hK)
  refine AW.region ?_
  refine awP (op_assign rfl rfl) ?_
  refine AWL.nil ?_
  (refine hK _ ?_; clear hK K; (try simp only [nA, Nat.reduceBEq, Nat.reduceEqDiff, ↓reduceIte, Nat.reduceAdd, Nat.reduceSub]))
  skip
  refine AW.ret ?_; (try simp only [thenE, inBlk, Nat.reduceEqDiff, ↓reduceIte]); rw [prB_rest (by simp only [decide_eq_false_iff_not] at hc1 hc2 hc3 hc4 hc5 hc6 hc7 hc8 hc9 hc10; omega)]; exact RQ.of0 rfl (.tmp (bl rfl) rfl rfl .nil)
end Go.Proofs.YtfmnaigedgmhoaaDoor
namespace Go.Proofs.YtfmnaigedgmhoaaDoor
open Go.RowKit
set_option linter.unusedSimpArgs false
set_option linter.unusedVariables false
set_option maxRecDepth 100000
theorem sameB_iff {x y : Ev} : sameB x y = true ↔ x = y := by
  unfold sameB
  exact @decide_eq_true_iff _ (Classical.propDecidable _)
theorem val_k {x : Ev} (h : inB x.kind 1 14 = false) : valV x = 4 := by
  unfold valV; rw [if_pos h]
theorem val_s {x : Ev} (h : inB x.kind 1 14 = true) (h2 : sameB x (onlyV x) = false) : valV x = 7 := by
  have : x ≠ onlyV x := fun e => by rw [sameB_iff.2 e] at h2; cases h2
  unfold valV; rw [if_neg (by rw [h]; decide), if_pos this]
theorem val_l {x : Ev} (h : inB x.kind 1 14 = true) (h2 : sameB x (onlyV x) = true) (h3 : limB x = true) : valV x = 2 := by
  have e := sameB_iff.1 h2
  unfold valV; rw [if_neg (by rw [h]; decide), if_neg (fun h => h e), if_pos h3]
theorem val_r {x : Ev} (h : inB x.kind 1 14 = true) (h2 : sameB x (onlyV x) = true) (h3 : limB x = false) (h4 : (fieldsL x.kind).all (prB x) = false) : valV x = 1 := by
  have e := sameB_iff.1 h2
  unfold valV; rw [if_neg (by rw [h]; decide), if_neg (fun h => h e), if_neg (by rw [h3]; decide), if_pos h4]
theorem val_a {x : Ev} (h : inB x.kind 1 14 = true) (h2 : sameB x (onlyV x) = true) (h3 : limB x = false) (h4 : (fieldsL x.kind).all (prB x) = true) (h5 : ascR x.reports = false) : valV x = 9 := by
  have e := sameB_iff.1 h2
  unfold valV; rw [if_neg (by rw [h]; decide), if_neg (fun h => h e), if_neg (by rw [h3]; decide), if_neg (by rw [h4]; decide), if_pos h5]
theorem val_0 {x : Ev} (h : inB x.kind 1 14 = true) (h2 : sameB x (onlyV x) = true) (h3 : limB x = false) (h4 : (fieldsL x.kind).all (prB x) = true) (h5 : ascR x.reports = true) : valV x = 0 := by
  have e := sameB_iff.1 h2
  unfold valV; rw [if_neg (by rw [h]; decide), if_neg (fun h => h e), if_neg (by rw [h3]; decide), if_neg (by rw [h4]; decide), if_neg (by rw [h5]; decide)]
set_option maxHeartbeats 8000000 in
theorem C39i {x : Ev} {p : Int} (hx : x.Sm) (h : 0 ≤ p) : Fn Tryd.prog 39 [] [.agg x.av, .v (.int .i64 p)] [.v (.bool (prB x p.toNat))] [] := by
  obtain ⟨n, rfl⟩ := Int.eq_ofNat_of_zero_le h
  exact C39 hx
theorem flds_all {k : Int} {f : Nat → Bool} : (fieldsL k).all f = (fldI k).all fun p => f p.toNat := by
  unfold fldI
  rw [List.all_map]
  rfl
theorem flds_no {k : Int} {f : Nat → Bool} {i : Nat} (hi : i < (fldI k).length) (h : f ((fldI k).getD i default).toNat = false) : (fieldsL k).all f = false := by
  rw [flds_all, List.all_eq_false]
  rw [getD_of hi] at h
  exact ⟨_, List.getElem_mem hi, by rw [h]; simp⟩
theorem flds_yes {k : Int} {f : Nat → Bool} (h : ∀ i, i < (fldI k).length → f ((fldI k).getD i default).toNat = true) : (fieldsL k).all f = true := by
  rw [flds_all, List.all_eq_true]
  intro p hp
  obtain ⟨i, hi, rfl⟩ := List.getElem_of_mem hp
  have := h i hi
  rw [getD_of hi] at this
  exact this
theorem asc_no {l : List Report} {i : Nat} (h0 : 1 ≤ i) (hi : i < l.length) (h : decide ((l.getD i default).device ≤ (l.getD (i - 1) default).device) = true) : ascR l = false := by
  refine all_range_no hi ?_
  rw [Bool.or_eq_false_iff]
  refine ⟨decide_eq_false (by omega), decide_eq_false fun h' => ?_⟩
  have h1 := of_decide_eq_true h
  have h2 : (l.getD (i - 1) default).device < (l.getD i default).device := h'
  omega
theorem asc_yes {l : List Report} {i : Nat} (hi : ¬ i < l.length) (h : ∀ k, 1 ≤ k → k < i → (l.getD (k - 1) default).device < (l.getD k default).device) : ascR l = true := by
  refine all_range_yes hi fun k hk => ?_
  rw [Bool.or_eq_true]
  by_cases h0 : k = 0
  · exact .inl (decide_eq_true h0)
  exact .inr (decide_eq_true (h k (by omega) hk))
set_option maxHeartbeats 8000000 in
theorem C15 {x : Ev} (hx : x.Sm) : Fn Tryd.prog 15 [] [.agg x.av] [.v (.int .i64 (valV x))] [] := by
  have hrl := hx.r
  have hol := hx.o
  have htl := hx.t
  refine Spec.body Tryd.func15 rfl Tryd.ntmps15 (by simp) rfl ?_; intro S0 own0 v0 w0 gl
  (refine AW.seq_k ?_; intro K hK)
  refine AW.region ?_
  refine awJ (op_box rfl rfl rfl sz35 rfl) ?_; (simp only [nA, Nat.reduceBEq, Nat.reduceEqDiff, ↓reduceIte])
  refine awP (op_assign rfl rfl) ?_
  refine AWL.nil ?_
  (refine hK _ ?_; clear hK K; (try simp only [nA, Nat.reduceBEq, Nat.reduceEqDiff, ↓reduceIte, Nat.reduceAdd, Nat.reduceSub]))
  (refine AW.seq_k ?_; intro K hK)
  (refine AW.seq_k ?_; intro K hK)
  refine AW.region ?_
  (refine awP (op_fa_ptr rfl rfl rfl fl35_0 (by exact sz3) (by decide) rfl) ?_)
  (refine awR (op_load_ptr1 rfl rfl rfl rfl ag3 rfl rfl) ?_)
  refine awJ (OpQ.j (op_callQ (b := true) rfl en37 (C37 (n := x.kind) (lo := 1) (hi := 14)) (RL.cons (by exact View.same rfl) (RL.cons (by exact View.same rfl) (RL.cons (by exact View.same rfl) (RL.nil)))) rfl)) ?_; (try simp only [nA, Nat.reduceBEq, Nat.reduceEqDiff, ↓reduceIte, Nat.reduceAdd, Nat.reduceSub])
  refine awP (op_not rfl rfl rfl) ?_
  refine AWL.nil ?_
  (refine hK _ ?_; clear hK K; (try simp only [nA, Nat.reduceBEq, Nat.reduceEqDiff, ↓reduceIte, Nat.reduceAdd, Nat.reduceSub]))
  refine AW.cond rfl rfl rfl (fun hc => ?_) (fun hc => ?_)
  ·
   have hc1 := hc
   (refine AW.seq_k ?_; intro K hK)
   refine AW.region ?_
   refine awP (op_assign rfl rfl) ?_
   refine AWL.nil ?_
   (refine hK _ ?_; clear hK K; (try simp only [nA, Nat.reduceBEq, Nat.reduceEqDiff, ↓reduceIte, Nat.reduceAdd, Nat.reduceSub]))
   skip
   refine AW.ret ?_; (try simp only [thenE, inBlk, Nat.reduceEqDiff, ↓reduceIte]); rw [val_k (by simpa using hc1)]; exact RQ.of0 rfl (.tmp (bl rfl) rfl rfl .nil)
  have hc1 := hc; have hk0 : inB x.kind 1 14 = true := (by simpa using hc1); have hk := inB_iff.1 hk0
  refine AW.skip ?_
  (refine hK _ ?_; clear hK K; (skip))
  (refine AW.seq_k ?_; intro K hK)
  (refine AW.seq_k ?_; intro K hK)
  refine AW.region ?_
  (refine awR (op_load_ptr rfl rfl rfl rfl ag35 sz35 (bl rfl) rfl) ?_)
  refine awJ (OpQ.j (op_callQ (b := true) rfl en38 (C38 (x := x) hk hx.r hx.o) (RL.cons (by exact View.same rfl) (RL.nil)) rfl)) ?_; (try simp only [nA, Nat.reduceBEq, Nat.reduceEqDiff, ↓reduceIte, Nat.reduceAdd, Nat.reduceSub])
  refine awP (op_not rfl rfl rfl) ?_
  refine AWL.nil ?_
  (refine hK _ ?_; clear hK K; (try simp only [nA, Nat.reduceBEq, Nat.reduceEqDiff, ↓reduceIte, Nat.reduceAdd, Nat.reduceSub]))
  refine AW.cond rfl rfl rfl (fun hc => ?_) (fun hc => ?_)
  ·
   have hc2 := hc
   (refine AW.seq_k ?_; intro K hK)
   refine AW.region ?_
   refine awP (op_assign rfl rfl) ?_
   refine AWL.nil ?_
   (refine hK _ ?_; clear hK K; (try simp only [nA, Nat.reduceBEq, Nat.reduceEqDiff, ↓reduceIte, Nat.reduceAdd, Nat.reduceSub]))
   skip
   refine AW.ret ?_; (try simp only [thenE, inBlk, Nat.reduceEqDiff, ↓reduceIte]); rw [val_s hk0 (by simpa using hc2)]; exact RQ.of0 rfl (.tmp (bl rfl) rfl rfl .nil)
  have hc2 := hc; have hs0 : sameB x (onlyV x) = true := (by simpa using hc2)
  refine AW.skip ?_
  (refine hK _ ?_; clear hK K; (skip))
  (refine AW.seq_k ?_; intro K hK)
  (refine AW.seq_k ?_; intro K hK)
  refine AW.region (AWL.quiet ?_)
  (refine aqP (op_fa_ptr rfl rfl rfl fl35_2 (by exact sz9) (by decide) rfl) ?_)
  (refine aqR (op_load_ptr1 rfl rfl rfl rfl ag9 rfl rfl) ?_)
  (refine aqP (op_len_str rfl rfl Tryd.underlying9) ?_)
  refine aqP (op_gtr rfl rfl rfl) ?_
  refine aqP (op_move rfl rfl) ?_
  refine' aqOr' [_, _, _, _] [18,19,20,21] rfl rfl rfl rfl rfl rfl rfl rfl rfl rfl rfl rfl (fun hb => ?_) ?_; rotate_left
  ·
   (try simp only [hcS] at hb)
   (refine aqP (op_fa_ptr rfl rfl rfl fl35_7 (by exact sz24) (by decide) rfl) ?_)
   (refine aqR (op_load_ptr1 rfl rfl rfl rfl ag24 rfl rfl) ?_)
   refine aqP (op_len_ro (n := x.reports.length) rfl rfl Tryd.underlying24 (.inr (.inl ⟨_, rfl, by simp⟩))) ?_
   refine aqP (op_gtr rfl rfl rfl) ?_
   (refine aqSeg rfl rfl rfl ?_; repeat (first | exact fun _ _ => rfl | refine upd_out rfl ?_))
  simp only [nA]
  refine aqP (op_move rfl rfl) ?_
  refine' aqOr' [_, _, _, _] [24,25,26,27] rfl rfl rfl rfl rfl rfl rfl rfl rfl rfl rfl rfl (fun hb => ?_) ?_; rotate_left
  ·
   (try simp only [hcS] at hb)
   (refine aqP (op_fa_ptr rfl rfl rfl fl35_11 (by exact sz33) (by decide) rfl) ?_)
   (refine aqR (op_load_ptr1 rfl rfl rfl rfl ag33 rfl rfl) ?_)
   refine aqP (op_len_ro (n := x.ops.length) rfl rfl Tryd.underlying33 (.inr (.inl ⟨_, rfl, by simp⟩))) ?_
   refine aqP (op_gtr rfl rfl rfl) ?_
   (refine aqSeg rfl rfl rfl ?_; repeat (first | exact fun _ _ => rfl | refine upd_out rfl ?_))
  simp only [nA]
  refine AQ.nil ?_
  (refine hK _ ?_; clear hK K; (skip))
  refine AW.cond rfl rfl rfl (fun hc => ?_) (fun hc => ?_)
  ·
   have hc3 := hc
   (refine AW.seq_k ?_; intro K hK)
   refine AW.region ?_
   refine awP (op_assign rfl rfl) ?_
   refine AWL.nil ?_
   (refine hK _ ?_; clear hK K; (try simp only [nA, Nat.reduceBEq, Nat.reduceEqDiff, ↓reduceIte, Nat.reduceAdd, Nat.reduceSub]))
   skip
   refine AW.ret ?_; (try simp only [thenE, inBlk, Nat.reduceEqDiff, ↓reduceIte]); rw [val_l hk0 hs0 hc3]; exact RQ.of0 rfl (.tmp (bl rfl) rfl rfl .nil)
  have hc3 := hc; have hl0 : limB x = false := hc3
  refine AW.skip ?_
  (refine hK _ ?_; clear hK K; (skip))
  (refine AW.seq_k ?_; intro K hK)
  (refine AW.seq_k ?_; intro K hK)
  refine AW.region ?_
  (refine awP (op_fa_ptr rfl rfl rfl fl35_0 (by exact sz3) (by decide) rfl) ?_)
  (refine awR (op_load_ptr1 rfl rfl rfl rfl ag3 rfl rfl) ?_)
  refine awP (op_ia_glob x.kind.toNat rfl rfl Tryd.underlying79 (by omega) (fldI_row hk) (by exact sz78)) ?_
  (refine awR (op_load_rop1 rfl rfl ag78) ?_)
  refine awP (op_len_ro (n := (fldI x.kind).length) rfl rfl Tryd.underlying78 (.inr (.inl ⟨_, rfl, by simp⟩))) ?_
  refine awP (op_move rfl rfl) ?_
  refine AWL.nil ?_
  (refine hK _ ?_; clear hK K; (try simp only [nA, Nat.reduceBEq, Nat.reduceEqDiff, ↓reduceIte, Nat.reduceAdd, Nat.reduceSub]))
  refine AW.block ?_
  refine AW.loopI (fun i => [(1, .ptr 0 1 0 0), (32, .ro ((fldI x.kind).map fun n => [.v (.int .i64 n)])), (33, .v (.int .i64 (fldI x.kind).length)), (34, .v (.int .i64 (i : Nat)))]) (fun i => ⟨[(1, .own 35 [x.av])], 2⟩) (fun i => i ≤ (fldI x.kind).length ∧ ∀ k, k < i → prB x ((fldI x.kind).getD k default).toNat = true) (fun i => (fldI x.kind).length - i) 0 (by simp) ⟨rfl, rfl, rfl, rfl, trivial⟩ rfl ?_; intro i ρ hi; simp only [updL]; have hfl := fldI_len x.kind
  (refine AW.seq_k ?_; intro K hK)
  refine AW.region ?_
  refine awP (op_lss rfl rfl rfl) ?_
  refine AWL.nil ?_
  (refine hK _ ?_; clear hK K; (try simp only [nA, Nat.reduceBEq, Nat.reduceEqDiff, ↓reduceIte, Nat.reduceAdd, Nat.reduceSub]))
  (refine AW.seq_k ?_; intro K hK)
  refine AW.cond rfl rfl rfl (fun hc => ?_) (fun hc => ?_)
  ·
   have hc4 := hc; have hlt : i < (fldI x.kind).length := (by simpa using hc4); have hpb := fldI_bd hlt
   refine AW.skip ?_
   (refine hK _ ?_; clear hK K; (skip))
   (refine AW.seq_k ?_; intro K hK)
   refine AW.block ?_
   (refine AW.seq_k ?_; intro K hK)
   refine AW.region ?_
   refine awP (op_ia_ro i rfl (.inl rfl) rfl Tryd.underlying78 rfl (get_mapD (by omega)) (by exact sz80) (bl rfl)) ?_
   (refine awR (op_load_rop1 rfl rfl ag80) ?_)
   refine awP (op_assign rfl rfl) ?_
   refine AWL.nil ?_
   (refine hK _ ?_; clear hK K; (simp only [nA]))
   (refine AW.seq_k ?_; intro K hK)
   refine AW.region ?_
   (refine awR (op_load_ptr rfl rfl rfl rfl ag35 sz35 (bl rfl) rfl) ?_)
   refine awP (op_move rfl rfl) ?_
   refine awJ (OpQ.j (op_callQ (b := true) rfl en39 (C39i (x := x) (p := (fldI x.kind).getD i default) hx hpb.1) (RL.cons (by exact View.same rfl) (RL.cons (by exact View.same rfl) (RL.nil))) rfl)) ?_; (simp only [nA, ↓reduceIte])
   refine awP (op_not rfl rfl rfl) ?_
   refine AWL.nil ?_
   (refine hK _ ?_; clear hK K; (try simp only [nA, Nat.reduceBEq, Nat.reduceEqDiff, ↓reduceIte, Nat.reduceAdd, Nat.reduceSub]))
   refine AW.cond rfl rfl rfl (fun hc => ?_) (fun hc => ?_)
   ·
    have hc5 := hc
    (refine AW.seq_k ?_; intro K hK)
    refine AW.region ?_
    refine awP (op_assign rfl rfl) ?_
    refine AWL.nil ?_
    (refine hK _ ?_; clear hK K; (try simp only [nA, Nat.reduceBEq, Nat.reduceEqDiff, ↓reduceIte, Nat.reduceAdd, Nat.reduceSub]))
    skip
    refine AW.ret ?_; (try simp only [thenE, inBlk, Nat.reduceEqDiff, ↓reduceIte]); rw [val_r hk0 hs0 hl0 (flds_no hlt (by simpa using hc5))]; exact RQ.of0 rfl (.tmp (bl rfl) rfl rfl .nil)
   have hc5 := hc
   refine AW.skip ?_
   (try simp only [thenE, inBlk, Nat.reduceEqDiff, ↓reduceIte])
   (refine hK _ ?_; clear hK K; (skip))
   refine AW.region ?_
   (refine awP (op_addi rfl rfl rfl (by omega)) ?_)
   refine awP (op_move rfl rfl) ?_
   skip
   refine AWL.nil ?_
   refine ⟨i + 1, ⟨by omega, all_b_step (f := fun k => prB x ((fldI x.kind).getD k default).toNat) hi.2 (by simpa using hc5)⟩, by omega, ⟨rfl, rfl, rfl, rfl, trivial⟩, (by rfl), (by rfl)⟩
  have hc4 := hc; have hnl : ¬ i < (fldI x.kind).length := (by simpa using hc4); have hp0 : (fieldsL x.kind).all (prB x) = true := flds_yes (fun k hk => hi.2 k (by omega)); clear hi hnl
  refine AW.exit ?_; (try simp only [thenE, inBlk, Nat.reduceEqDiff, ↓reduceIte])
  clear hK K
  (refine hK _ ?_; clear hK K; (skip))
  (refine AW.seq_k ?_; intro K hK)
  (refine AW.seq_k ?_; intro K hK)
  refine AW.region ?_
  refine awP (op_assign rfl rfl) ?_
  refine AWL.nil ?_
  (refine hK _ ?_; clear hK K; (try simp only [nA, Nat.reduceBEq, Nat.reduceEqDiff, ↓reduceIte, Nat.reduceAdd, Nat.reduceSub]))
  refine AW.block ?_
  refine AW.loopI (fun j => [(1, .ptr 0 1 0 0), (5, .v (.int .i64 (j : Nat)))]) (fun j => ⟨[(1, .own 35 [x.av])], 2⟩) (fun j => 1 ≤ j ∧ j ≤ x.reports.length + 1 ∧ ∀ k, 1 ≤ k → k < j → (x.reports.getD (k - 1) default).device < (x.reports.getD k default).device) (fun j => x.reports.length + 1 - j) 1 ⟨by omega, by omega, fun k h1 h2 => by omega⟩ ⟨rfl, rfl, trivial⟩ rfl ?_; intro j ρ hj; simp only [updL]; have hrl := hx.r
  (refine AW.seq_k ?_; intro K hK)
  (refine AW.seq_k ?_; intro K hK)
  refine AW.region ?_
  refine awP (op_move rfl rfl) ?_
  (refine awP (op_fa_ptr rfl rfl rfl fl35_7 (by exact sz24) (by decide) rfl) ?_)
  (refine awR (op_load_ptr1 rfl rfl rfl rfl ag24 rfl rfl) ?_)
  refine awP (op_len_ro (n := x.reports.length) rfl rfl Tryd.underlying24 (.inr (.inl ⟨_, rfl, by simp⟩))) ?_
  refine awP (op_lss rfl rfl rfl) ?_
  refine AWL.nil ?_
  (refine hK _ ?_; clear hK K; (simp only [nA, ↓reduceIte]))
  refine AW.cond rfl rfl rfl (fun hc => ?_) (fun hc => ?_)
  ·
   have hc6 := hc; have hlt : j < x.reports.length := (by simpa using hc6)
   refine AW.skip ?_
   (refine hK _ ?_; clear hK K; (skip))
   (refine AW.seq_k ?_; intro K hK)
   refine AW.block ?_
   (refine AW.seq_k ?_; intro K hK)
   refine AW.quiet mix (by kernel_rfl) ?_
   (refine aqP (op_fa_ptr rfl rfl rfl fl35_7 (by exact sz24) (by decide) rfl) ?_)
   (refine aqR (op_load_ptr1 rfl rfl rfl rfl ag24 rfl rfl) ?_)
   refine aqP (op_move rfl rfl) ?_
   refine aqP (op_ia_ro j rfl (.inl rfl) rfl Tryd.underlying24 rfl (get_mapD (by omega)) (by exact sz66) (bl rfl)) ?_
   (refine aqP (op_fa_rop rfl rfl fl66_0 (by exact sz3) (by decide) (bl rfl) rfl) ?_)
   (refine aqR (op_load_rop1 rfl rfl ag3) ?_)
   (refine aqP (op_fa_ptr rfl rfl rfl fl35_7 (by exact sz24) (by decide) rfl) ?_)
   (refine aqR (op_load_ptr1 rfl rfl rfl rfl ag24 rfl rfl) ?_)
   refine aqP (op_move rfl rfl) ?_
   (refine aqP (op_subi rfl rfl rfl (by omega)) ?_)
   refine aqP (op_ia_ro (j - 1) rfl (.inl rfl) rfl Tryd.underlying24 (by omega) (get_mapD (by omega)) (by exact sz66) (bl rfl)) ?_
   (refine aqP (op_fa_rop rfl rfl fl66_0 (by exact sz3) (by decide) (bl rfl) rfl) ?_)
   (refine aqR (op_load_rop1 rfl rfl ag3) ?_)
   refine aqP (op_leq rfl rfl rfl) ?_
   refine AQ.nil ?_
   (refine hK _ ?_; clear hK K; (simp only [nA, ↓reduceIte]))
   refine AW.cond rfl rfl rfl (fun hc => ?_) (fun hc => ?_)
   ·
    have hc7 := hc
    (refine AW.seq_k ?_; intro K hK)
    refine AW.region ?_
    refine awP (op_assign rfl rfl) ?_
    refine AWL.nil ?_
    (refine hK _ ?_; clear hK K; (try simp only [nA, Nat.reduceBEq, Nat.reduceEqDiff, ↓reduceIte, Nat.reduceAdd, Nat.reduceSub]))
    skip
    refine AW.ret ?_; (try simp only [thenE, inBlk, Nat.reduceEqDiff, ↓reduceIte]); rw [val_a hk0 hs0 hl0 hp0 (asc_no hj.1 hlt hc7)]; exact RQ.of0 rfl (.tmp (bl rfl) rfl rfl .nil)
   have hc7 := hc
   refine AW.skip ?_
   (try simp only [thenE, inBlk, Nat.reduceEqDiff, ↓reduceIte])
   (refine hK _ ?_; clear hK K; (skip))
   refine AW.region ?_
   refine awP (op_move rfl rfl) ?_
   (refine awP (op_addi rfl rfl rfl (by omega)) ?_)
   refine awP (op_assign rfl rfl) ?_
   skip
   refine AWL.nil ?_
   refine ⟨j + 1, ⟨by omega, by omega, fun k h1 h2 => by rcases Nat.lt_or_ge k j with h | h; exact hj.2.2 k h1 h; (obtain rfl : k = j := by omega); have := of_decide_eq_false hc7; omega⟩, by omega, ⟨rfl, rfl, trivial⟩, (by rfl), (by rfl)⟩
  have hc6 := hc; have hnl : ¬ j < x.reports.length := (by simpa using hc6)
  refine AW.exit ?_; (try simp only [thenE, inBlk, Nat.reduceEqDiff, ↓reduceIte])
  clear hK K
  (refine hK _ ?_; clear hK K; (skip))
  (refine AW.seq_k ?_; intro K hK)
  refine AW.region ?_
  refine awP (op_assign rfl rfl) ?_
  refine AWL.nil ?_
  (refine hK _ ?_; clear hK K; (try simp only [nA, Nat.reduceBEq, Nat.reduceEqDiff, ↓reduceIte, Nat.reduceAdd, Nat.reduceSub]))
  skip
  refine AW.ret ?_; (try simp only [thenE, inBlk, Nat.reduceEqDiff, ↓reduceIte]); rw [val_0 hk0 hs0 hl0 hp0 (asc_yes hnl hj.2.2)]; exact RQ.of0 rfl (.tmp (bl rfl) rfl rfl .nil)
end Go.Proofs.YtfmnaigedgmhoaaDoor
namespace Go.Proofs.YtfmnaigedgmhoaaDoor
open Go.RowKit
set_option linter.unusedSimpArgs false
set_option linter.unusedVariables false
set_option maxRecDepth 100000
theorem le_ev0s (k : Int) : RL Le1 [evC (ev0 k) (.v (.slice none 0 0)) (.v (.slice none 0 0))].flatten [(ev0 k).av].flatten := by
  rw [List.flatten_singleton, List.flatten_singleton]; exact le_ev0 k
end Go.Proofs.YtfmnaigedgmhoaaDoor
namespace Go.Proofs.YtfmnaigedgmhoaaDoor
open Go.RowKit
set_option linter.unusedSimpArgs false
set_option linter.unusedVariables false
set_option maxRecDepth 100000
def rngV (x : Ev) : Bool := (fieldsL x.kind).all (prB x)
end Go.Proofs.YtfmnaigedgmhoaaDoor
namespace Go.Proofs.YtfmnaigedgmhoaaDoor
open Go.RowKit
set_option linter.unusedSimpArgs false
set_option linter.unusedVariables false
set_option maxRecDepth 100000
abbrev wB (bs : BL) : AV := .own 77 [[.own 5 (bs.map bv)]]
theorem wrapU (x : Int) : IntKind.u8.wrap x = (((byI x).toNat : Nat) : Int) := by rw [IntKind.wrap_u8, byI_nat]
theorem shr24 (n : Int) : n.fdiv (2 ^ (min (24 : Int).toNat IntKind.i64.bits)) = n / 16777216 := Int.fdiv_eq_ediv_of_nonneg n (by decide)
theorem shr16 (n : Int) : n.fdiv (2 ^ (min (16 : Int).toNat IntKind.i64.bits)) = n / 65536 := Int.fdiv_eq_ediv_of_nonneg n (by decide)
theorem shr8 (n : Int) : n.fdiv (2 ^ (min (8 : Int).toNat IntKind.i64.bits)) = n / 256 := Int.fdiv_eq_ediv_of_nonneg n (by decide)
set_option maxHeartbeats 8000000 in
theorem C51 {bs : BL} {n : Int} (hb : bs.length ≤ 1000000) : Fn Tryd.prog 51 [wB bs] [.ptr 0 0 0 0, .v (.int .i64 n)] [] [wB (bs ++ b4 n)] := by
  refine Spec.body Tryd.func51 rfl Tryd.ntmps51 (by simp) rfl ?_; intro S0 own0 v0 w0 gl
  refine AW.region ?_
  refine awP (op_move rfl rfl) ?_; (try simp only [nA, Nat.reduceBEq, Nat.reduceEqDiff, ↓reduceIte, Nat.reduceAdd, Nat.reduceSub])
  refine awP (op_move rfl rfl) ?_; (simp only [nA, ↓reduceIte])
  (refine awP (op_nil_slot rfl rfl rfl) ?_); (try simp only [nA, Nat.reduceBEq, Nat.reduceEqDiff, ↓reduceIte, Nat.reduceAdd, Nat.reduceSub])
  (refine awP (op_fa_ptr rfl rfl rfl fl77_0 (by exact sz43) (by decide) rfl) ?_); (try simp only [nA, Nat.reduceBEq, Nat.reduceEqDiff, ↓reduceIte, Nat.reduceAdd, Nat.reduceSub])
  refine awJ (op_load_nest (i := 0) (j := 0) rfl rfl rfl rfl ag43 rfl rfl) ?_; (simp only [nA, Nat.reduceBEq, Nat.reduceEqDiff, ↓reduceIte])
  refine awP (op_move rfl rfl) ?_; (simp only [nA, ↓reduceIte])
  refine awP (op_shr rfl rfl rfl (by decide) (shr24 n)) ?_; (try simp only [nA, Nat.reduceBEq, Nat.reduceEqDiff, ↓reduceIte, Nat.reduceAdd, Nat.reduceSub])
  refine awP (op_conv rfl rfl Tryd.underlying3 Tryd.underlying5 (wrapU _)) ?_; (try simp only [nA, Nat.reduceBEq, Nat.reduceEqDiff, ↓reduceIte, Nat.reduceAdd, Nat.reduceSub])
  refine awP (op_move rfl rfl) ?_; (simp only [nA, ↓reduceIte])
  refine awP (op_shr rfl rfl rfl (by decide) (shr16 n)) ?_; (try simp only [nA, Nat.reduceBEq, Nat.reduceEqDiff, ↓reduceIte, Nat.reduceAdd, Nat.reduceSub])
  refine awP (op_conv rfl rfl Tryd.underlying3 Tryd.underlying5 (wrapU _)) ?_; (try simp only [nA, Nat.reduceBEq, Nat.reduceEqDiff, ↓reduceIte, Nat.reduceAdd, Nat.reduceSub])
  refine awP (op_move rfl rfl) ?_; (simp only [nA, ↓reduceIte])
  refine awP (op_shr rfl rfl rfl (by decide) (shr8 n)) ?_; (try simp only [nA, Nat.reduceBEq, Nat.reduceEqDiff, ↓reduceIte, Nat.reduceAdd, Nat.reduceSub])
  refine awP (op_conv rfl rfl Tryd.underlying3 Tryd.underlying5 (wrapU _)) ?_; (try simp only [nA, Nat.reduceBEq, Nat.reduceEqDiff, ↓reduceIte, Nat.reduceAdd, Nat.reduceSub])
  refine awP (op_move rfl rfl) ?_; (simp only [nA, ↓reduceIte])
  refine awP (op_conv rfl rfl Tryd.underlying3 Tryd.underlying5 (wrapU _)) ?_; (try simp only [nA, Nat.reduceBEq, Nat.reduceEqDiff, ↓reduceIte, Nat.reduceAdd, Nat.reduceSub])
  refine awJ (OpJ.frz (op_buildSlice rfl [(0, bv (byI (n / 16777216))), (1, bv (byI (n / 65536))), (2, bv (byI (n / 256))), (3, bv (byI n))] ((b4 n).map bv) Tryd.underlying43 ze5 rfl (by simp [b4]) rfl (bv_len _) rfl (bl rfl) (by simp [b4, maxLen])) (bv_flat _) rfl) ?_; (try simp only [nA, Nat.reduceBEq, Nat.reduceEqDiff, ↓reduceIte, Nat.reduceAdd, Nat.reduceSub])
  refine awJ (op_app (rows := (b4 n).map bv) rfl rfl rfl rfl (by simp) .ro Tryd.underlying43 ze5 (by decide) (bv_len _) (by simp [b4]; omega) (by decide) (es' := (bs ++ b4 n).map bv) (by simp) (n := (bs ++ b4 n).length) (by simp)) ?_; (simp only [nA, Nat.reduceBEq, Nat.reduceEqDiff, ↓reduceIte])
  (refine awP (op_nil_slot rfl rfl rfl) ?_); (try simp only [nA, Nat.reduceBEq, Nat.reduceEqDiff, ↓reduceIte, Nat.reduceAdd, Nat.reduceSub])
  (refine awP (op_fa_ptr rfl rfl rfl fl77_0 (by exact sz43) (by decide) rfl) ?_); (try simp only [nA, Nat.reduceBEq, Nat.reduceEqDiff, ↓reduceIte, Nat.reduceAdd, Nat.reduceSub])
  refine awJ (op_store_nest (r := 0) (q := 1) rfl rfl rfl rfl rfl sz43 rfl (by decide) (by simp) (by simp) (es2 := [[.own 5 ((bs ++ b4 n).map bv)]]) rfl) ?_; (try simp only [nA, Nat.reduceBEq, Nat.reduceEqDiff, ↓reduceIte, Nat.reduceAdd, Nat.reduceSub])
  refine AWL.nil ?_
  exact RQ.of (.inr rfl) rfl .nil (by simp) rfl (one_out rfl)
set_option maxHeartbeats 8000000 in
theorem C52 {bs : BL} {s : ByteArray} (hb : bs.length ≤ 1000000) (hs : s.size ≤ 1000000) : Fn Tryd.prog 52 [wB bs] [.ptr 0 0 0 0, .v (.string s)] [] [wB (bs ++ eWd s)] := by
  refine Spec.body Tryd.func52 rfl Tryd.ntmps52 (by simp) rfl ?_; intro S0 own0 v0 w0 gl
  (refine AW.seq_k ?_; intro K hK)
  refine AW.region ?_
  refine awP (op_move rfl rfl) ?_; (try simp only [nA, Nat.reduceBEq, Nat.reduceEqDiff, ↓reduceIte, Nat.reduceAdd, Nat.reduceSub])
  refine awP (op_move rfl rfl) ?_; (simp only [nA, ↓reduceIte])
  (refine awP (op_len_str rfl rfl Tryd.underlying9) ?_); (try simp only [nA, Nat.reduceBEq, Nat.reduceEqDiff, ↓reduceIte, Nat.reduceAdd, Nat.reduceSub])
  refine awJ (op_call1 rfl en51 (C51 (bs := bs) (n := (s.size : Nat)) (by omega)) (by exact rfl) (RL.cons .ptr (RL.cons (.base (by exact View.same rfl)) (RL.nil))) (by exact ⟨_, _, _, rfl, rfl, rfl⟩) (by exact rfl) (by exact rfl) (by exact rfl)) ?_; (try simp only [nA, Nat.reduceBEq, Nat.reduceEqDiff, ↓reduceIte, Nat.reduceAdd, Nat.reduceSub])
  refine AWL.nil ?_
  (refine hK _ ?_; clear hK K; (try simp only [nA, Nat.reduceBEq, Nat.reduceEqDiff, ↓reduceIte, Nat.reduceAdd, Nat.reduceSub]))
  refine AW.region ?_
  refine awP (op_move rfl rfl) ?_; (simp only [nA, ↓reduceIte])
  refine awP (op_move rfl rfl) ?_; (simp only [nA, ↓reduceIte])
  (refine awP (op_nil_slot rfl rfl rfl) ?_); (try simp only [nA, Nat.reduceBEq, Nat.reduceEqDiff, ↓reduceIte, Nat.reduceAdd, Nat.reduceSub])
  (refine awP (op_fa_ptr rfl rfl rfl fl77_0 (by exact sz43) (by decide) rfl) ?_); (try simp only [nA, Nat.reduceBEq, Nat.reduceEqDiff, ↓reduceIte, Nat.reduceAdd, Nat.reduceSub])
  refine awJ (op_load_nest (i := 0) (j := 0) rfl rfl rfl rfl ag43 rfl rfl) ?_; (simp only [nA, Nat.reduceBEq, Nat.reduceEqDiff, ↓reduceIte])
  refine awP (op_move rfl rfl) ?_; (simp only [nA, ↓reduceIte])
  refine awJ (op_app_str rfl rfl rfl rfl (by simp) Tryd.underlying43 Tryd.underlying9 ze5 (by simp [b4]; omega) (es' := (bs ++ eWd s).map bv) (by simp [eWd]) (n := (bs ++ eWd s).length) (by rw [List.length_map, List.length_append, List.length_append, wd_len, b4_len]; omega)) ?_; (simp only [nA, Nat.reduceBEq, Nat.reduceEqDiff, ↓reduceIte])
  (refine awP (op_nil_slot rfl rfl rfl) ?_); (try simp only [nA, Nat.reduceBEq, Nat.reduceEqDiff, ↓reduceIte, Nat.reduceAdd, Nat.reduceSub])
  (refine awP (op_fa_ptr rfl rfl rfl fl77_0 (by exact sz43) (by decide) rfl) ?_); (try simp only [nA, Nat.reduceBEq, Nat.reduceEqDiff, ↓reduceIte, Nat.reduceAdd, Nat.reduceSub])
  refine awJ (op_store_nest (r := 0) (q := 1) rfl rfl rfl rfl rfl sz43 rfl (by decide) (by simp) (by simp) (es2 := [[.own 5 ((bs ++ eWd s).map bv)]]) rfl) ?_; (try simp only [nA, Nat.reduceBEq, Nat.reduceEqDiff, ↓reduceIte, Nat.reduceAdd, Nat.reduceSub])
  refine AWL.nil ?_
  exact RQ.of (.inr rfl) rfl .nil (by simp) rfl (one_out rfl)
set_option maxHeartbeats 8000000 in
theorem C54 {bs : BL} {yes : Bool} (hb : bs.length ≤ 1000000) : Fn Tryd.prog 54 [wB bs] [.ptr 0 0 0 0, .v (.bool yes)] [] [wB (bs ++ eTr yes)] := by
  refine Spec.body Tryd.func54 rfl Tryd.ntmps54 (by simp) rfl ?_; intro S0 own0 v0 w0 gl
  (refine AW.seq_k ?_; intro K hK)
  refine AW.region ?_
  refine awP (op_assign rfl rfl) ?_; (try simp only [nA, Nat.reduceBEq, Nat.reduceEqDiff, ↓reduceIte, Nat.reduceAdd, Nat.reduceSub])
  refine AWL.nil ?_
  (refine hK _ ?_; clear hK K; (try simp only [nA, Nat.reduceBEq, Nat.reduceEqDiff, ↓reduceIte, Nat.reduceAdd, Nat.reduceSub]))
  (refine AW.seq_k ?_; intro K hK)
  (refine AW.seq_k ?_; intro K hK)
  refine AW.region ?_
  refine awP (op_move rfl rfl) ?_; (simp only [nA, ↓reduceIte])
  refine AWL.nil ?_
  (refine hK _ ?_; clear hK K; (skip))
  refine AW.cond rfl rfl rfl (fun hc => ?_) (fun hc => ?_)
  ·
   have hc1 := hc; obtain rfl : yes = true := hc1
   refine AW.region ?_
   refine awP (op_assign rfl rfl) ?_; (try simp only [nA, Nat.reduceBEq, Nat.reduceEqDiff, ↓reduceIte, Nat.reduceAdd, Nat.reduceSub])
   refine AWL.nil ?_
   (refine hK _ ?_; clear hK K; (skip))
   refine AW.region ?_
   refine awP (op_move rfl rfl) ?_; (simp only [nA, ↓reduceIte])
   refine awP (op_move rfl rfl) ?_; (simp only [nA, ↓reduceIte])
   (refine awP (op_nil_slot rfl rfl rfl) ?_); (try simp only [nA, Nat.reduceBEq, Nat.reduceEqDiff, ↓reduceIte, Nat.reduceAdd, Nat.reduceSub])
   (refine awP (op_fa_ptr rfl rfl rfl fl77_0 (by exact sz43) (by decide) rfl) ?_); (try simp only [nA, Nat.reduceBEq, Nat.reduceEqDiff, ↓reduceIte, Nat.reduceAdd, Nat.reduceSub])
   refine awJ (op_load_nest (i := 0) (j := 0) rfl rfl rfl rfl ag43 rfl rfl) ?_; (simp only [nA, Nat.reduceBEq, Nat.reduceEqDiff, ↓reduceIte])
   refine awP (op_move rfl rfl) ?_; (simp only [nA, ↓reduceIte])
   (refine awJ (OpJ.frz (op_buildSlice rfl [(0, bv 1)] ((eTr true).map bv) Tryd.underlying43 ze5 rfl (by simp [eTr]) rfl (bv_len _) rfl (bl rfl) (by simp [eTr, maxLen])) (bv_flat _) rfl) ?_); (try simp only [nA, Nat.reduceBEq, Nat.reduceEqDiff, ↓reduceIte, Nat.reduceAdd, Nat.reduceSub])
   refine awJ (op_app (rows := (eTr true).map bv) rfl rfl rfl rfl (by simp) .ro Tryd.underlying43 ze5 (by decide) (bv_len _) (by simp [eTr]; omega) (by decide) (es' := (bs ++ eTr true).map bv) (by simp) (n := (bs ++ eTr true).length) (by simp)) ?_; (simp only [nA, Nat.reduceBEq, Nat.reduceEqDiff, ↓reduceIte])
   (refine awP (op_nil_slot rfl rfl rfl) ?_); (try simp only [nA, Nat.reduceBEq, Nat.reduceEqDiff, ↓reduceIte, Nat.reduceAdd, Nat.reduceSub])
   (refine awP (op_fa_ptr rfl rfl rfl fl77_0 (by exact sz43) (by decide) rfl) ?_); (try simp only [nA, Nat.reduceBEq, Nat.reduceEqDiff, ↓reduceIte, Nat.reduceAdd, Nat.reduceSub])
   refine awJ (op_store_nest (r := 0) (q := 1) rfl rfl rfl rfl rfl sz43 rfl (by decide) (by simp) (by simp) (es2 := [[.own 5 ((bs ++ eTr true).map bv)]]) rfl) ?_; (try simp only [nA, Nat.reduceBEq, Nat.reduceEqDiff, ↓reduceIte, Nat.reduceAdd, Nat.reduceSub])
   refine AWL.nil ?_
   exact RQ.of (.inr rfl) rfl .nil (by simp) rfl (one_out rfl)
  have hc1 := hc; obtain rfl : yes = false := hc1
  refine AW.skip ?_
  (refine hK _ ?_; clear hK K; (skip))
  refine AW.region ?_
  refine awP (op_move rfl rfl) ?_; (simp only [nA, ↓reduceIte])
  refine awP (op_move rfl rfl) ?_; (simp only [nA, ↓reduceIte])
  (refine awP (op_nil_slot rfl rfl rfl) ?_); (try simp only [nA, Nat.reduceBEq, Nat.reduceEqDiff, ↓reduceIte, Nat.reduceAdd, Nat.reduceSub])
  (refine awP (op_fa_ptr rfl rfl rfl fl77_0 (by exact sz43) (by decide) rfl) ?_); (try simp only [nA, Nat.reduceBEq, Nat.reduceEqDiff, ↓reduceIte, Nat.reduceAdd, Nat.reduceSub])
  refine awJ (op_load_nest (i := 0) (j := 0) rfl rfl rfl rfl ag43 rfl rfl) ?_; (simp only [nA, Nat.reduceBEq, Nat.reduceEqDiff, ↓reduceIte])
  refine awP (op_move rfl rfl) ?_; (simp only [nA, ↓reduceIte])
  (refine awJ (OpJ.frz (op_buildSlice rfl [(0, bv 0)] ((eTr false).map bv) Tryd.underlying43 ze5 rfl (by simp [eTr]) rfl (bv_len _) rfl (bl rfl) (by simp [eTr, maxLen])) (bv_flat _) rfl) ?_); (try simp only [nA, Nat.reduceBEq, Nat.reduceEqDiff, ↓reduceIte, Nat.reduceAdd, Nat.reduceSub])
  refine awJ (op_app (rows := (eTr false).map bv) rfl rfl rfl rfl (by simp) .ro Tryd.underlying43 ze5 (by decide) (bv_len _) (by simp [eTr]; omega) (by decide) (es' := (bs ++ eTr false).map bv) (by simp) (n := (bs ++ eTr false).length) (by simp)) ?_; (simp only [nA, Nat.reduceBEq, Nat.reduceEqDiff, ↓reduceIte])
  (refine awP (op_nil_slot rfl rfl rfl) ?_); (try simp only [nA, Nat.reduceBEq, Nat.reduceEqDiff, ↓reduceIte, Nat.reduceAdd, Nat.reduceSub])
  (refine awP (op_fa_ptr rfl rfl rfl fl77_0 (by exact sz43) (by decide) rfl) ?_); (try simp only [nA, Nat.reduceBEq, Nat.reduceEqDiff, ↓reduceIte, Nat.reduceAdd, Nat.reduceSub])
  refine awJ (op_store_nest (r := 0) (q := 1) rfl rfl rfl rfl rfl sz43 rfl (by decide) (by simp) (by simp) (es2 := [[.own 5 ((bs ++ eTr false).map bv)]]) rfl) ?_; (try simp only [nA, Nat.reduceBEq, Nat.reduceEqDiff, ↓reduceIte, Nat.reduceAdd, Nat.reduceSub])
  refine AWL.nil ?_
  exact RQ.of (.inr rfl) rfl .nil (by simp) rfl (one_out rfl)
theorem take_flat {bs : BL} {xs : List Int} {i : Nat} (h : i < xs.length) : (bs ++ (xs.take i).flatMap b4) ++ b4 (xs.getD i default) = bs ++ (xs.take (i + 1)).flatMap b4 := by
  rw [List.take_add_one, List.getElem?_eq_getElem h, getD_of h, List.flatMap_append, List.append_assoc]
  congr 2
theorem flat_b4 : ∀ (xs : List Int), (xs.flatMap b4).length = 4 * xs.length
  | [] => rfl
  | x :: xs => by rw [List.flatMap_cons, List.length_append, flat_b4 xs, b4_len, List.length_cons]; omega
set_option maxHeartbeats 8000000 in
theorem C89 {bs : BL} {xs : List Int} (hb : bs.length ≤ 900000) (hx : xs.length ≤ 1000) : Fn Tryd.prog 89 [wB bs] [.ptr 0 0 0 0, .ro (xs.map iv)] [] [wB (bs ++ xs.flatMap b4)] := by
  refine Spec.body Tryd.func89 rfl Tryd.ntmps89 (by simp) rfl ?_; intro S0 own0 v0 w0 gl
  (refine AW.seq_k ?_; intro K hK)
  refine AW.region ?_
  refine awP (op_move rfl rfl) ?_; (try simp only [nA, Nat.reduceBEq, Nat.reduceEqDiff, ↓reduceIte, Nat.reduceAdd, Nat.reduceSub])
  refine awP (op_len_ro (n := xs.length) rfl rfl Tryd.underlying36 (.inr (.inl ⟨_, rfl, by simp⟩))) ?_; (try simp only [nA, Nat.reduceBEq, Nat.reduceEqDiff, ↓reduceIte, Nat.reduceAdd, Nat.reduceSub])
  refine awP (op_move rfl rfl) ?_; (try simp only [nA, Nat.reduceBEq, Nat.reduceEqDiff, ↓reduceIte, Nat.reduceAdd, Nat.reduceSub])
  refine AWL.nil ?_
  (refine hK _ ?_; clear hK K; (try simp only [nA, Nat.reduceBEq, Nat.reduceEqDiff, ↓reduceIte, Nat.reduceAdd, Nat.reduceSub]))
  refine AW.block ?_
  refine AW.loopI (fun i => [(0, .ptr 0 0 0 0), (6, .ro (xs.map iv)), (7, .v (.int .i64 xs.length)), (8, .v (.int .i64 (i : Nat)))]) (fun i => ⟨[(0, wB (bs ++ (xs.take i).flatMap b4))], 1⟩) (fun i => i ≤ xs.length) (fun i => xs.length - i) 0 (by simp) ⟨rfl, rfl, rfl, rfl, trivial⟩ (by simp) ?_; intro i ρ hi; simp only [updL]; have hfl := flat_b4 (xs.take i); have htl : (xs.take i).length ≤ 1000 := (by rw [List.length_take]; omega)
  (refine AW.seq_k ?_; intro K hK)
  refine AW.region ?_
  refine awP (op_lss rfl rfl rfl) ?_; (try simp only [nA, Nat.reduceBEq, Nat.reduceEqDiff, ↓reduceIte, Nat.reduceAdd, Nat.reduceSub])
  refine AWL.nil ?_
  (refine hK _ ?_; clear hK K; (skip))
  (refine AW.seq_k ?_; intro K hK)
  refine AW.cond rfl rfl rfl (fun hc => ?_) (fun hc => ?_)
  ·
   have hc1 := hc; have hlt : i < xs.length := (by simpa using hc1)
   refine AW.skip ?_
   (refine hK _ ?_; clear hK K; (skip))
   (refine AW.seq_k ?_; intro K hK)
   refine AW.block ?_
   (refine AW.seq_k ?_; intro K hK)
   refine AW.region ?_
   refine awP (op_ia_ro i rfl (.inl rfl) rfl Tryd.underlying36 rfl (get_mapD (by omega)) (by exact sz3) (bl rfl)) ?_; (try simp only [nA, Nat.reduceBEq, Nat.reduceEqDiff, ↓reduceIte, Nat.reduceAdd, Nat.reduceSub])
   (refine awR (op_load_rop1 rfl rfl ag3) ?_); (try simp only [nA, Nat.reduceBEq, Nat.reduceEqDiff, ↓reduceIte, Nat.reduceAdd, Nat.reduceSub])
   refine awP (op_assign rfl rfl) ?_; (simp only [nA])
   refine AWL.nil ?_
   (refine hK _ ?_; clear hK K; (skip))
   refine AW.region ?_
   refine awP (op_move rfl rfl) ?_; (simp only [nA, ↓reduceIte])
   refine awP (op_move rfl rfl) ?_; (simp only [nA, ↓reduceIte])
   refine awJ (op_call1 rfl en51 (C51 (bs := bs ++ (xs.take i).flatMap b4) (n := xs.getD i default) (by rw [List.length_append]; omega)) (by exact rfl) (RL.cons .ptr (RL.cons (.base (by exact View.same rfl)) (RL.nil))) (by exact ⟨_, _, _, rfl, rfl, rfl⟩) (by exact rfl) (by exact rfl) (by exact rfl)) ?_; (try simp only [nA, Nat.reduceBEq, Nat.reduceEqDiff, ↓reduceIte, Nat.reduceAdd, Nat.reduceSub])
   refine AWL.nil ?_
   (try simp only [thenE, inBlk, Nat.reduceEqDiff, ↓reduceIte])
   (refine hK _ ?_; clear hK K; (skip))
   refine AW.region ?_
   (refine awP (op_addi rfl rfl rfl (by omega)) ?_); (try simp only [nA, Nat.reduceBEq, Nat.reduceEqDiff, ↓reduceIte, Nat.reduceAdd, Nat.reduceSub])
   refine awP (op_move rfl rfl) ?_; (simp only [nA])
   skip
   refine AWL.nil ?_
   refine ⟨i + 1, by omega, by omega, ⟨rfl, rfl, rfl, rfl, trivial⟩, congrArg (fun z => (⟨[(0, wB z)], 1⟩ : Sl)) (take_flat hlt), (by rfl)⟩
  have hc1 := hc; have hnl : ¬ i < xs.length := (by simpa using hc1); rw [show xs.take i = xs from List.take_of_length_le (by omega)]
  refine AW.exit ?_; (try simp only [thenE, inBlk, Nat.reduceEqDiff, ↓reduceIte])
  clear hK K
  show RQ _ _ _ _ _ _; exact RQ.of (.inr rfl) rfl .nil (by simp) rfl (one_out rfl)
end Go.Proofs.YtfmnaigedgmhoaaDoor
namespace Go.Proofs.YtfmnaigedgmhoaaDoor
open Go.RowKit
set_option linter.unusedSimpArgs false
set_option linter.unusedVariables false
set_option maxRecDepth 100000
set_option maxHeartbeats 8000000 in
theorem C53v {b0 b1 : BL} {p : Plate} (g0 : Fn Tryd.prog 89 [wB b0] [.ptr 0 0 0 0, .ro (([p.lead, p.airline, p.serial] : List Int).map iv)] [] [wB b1]) : Fn Tryd.prog 53 [wB b0] [.ptr 0 0 0 0, .agg p.av] [] [wB b1] := by
  refine Spec.body Tryd.func53 rfl Tryd.ntmps53 (by simp) rfl ?_; intro S0 own0 v0 w0 gl
  (refine AW.seq_k ?_; intro K hK)
  refine AW.region ?_
  refine awJ (op_box rfl rfl rfl sz23 rfl) ?_; (simp only [nA, Nat.reduceBEq, Nat.reduceEqDiff, ↓reduceIte])
  refine AWL.nil ?_
  (refine hK _ ?_; clear hK K; (try simp only [nA, Nat.reduceBEq, Nat.reduceEqDiff, ↓reduceIte, Nat.reduceAdd, Nat.reduceSub]))
  refine AW.region ?_
  refine awP (op_move rfl rfl) ?_; (simp only [nA, ↓reduceIte])
  (refine awP (op_fa_ptr rfl rfl rfl fl23_0 (by exact sz3) (by decide) rfl) ?_); (try simp only [nA, Nat.reduceBEq, Nat.reduceEqDiff, ↓reduceIte, Nat.reduceAdd, Nat.reduceSub])
  (refine awR (op_load_ptr1 rfl rfl rfl rfl ag3 rfl rfl) ?_); (try simp only [nA, Nat.reduceBEq, Nat.reduceEqDiff, ↓reduceIte, Nat.reduceAdd, Nat.reduceSub])
  (refine awP (op_fa_ptr rfl rfl rfl fl23_1 (by exact sz3) (by decide) rfl) ?_); (try simp only [nA, Nat.reduceBEq, Nat.reduceEqDiff, ↓reduceIte, Nat.reduceAdd, Nat.reduceSub])
  (refine awR (op_load_ptr1 rfl rfl rfl rfl ag3 rfl rfl) ?_); (try simp only [nA, Nat.reduceBEq, Nat.reduceEqDiff, ↓reduceIte, Nat.reduceAdd, Nat.reduceSub])
  (refine awP (op_fa_ptr rfl rfl rfl fl23_2 (by exact sz3) (by decide) rfl) ?_); (try simp only [nA, Nat.reduceBEq, Nat.reduceEqDiff, ↓reduceIte, Nat.reduceAdd, Nat.reduceSub])
  (refine awR (op_load_ptr1 rfl rfl rfl rfl ag3 rfl rfl) ?_); (try simp only [nA, Nat.reduceBEq, Nat.reduceEqDiff, ↓reduceIte, Nat.reduceAdd, Nat.reduceSub])
  refine awJ (OpJ.frz (op_buildSlice rfl [(0, iv p.lead), (1, iv p.airline), (2, iv p.serial)] (([p.lead, p.airline, p.serial] : List Int).map iv) Tryd.underlying36 ze3 rfl (by simp) (fold_dense 1 (([p.lead, p.airline, p.serial] : List Int).map iv) (iv_len _)) (iv_len _) rfl (bl rfl) (by simp [maxLen])) (iv_flat [p.lead, p.airline, p.serial]) rfl) ?_; (try simp only [nA, Nat.reduceBEq, Nat.reduceEqDiff, ↓reduceIte, Nat.reduceAdd, Nat.reduceSub])
  refine awJ (op_call1 rfl en89 g0 (by exact rfl) (RL.cons .ptr (RL.cons (.base (by exact View.same rfl)) (RL.nil))) (by exact ⟨_, _, _, rfl, rfl, rfl⟩) (by exact rfl) (by exact rfl) (by exact rfl)) ?_; (try simp only [nA, Nat.reduceBEq, Nat.reduceEqDiff, ↓reduceIte, Nat.reduceAdd, Nat.reduceSub])
  refine AWL.nil ?_
  exact RQ.of (.inr rfl) rfl .nil (by simp) rfl (one_out rfl)
set_option maxHeartbeats 8000000 in
theorem C53 {bs : BL} {p : Plate} (hb : bs.length ≤ 900000) : Fn Tryd.prog 53 [wB bs] [.ptr 0 0 0 0, .agg p.av] [] [wB (bs ++ ePl p)] := by
  have e : ([p.lead, p.airline, p.serial] : List Int).flatMap b4 = ePl p := by simp [ePl]
  have h := C89 (bs := bs) (xs := [p.lead, p.airline, p.serial]) hb (by simp)
  rw [e] at h
  exact C53v h
set_option maxHeartbeats 8000000 in
theorem C59v {b0 b1 b2 b3 b4 : BL} {f : Flight} (g0 : Fn Tryd.prog 52 [wB b0] [.ptr 0 0 0 0, .v (.string f.carrier)] [] [wB b1]) (g1 : Fn Tryd.prog 51 [wB b1] [.ptr 0 0 0 0, .v (.int .i64 f.number)] [] [wB b2]) (g2 : Fn Tryd.prog 52 [wB b2] [.ptr 0 0 0 0, .v (.string f.suffix)] [] [wB b3]) (g3 : Fn Tryd.prog 51 [wB b3] [.ptr 0 0 0 0, .v (.int .i64 f.day)] [] [wB b4]) :
    Fn Tryd.prog 59 [wB b0] [.ptr 0 0 0 0, .agg f.av] [] [wB b4] := by
  refine Spec.body Tryd.func59 rfl Tryd.ntmps59 (by simp) rfl ?_; intro S0 own0 v0 w0 gl
  (refine AW.seq_k ?_; intro K hK)
  refine AW.region ?_
  refine awJ (op_box rfl rfl rfl sz26 rfl) ?_; (simp only [nA, Nat.reduceBEq, Nat.reduceEqDiff, ↓reduceIte])
  refine AWL.nil ?_
  (refine hK _ ?_; clear hK K; (try simp only [nA, Nat.reduceBEq, Nat.reduceEqDiff, ↓reduceIte, Nat.reduceAdd, Nat.reduceSub]))
  (refine AW.seq_k ?_; intro K hK)
  refine AW.region ?_
  refine awP (op_move rfl rfl) ?_; (simp only [nA, ↓reduceIte])
  (refine awP (op_fa_ptr rfl rfl rfl fl26_0 (by exact sz9) (by decide) rfl) ?_); (try simp only [nA, Nat.reduceBEq, Nat.reduceEqDiff, ↓reduceIte, Nat.reduceAdd, Nat.reduceSub])
  (refine awR (op_load_ptr1 rfl rfl rfl rfl ag9 rfl rfl) ?_); (try simp only [nA, Nat.reduceBEq, Nat.reduceEqDiff, ↓reduceIte, Nat.reduceAdd, Nat.reduceSub])
  refine awJ (op_call1 rfl en52 g0 (by exact rfl) (RL.cons .ptr (RL.cons (.base (by exact View.same rfl)) (RL.nil))) (by exact ⟨_, _, _, rfl, rfl, rfl⟩) (by exact rfl) (by exact rfl) (by exact rfl)) ?_; (try simp only [nA, Nat.reduceBEq, Nat.reduceEqDiff, ↓reduceIte, Nat.reduceAdd, Nat.reduceSub])
  refine AWL.nil ?_
  (refine hK _ ?_; clear hK K; (skip))
  (refine AW.seq_k ?_; intro K hK)
  refine AW.region ?_
  refine awP (op_move rfl rfl) ?_; (simp only [nA, ↓reduceIte])
  (refine awP (op_fa_ptr rfl rfl rfl fl26_1 (by exact sz3) (by decide) rfl) ?_); (try simp only [nA, Nat.reduceBEq, Nat.reduceEqDiff, ↓reduceIte, Nat.reduceAdd, Nat.reduceSub])
  (refine awR (op_load_ptr1 rfl rfl rfl rfl ag3 rfl rfl) ?_); (try simp only [nA, Nat.reduceBEq, Nat.reduceEqDiff, ↓reduceIte, Nat.reduceAdd, Nat.reduceSub])
  refine awJ (op_call1 rfl en51 g1 (by exact rfl) (RL.cons .ptr (RL.cons (.base (by exact View.same rfl)) (RL.nil))) (by exact ⟨_, _, _, rfl, rfl, rfl⟩) (by exact rfl) (by exact rfl) (by exact rfl)) ?_; (try simp only [nA, Nat.reduceBEq, Nat.reduceEqDiff, ↓reduceIte, Nat.reduceAdd, Nat.reduceSub])
  refine AWL.nil ?_
  (refine hK _ ?_; clear hK K; (skip))
  (refine AW.seq_k ?_; intro K hK)
  refine AW.region ?_
  refine awP (op_move rfl rfl) ?_; (simp only [nA, ↓reduceIte])
  (refine awP (op_fa_ptr rfl rfl rfl fl26_2 (by exact sz9) (by decide) rfl) ?_); (try simp only [nA, Nat.reduceBEq, Nat.reduceEqDiff, ↓reduceIte, Nat.reduceAdd, Nat.reduceSub])
  (refine awR (op_load_ptr1 rfl rfl rfl rfl ag9 rfl rfl) ?_); (try simp only [nA, Nat.reduceBEq, Nat.reduceEqDiff, ↓reduceIte, Nat.reduceAdd, Nat.reduceSub])
  refine awJ (op_call1 rfl en52 g2 (by exact rfl) (RL.cons .ptr (RL.cons (.base (by exact View.same rfl)) (RL.nil))) (by exact ⟨_, _, _, rfl, rfl, rfl⟩) (by exact rfl) (by exact rfl) (by exact rfl)) ?_; (try simp only [nA, Nat.reduceBEq, Nat.reduceEqDiff, ↓reduceIte, Nat.reduceAdd, Nat.reduceSub])
  refine AWL.nil ?_
  (refine hK _ ?_; clear hK K; (skip))
  refine AW.region ?_
  refine awP (op_move rfl rfl) ?_; (simp only [nA, ↓reduceIte])
  (refine awP (op_fa_ptr rfl rfl rfl fl26_3 (by exact sz3) (by decide) rfl) ?_); (try simp only [nA, Nat.reduceBEq, Nat.reduceEqDiff, ↓reduceIte, Nat.reduceAdd, Nat.reduceSub])
  (refine awR (op_load_ptr1 rfl rfl rfl rfl ag3 rfl rfl) ?_); (try simp only [nA, Nat.reduceBEq, Nat.reduceEqDiff, ↓reduceIte, Nat.reduceAdd, Nat.reduceSub])
  refine awJ (op_call1 rfl en51 g3 (by exact rfl) (RL.cons .ptr (RL.cons (.base (by exact View.same rfl)) (RL.nil))) (by exact ⟨_, _, _, rfl, rfl, rfl⟩) (by exact rfl) (by exact rfl) (by exact rfl)) ?_; (try simp only [nA, Nat.reduceBEq, Nat.reduceEqDiff, ↓reduceIte, Nat.reduceAdd, Nat.reduceSub])
  refine AWL.nil ?_
  exact RQ.of (.inr rfl) rfl .nil (by simp) rfl (one_out rfl)
set_option maxHeartbeats 8000000 in
theorem C59 {bs : BL} {f : Flight} (hb : bs.length ≤ 800000) (h1 : f.carrier.size ≤ 1000) (h2 : f.suffix.size ≤ 1000) : Fn Tryd.prog 59 [wB bs] [.ptr 0 0 0 0, .agg f.av] [] [wB (bs ++ eFl f)] := by
  have e : bs ++ eFl f = (((bs ++ eWd f.carrier) ++ b4 f.number) ++ eWd f.suffix) ++ b4 f.day := by simp [eFl]
  have l1 := wd_len f.carrier
  have l2 := wd_len f.suffix
  rw [e]
  exact C59v (C52 (by omega) (by omega)) (C51 (by rw [List.length_append]; omega)) (C52 (by rw [List.length_append, List.length_append, b4_len]; omega) (by omega)) (C51 (by rw [List.length_append, List.length_append, List.length_append, b4_len]; omega))
set_option maxHeartbeats 8000000 in
theorem C57v {b0 b1 b2 b3 : BL} {o : Op} (g0 : Fn Tryd.prog 89 [wB b0] [.ptr 0 0 0 0, .ro (([o.time, o.device, o.seq, o.kind, o.cont] : List Int).map iv)] [] [wB b1]) (g1 : Fn Tryd.prog 53 [wB b1] [.ptr 0 0 0 0, .agg o.piece.plate.av] [] [wB b2])
    (g2 : Fn Tryd.prog 89 [wB b2] [.ptr 0 0 0 0, .ro (([o.piece.weight, o.piece.category] : List Int).map iv)] [] [wB b3]) : Fn Tryd.prog 57 [wB b0] [.ptr 0 0 0 0, .agg o.av] [] [wB b3] := by
  refine Spec.body Tryd.func57 rfl Tryd.ntmps57 (by simp) rfl ?_; intro S0 own0 v0 w0 gl
  (refine AW.seq_k ?_; intro K hK)
  refine AW.region ?_
  refine awJ (op_box rfl rfl rfl sz32 rfl) ?_; (simp only [nA, Nat.reduceBEq, Nat.reduceEqDiff, ↓reduceIte])
  refine AWL.nil ?_
  (refine hK _ ?_; clear hK K; (try simp only [nA, Nat.reduceBEq, Nat.reduceEqDiff, ↓reduceIte, Nat.reduceAdd, Nat.reduceSub]))
  (refine AW.seq_k ?_; intro K hK)
  refine AW.region ?_
  refine awP (op_move rfl rfl) ?_; (simp only [nA, ↓reduceIte])
  (refine awP (op_fa_ptr rfl rfl rfl fl32_0 (by exact sz3) (by decide) rfl) ?_); (try simp only [nA, Nat.reduceBEq, Nat.reduceEqDiff, ↓reduceIte, Nat.reduceAdd, Nat.reduceSub])
  (refine awR (op_load_ptr1 rfl rfl rfl rfl ag3 rfl rfl) ?_); (try simp only [nA, Nat.reduceBEq, Nat.reduceEqDiff, ↓reduceIte, Nat.reduceAdd, Nat.reduceSub])
  (refine awP (op_fa_ptr rfl rfl rfl fl32_1 (by exact sz3) (by decide) rfl) ?_); (try simp only [nA, Nat.reduceBEq, Nat.reduceEqDiff, ↓reduceIte, Nat.reduceAdd, Nat.reduceSub])
  (refine awR (op_load_ptr1 rfl rfl rfl rfl ag3 rfl rfl) ?_); (try simp only [nA, Nat.reduceBEq, Nat.reduceEqDiff, ↓reduceIte, Nat.reduceAdd, Nat.reduceSub])
  (refine awP (op_fa_ptr rfl rfl rfl fl32_2 (by exact sz3) (by decide) rfl) ?_); (try simp only [nA, Nat.reduceBEq, Nat.reduceEqDiff, ↓reduceIte, Nat.reduceAdd, Nat.reduceSub])
  (refine awR (op_load_ptr1 rfl rfl rfl rfl ag3 rfl rfl) ?_); (try simp only [nA, Nat.reduceBEq, Nat.reduceEqDiff, ↓reduceIte, Nat.reduceAdd, Nat.reduceSub])
  (refine awP (op_fa_ptr rfl rfl rfl fl32_3 (by exact sz3) (by decide) rfl) ?_); (try simp only [nA, Nat.reduceBEq, Nat.reduceEqDiff, ↓reduceIte, Nat.reduceAdd, Nat.reduceSub])
  (refine awR (op_load_ptr1 rfl rfl rfl rfl ag3 rfl rfl) ?_); (try simp only [nA, Nat.reduceBEq, Nat.reduceEqDiff, ↓reduceIte, Nat.reduceAdd, Nat.reduceSub])
  (refine awP (op_fa_ptr rfl rfl rfl fl32_4 (by exact sz3) (by decide) rfl) ?_); (try simp only [nA, Nat.reduceBEq, Nat.reduceEqDiff, ↓reduceIte, Nat.reduceAdd, Nat.reduceSub])
  (refine awR (op_load_ptr1 rfl rfl rfl rfl ag3 rfl rfl) ?_); (try simp only [nA, Nat.reduceBEq, Nat.reduceEqDiff, ↓reduceIte, Nat.reduceAdd, Nat.reduceSub])
  refine awJ (OpJ.frz (op_buildSlice rfl [(0, iv o.time), (1, iv o.device), (2, iv o.seq), (3, iv o.kind), (4, iv o.cont)] (([o.time, o.device, o.seq, o.kind, o.cont] : List Int).map iv) Tryd.underlying36 ze3 rfl (by simp) (fold_dense 1 (([o.time, o.device, o.seq, o.kind, o.cont] : List Int).map iv) (iv_len _)) (iv_len _) rfl (bl rfl) (by simp [maxLen])) (iv_flat [o.time, o.device, o.seq, o.kind, o.cont]) rfl) ?_; (try simp only [nA, Nat.reduceBEq, Nat.reduceEqDiff, ↓reduceIte, Nat.reduceAdd, Nat.reduceSub])
  refine awJ (op_call1 rfl en89 g0 (by exact rfl) (RL.cons .ptr (RL.cons (.base (by exact View.same rfl)) (RL.nil))) (by exact ⟨_, _, _, rfl, rfl, rfl⟩) (by exact rfl) (by exact rfl) (by exact rfl)) ?_; (try simp only [nA, Nat.reduceBEq, Nat.reduceEqDiff, ↓reduceIte, Nat.reduceAdd, Nat.reduceSub])
  refine AWL.nil ?_
  (refine hK _ ?_; clear hK K; (skip))
  (refine AW.seq_k ?_; intro K hK)
  refine AW.region ?_
  refine awP (op_move rfl rfl) ?_; (simp only [nA, ↓reduceIte])
  (refine awP (op_fa_ptr rfl rfl rfl fl32_5 (by exact sz30) (by decide) rfl) ?_); (try simp only [nA, Nat.reduceBEq, Nat.reduceEqDiff, ↓reduceIte, Nat.reduceAdd, Nat.reduceSub])
  (refine awP (op_fa_ptr rfl rfl rfl fl30_0 (by exact sz23) (by decide) rfl) ?_); (simp only [nA, Nat.reduceBEq, Nat.reduceEqDiff, ↓reduceIte])
  (refine awR (op_load_ptr rfl rfl rfl rfl ag23 sz23 (bl rfl) rfl) ?_); (try simp only [nA, Nat.reduceBEq, Nat.reduceEqDiff, ↓reduceIte, Nat.reduceAdd, Nat.reduceSub])
  refine awJ (op_call1 rfl en53 g1 (by exact rfl) (RL.cons .ptr (RL.cons (.base (by exact View.same rfl)) (RL.nil))) (by exact ⟨_, _, _, rfl, rfl, rfl⟩) (by exact rfl) (by exact rfl) (by exact rfl)) ?_; (try simp only [nA, Nat.reduceBEq, Nat.reduceEqDiff, ↓reduceIte, Nat.reduceAdd, Nat.reduceSub])
  refine AWL.nil ?_
  (refine hK _ ?_; clear hK K; (skip))
  refine AW.region ?_
  refine awP (op_move rfl rfl) ?_; (simp only [nA, ↓reduceIte])
  (refine awP (op_fa_ptr rfl rfl rfl fl32_5 (by exact sz30) (by decide) rfl) ?_); (try simp only [nA, Nat.reduceBEq, Nat.reduceEqDiff, ↓reduceIte, Nat.reduceAdd, Nat.reduceSub])
  (refine awP (op_fa_ptr rfl rfl rfl fl30_1 (by exact sz3) (by decide) rfl) ?_); (simp only [nA, Nat.reduceBEq, Nat.reduceEqDiff, ↓reduceIte])
  (refine awR (op_load_ptr1 rfl rfl rfl rfl ag3 rfl rfl) ?_); (try simp only [nA, Nat.reduceBEq, Nat.reduceEqDiff, ↓reduceIte, Nat.reduceAdd, Nat.reduceSub])
  (refine awP (op_fa_ptr rfl rfl rfl fl32_5 (by exact sz30) (by decide) rfl) ?_); (try simp only [nA, Nat.reduceBEq, Nat.reduceEqDiff, ↓reduceIte, Nat.reduceAdd, Nat.reduceSub])
  (refine awP (op_fa_ptr rfl rfl rfl fl30_2 (by exact sz3) (by decide) rfl) ?_); (simp only [nA, Nat.reduceBEq, Nat.reduceEqDiff, ↓reduceIte])
  (refine awR (op_load_ptr1 rfl rfl rfl rfl ag3 rfl rfl) ?_); (try simp only [nA, Nat.reduceBEq, Nat.reduceEqDiff, ↓reduceIte, Nat.reduceAdd, Nat.reduceSub])
  refine awJ (OpJ.frz (op_buildSlice rfl [(0, iv o.piece.weight), (1, iv o.piece.category)] (([o.piece.weight, o.piece.category] : List Int).map iv) Tryd.underlying36 ze3 rfl (by simp) (fold_dense 1 (([o.piece.weight, o.piece.category] : List Int).map iv) (iv_len _)) (iv_len _) rfl (bl rfl) (by simp [maxLen])) (iv_flat [o.piece.weight, o.piece.category]) rfl) ?_; (try simp only [nA, Nat.reduceBEq, Nat.reduceEqDiff, ↓reduceIte, Nat.reduceAdd, Nat.reduceSub])
  refine awJ (op_call1 rfl en89 g2 (by exact rfl) (RL.cons .ptr (RL.cons (.base (by exact View.same rfl)) (RL.nil))) (by exact ⟨_, _, _, rfl, rfl, rfl⟩) (by exact rfl) (by exact rfl) (by exact rfl)) ?_; (try simp only [nA, Nat.reduceBEq, Nat.reduceEqDiff, ↓reduceIte, Nat.reduceAdd, Nat.reduceSub])
  refine AWL.nil ?_
  exact RQ.of (.inr rfl) rfl .nil (by simp) rfl (one_out rfl)
set_option maxHeartbeats 8000000 in
theorem C57 {bs : BL} {o : Op} (hb : bs.length ≤ 800000) : Fn Tryd.prog 57 [wB bs] [.ptr 0 0 0 0, .agg o.av] [] [wB (bs ++ eOp o)] := by
  have e : bs ++ eOp o = ((bs ++ ([o.time, o.device, o.seq, o.kind, o.cont] : List Int).flatMap b4) ++ ePl o.piece.plate) ++ ([o.piece.weight, o.piece.category] : List Int).flatMap b4 := by simp [eOp, ePi]
  have l1 := flat_b4 [o.time, o.device, o.seq, o.kind, o.cont]
  have l2 := pl_len o.piece.plate
  simp only [List.length_cons, List.length_nil] at l1
  rw [e]
  exact C57v (C89 (by omega) (by simp)) (C53 (by rw [List.length_append, l1]; omega)) (C89 (by rw [List.length_append, List.length_append, l1, l2]; omega) (by simp))
set_option maxHeartbeats 8000000 in
theorem C56v {b0 b1 b2 : BL} {x : Ev} (g0 : Fn Tryd.prog 89 [wB b0] [.ptr 0 0 0 0, .ro (([x.rev.kind, x.rev.amount] : List Int).map iv)] [] [wB b1]) (g1 : Fn Tryd.prog 59 [wB b1] [.ptr 0 0 0 0, .agg x.rev.fl.av] [] [wB b2]) : Fn Tryd.prog 56 [wB b0] [.ptr 0 0 0 0, .agg x.av] [] [wB b2] := by
  refine Spec.body Tryd.func56 rfl Tryd.ntmps56 (by simp) rfl ?_; intro S0 own0 v0 w0 gl
  (refine AW.seq_k ?_; intro K hK)
  refine AW.region ?_
  refine awJ (op_box rfl rfl rfl sz35 rfl) ?_; (simp only [nA, Nat.reduceBEq, Nat.reduceEqDiff, ↓reduceIte])
  refine AWL.nil ?_
  (refine hK _ ?_; clear hK K; (try simp only [nA, Nat.reduceBEq, Nat.reduceEqDiff, ↓reduceIte, Nat.reduceAdd, Nat.reduceSub]))
  (refine AW.seq_k ?_; intro K hK)
  refine AW.region ?_
  refine awP (op_move rfl rfl) ?_; (simp only [nA, ↓reduceIte])
  (refine awP (op_fa_ptr rfl rfl rfl fl35_8 (by exact sz28) (by decide) rfl) ?_); (try simp only [nA, Nat.reduceBEq, Nat.reduceEqDiff, ↓reduceIte, Nat.reduceAdd, Nat.reduceSub])
  (refine awP (op_fa_ptr rfl rfl rfl fl28_0 (by exact sz3) (by decide) rfl) ?_); (simp only [nA, Nat.reduceBEq, Nat.reduceEqDiff, ↓reduceIte])
  (refine awR (op_load_ptr1 rfl rfl rfl rfl ag3 rfl rfl) ?_); (try simp only [nA, Nat.reduceBEq, Nat.reduceEqDiff, ↓reduceIte, Nat.reduceAdd, Nat.reduceSub])
  (refine awP (op_fa_ptr rfl rfl rfl fl35_8 (by exact sz28) (by decide) rfl) ?_); (try simp only [nA, Nat.reduceBEq, Nat.reduceEqDiff, ↓reduceIte, Nat.reduceAdd, Nat.reduceSub])
  (refine awP (op_fa_ptr rfl rfl rfl fl28_1 (by exact sz3) (by decide) rfl) ?_); (simp only [nA, Nat.reduceBEq, Nat.reduceEqDiff, ↓reduceIte])
  (refine awR (op_load_ptr1 rfl rfl rfl rfl ag3 rfl rfl) ?_); (try simp only [nA, Nat.reduceBEq, Nat.reduceEqDiff, ↓reduceIte, Nat.reduceAdd, Nat.reduceSub])
  refine awJ (OpJ.frz (op_buildSlice rfl [(0, iv x.rev.kind), (1, iv x.rev.amount)] (([x.rev.kind, x.rev.amount] : List Int).map iv) Tryd.underlying36 ze3 rfl (by simp) (fold_dense 1 (([x.rev.kind, x.rev.amount] : List Int).map iv) (iv_len _)) (iv_len _) rfl (bl rfl) (by simp [maxLen])) (iv_flat [x.rev.kind, x.rev.amount]) rfl) ?_; (try simp only [nA, Nat.reduceBEq, Nat.reduceEqDiff, ↓reduceIte, Nat.reduceAdd, Nat.reduceSub])
  refine awJ (op_call1 rfl en89 g0 (by exact rfl) (RL.cons .ptr (RL.cons (.base (by exact View.same rfl)) (RL.nil))) (by exact ⟨_, _, _, rfl, rfl, rfl⟩) (by exact rfl) (by exact rfl) (by exact rfl)) ?_; (try simp only [nA, Nat.reduceBEq, Nat.reduceEqDiff, ↓reduceIte, Nat.reduceAdd, Nat.reduceSub])
  refine AWL.nil ?_
  (refine hK _ ?_; clear hK K; (skip))
  refine AW.region ?_
  refine awP (op_move rfl rfl) ?_; (simp only [nA, ↓reduceIte])
  (refine awP (op_fa_ptr rfl rfl rfl fl35_8 (by exact sz28) (by decide) rfl) ?_); (try simp only [nA, Nat.reduceBEq, Nat.reduceEqDiff, ↓reduceIte, Nat.reduceAdd, Nat.reduceSub])
  (refine awP (op_fa_ptr rfl rfl rfl fl28_2 (by exact sz26) (by decide) rfl) ?_); (simp only [nA, Nat.reduceBEq, Nat.reduceEqDiff, ↓reduceIte])
  (refine awR (op_load_ptr rfl rfl rfl rfl ag26 sz26 (bl rfl) rfl) ?_); (try simp only [nA, Nat.reduceBEq, Nat.reduceEqDiff, ↓reduceIte, Nat.reduceAdd, Nat.reduceSub])
  refine awJ (op_call1 rfl en59 g1 (by exact rfl) (RL.cons .ptr (RL.cons (.base (by exact View.same rfl)) (RL.nil))) (by exact ⟨_, _, _, rfl, rfl, rfl⟩) (by exact rfl) (by exact rfl) (by exact rfl)) ?_; (try simp only [nA, Nat.reduceBEq, Nat.reduceEqDiff, ↓reduceIte, Nat.reduceAdd, Nat.reduceSub])
  refine AWL.nil ?_
  exact RQ.of (.inr rfl) rfl .nil (by simp) rfl (one_out rfl)
set_option maxHeartbeats 8000000 in
theorem C56 {bs : BL} {x : Ev} (hb : bs.length ≤ 700000) (h1 : x.rev.fl.carrier.size ≤ 1000) (h2 : x.rev.fl.suffix.size ≤ 1000) : Fn Tryd.prog 56 [wB bs] [.ptr 0 0 0 0, .agg x.av] [] [wB (bs ++ eRv x.rev)] := by
  have e : bs ++ eRv x.rev = (bs ++ ([x.rev.kind, x.rev.amount] : List Int).flatMap b4) ++ eFl x.rev.fl := by simp [eRv]
  have l1 := flat_b4 [x.rev.kind, x.rev.amount]
  simp only [List.length_cons, List.length_nil] at l1
  rw [e]
  exact C56v (C89 (by omega) (by simp)) (C59 (by rw [List.length_append, l1]; omega) h1 h2)
end Go.Proofs.YtfmnaigedgmhoaaDoor
namespace Go.Proofs.YtfmnaigedgmhoaaDoor
open Go.RowKit
set_option linter.unusedSimpArgs false
set_option linter.unusedVariables false
set_option maxRecDepth 100000
theorem take_flatG {α : Type} [Inhabited α] {e : α → BL} {bs : BL} {xs : List α} {i : Nat} (h : i < xs.length) : (bs ++ (xs.take i).flatMap e) ++ e (xs.getD i default) = bs ++ (xs.take (i + 1)).flatMap e := by
  rw [List.take_add_one, List.getElem?_eq_getElem h, getD_of h, List.flatMap_append, List.append_assoc]
  congr 2
  exact (List.append_nil _).symm
theorem flatTk {α : Type} {e : α → BL} {xs : List α} {k i : Nat} (h : ∀ x ∈ xs, (e x).length ≤ k) : ((xs.take i).flatMap e).length ≤ xs.length * k :=
  Nat.le_trans (flatB_len fun x hx => h x (List.mem_of_mem_take hx)) (Nat.mul_le_mul_right k (by rw [List.length_take]; omega))
set_option maxHeartbeats 8000000 in
theorem C58 {bs : BL} {x : Ev} (hb : bs.length ≤ 10000) (ho : x.ops.length ≤ 60) : Fn Tryd.prog 58 [wB bs] [.ptr 0 0 0 0, .agg x.av] [] [wB (bs ++ eLs eOp x.ops)] := by
  refine Spec.body Tryd.func58 rfl Tryd.ntmps58 (by simp) rfl ?_; intro S0 own0 v0 w0 gl
  (refine AW.seq_k ?_; intro K hK)
  refine AW.region ?_
  refine awJ (op_box rfl rfl rfl sz35 rfl) ?_; (simp only [nA, Nat.reduceBEq, Nat.reduceEqDiff, ↓reduceIte])
  refine AWL.nil ?_
  (refine hK _ ?_; clear hK K; (try simp only [nA, Nat.reduceBEq, Nat.reduceEqDiff, ↓reduceIte, Nat.reduceAdd, Nat.reduceSub]))
  (refine AW.seq_k ?_; intro K hK)
  refine AW.region ?_
  refine awP (op_move rfl rfl) ?_; (simp only [nA, ↓reduceIte])
  (refine awP (op_fa_ptr rfl rfl rfl fl35_11 (by exact sz33) (by decide) rfl) ?_); (try simp only [nA, Nat.reduceBEq, Nat.reduceEqDiff, ↓reduceIte, Nat.reduceAdd, Nat.reduceSub])
  (refine awR (op_load_ptr1 rfl rfl rfl rfl ag33 rfl rfl) ?_); (try simp only [nA, Nat.reduceBEq, Nat.reduceEqDiff, ↓reduceIte, Nat.reduceAdd, Nat.reduceSub])
  refine awP (op_len_ro (n := x.ops.length) rfl rfl Tryd.underlying33 (.inr (.inl ⟨_, rfl, by simp⟩))) ?_; (try simp only [nA, Nat.reduceBEq, Nat.reduceEqDiff, ↓reduceIte, Nat.reduceAdd, Nat.reduceSub])
  refine awJ (op_call1 rfl en51 (C51 (bs := bs) (n := (x.ops.length : Nat)) (by omega)) (by exact rfl) (RL.cons .ptr (RL.cons (.base (by exact View.same rfl)) (RL.nil))) (by exact ⟨_, _, _, rfl, rfl, rfl⟩) (by exact rfl) (by exact rfl) (by exact rfl)) ?_; (try simp only [nA, Nat.reduceBEq, Nat.reduceEqDiff, ↓reduceIte, Nat.reduceAdd, Nat.reduceSub])
  refine AWL.nil ?_
  (refine hK _ ?_; clear hK K; (skip))
  (refine AW.seq_k ?_; intro K hK)
  refine AW.region ?_
  (refine awP (op_fa_ptr rfl rfl rfl fl35_11 (by exact sz33) (by decide) rfl) ?_); (try simp only [nA, Nat.reduceBEq, Nat.reduceEqDiff, ↓reduceIte, Nat.reduceAdd, Nat.reduceSub])
  (refine awR (op_load_ptr1 rfl rfl rfl rfl ag33 rfl rfl) ?_); (try simp only [nA, Nat.reduceBEq, Nat.reduceEqDiff, ↓reduceIte, Nat.reduceAdd, Nat.reduceSub])
  refine awP (op_len_ro (n := x.ops.length) rfl rfl Tryd.underlying33 (.inr (.inl ⟨_, rfl, by simp⟩))) ?_; (try simp only [nA, Nat.reduceBEq, Nat.reduceEqDiff, ↓reduceIte, Nat.reduceAdd, Nat.reduceSub])
  refine awP (op_move rfl rfl) ?_; (try simp only [nA, Nat.reduceBEq, Nat.reduceEqDiff, ↓reduceIte, Nat.reduceAdd, Nat.reduceSub])
  refine AWL.nil ?_
  (refine hK _ ?_; clear hK K; (skip))
  refine AW.block ?_
  refine AW.loopI (fun (q : Nat × Nat) => [(0, .ptr 0 0 0 0), (12, .ro (x.ops.map Op.av)), (13, .v (.int .i64 x.ops.length)), (14, .v (.int .i64 (q.1 : Nat)))]) (fun q => ⟨[(0, wB ((bs ++ b4 (x.ops.length : Nat)) ++ (x.ops.take q.1).flatMap eOp)), (1, .own 35 [x.av])], q.2⟩) (fun q => q.1 ≤ x.ops.length) (fun q => x.ops.length - q.1) (0, 2) (by simp) ⟨rfl, rfl, rfl, rfl, trivial⟩ (by simp) ?_; rintro ⟨i, ep⟩ ρ hi; dsimp only at hi ⊢; simp only [updL]; have hfl := flatTk (xs := x.ops) (e := eOp) (k := 40) (i := i) fun o _ => by rw [op_len]; omega
  (refine AW.seq_k ?_; intro K hK)
  refine AW.region ?_
  refine awP (op_lss rfl rfl rfl) ?_; (try simp only [nA, Nat.reduceBEq, Nat.reduceEqDiff, ↓reduceIte, Nat.reduceAdd, Nat.reduceSub])
  refine AWL.nil ?_
  (refine hK _ ?_; clear hK K; (skip))
  (refine AW.seq_k ?_; intro K hK)
  refine AW.cond rfl rfl rfl (fun hc => ?_) (fun hc => ?_)
  ·
   have hc1 := hc; have hlt : i < x.ops.length := (by simpa using hc1)
   refine AW.skip ?_
   (refine hK _ ?_; clear hK K; (skip))
   (refine AW.seq_k ?_; intro K hK)
   refine AW.block ?_
   (refine AW.seq_k ?_; intro K hK)
   refine AW.region ?_
   refine awP (op_ia_ro i rfl (.inl rfl) rfl Tryd.underlying33 rfl (get_mapD (by omega)) (by exact sz32) (bl rfl)) ?_; (try simp only [nA, Nat.reduceBEq, Nat.reduceEqDiff, ↓reduceIte, Nat.reduceAdd, Nat.reduceSub])
   (refine awR (op_load_rop rfl rfl ag32 sz32 (bl rfl) (by decide) rfl) ?_); (try simp only [nA, Nat.reduceBEq, Nat.reduceEqDiff, ↓reduceIte, Nat.reduceAdd, Nat.reduceSub])
   refine awJ (op_alloc rfl ze32 rfl) ?_; (simp only [nA, Nat.reduceBEq, Nat.reduceEqDiff, ↓reduceIte])
   refine awJ (op_store rfl rfl rfl rfl rfl rfl sz32 rfl (bl rfl) rfl) ?_; (simp only [nA, Nat.reduceBEq, Nat.reduceEqDiff, ↓reduceIte])
   refine AWL.nil ?_
   (refine hK _ ?_; clear hK K; (skip))
   refine AW.region ?_
   refine awP (op_move rfl rfl) ?_; (simp only [nA, ↓reduceIte])
   (refine awR (op_load_ptr rfl rfl rfl rfl ag32 sz32 (bl rfl) rfl) ?_); (try simp only [nA, Nat.reduceBEq, Nat.reduceEqDiff, ↓reduceIte, Nat.reduceAdd, Nat.reduceSub])
   refine awJ (op_call1 rfl en57 (C57 (bs := (bs ++ b4 (x.ops.length : Nat)) ++ (x.ops.take i).flatMap eOp) (o := x.ops.getD i default) (by rw [List.length_append, List.length_append, b4_len]; omega)) (by exact rfl) (RL.cons .ptr (RL.cons (.base (by exact View.same rfl)) (RL.nil))) (by exact ⟨_, _, _, rfl, rfl, rfl⟩) (by exact rfl) (by exact rfl) (by exact rfl)) ?_; (try simp only [nA, Nat.reduceBEq, Nat.reduceEqDiff, ↓reduceIte, Nat.reduceAdd, Nat.reduceSub])
   refine AWL.nil ?_
   (try simp only [thenE, inBlk, Nat.reduceEqDiff, ↓reduceIte])
   (refine hK _ ?_; clear hK K; (skip))
   refine AW.region ?_
   (refine awP (op_addi rfl rfl rfl (by omega)) ?_); (try simp only [nA, Nat.reduceBEq, Nat.reduceEqDiff, ↓reduceIte, Nat.reduceAdd, Nat.reduceSub])
   refine awP (op_move rfl rfl) ?_; (simp only [nA])
   refine AWL.gh (Gh.drop 2) ?_; (try simp only [nA, Nat.reduceBEq, Nat.reduceEqDiff, ↓reduceIte, Nat.reduceAdd, Nat.reduceSub])
   refine AWL.nil ?_
   refine ⟨(i + 1, _), by dsimp only; omega, by dsimp only; omega, ⟨rfl, rfl, rfl, by dsimp only; exact congrArg (fun z => AV.v (.int .i64 z)) (by omega), trivial⟩, congrArg (fun z => (⟨[(0, wB z), (1, .own 35 [x.av])], _⟩ : Sl)) (take_flatG hlt), (by rfl)⟩
  have hc1 := hc; have hnl : ¬ i < x.ops.length := (by simpa using hc1); rw [show x.ops.take i = x.ops from List.take_of_length_le (by omega)]
  refine AW.exit ?_; (try simp only [thenE, inBlk, Nat.reduceEqDiff, ↓reduceIte])
  clear hK K
  show RQ _ _ _ _ _ _; rw [show bs ++ eLs eOp x.ops = (bs ++ b4 (x.ops.length : Nat)) ++ x.ops.flatMap eOp by simp [eLs]]; exact RQ.of (.inr rfl) rfl .nil (by simp) rfl (one_out rfl)
set_option maxHeartbeats 8000000 in
theorem C55 {bs : BL} {x : Ev} (hb : bs.length ≤ 10000) (hr : x.reports.length ≤ 24) (hp : x.reports.all rpB = true) : Fn Tryd.prog 55 [wB bs] [.ptr 0 0 0 0, .agg x.av] [] [wB (bs ++ eLs eRp x.reports)] := by
  refine Spec.body Tryd.func55 rfl Tryd.ntmps55 (by simp) rfl ?_; intro S0 own0 v0 w0 gl
  (refine AW.seq_k ?_; intro K hK)
  refine AW.region ?_
  refine awJ (op_box rfl rfl rfl sz35 rfl) ?_; (simp only [nA, Nat.reduceBEq, Nat.reduceEqDiff, ↓reduceIte])
  refine AWL.nil ?_
  (refine hK _ ?_; clear hK K; (try simp only [nA, Nat.reduceBEq, Nat.reduceEqDiff, ↓reduceIte, Nat.reduceAdd, Nat.reduceSub]))
  (refine AW.seq_k ?_; intro K hK)
  refine AW.region ?_
  refine awP (op_move rfl rfl) ?_; (simp only [nA, ↓reduceIte])
  (refine awP (op_fa_ptr rfl rfl rfl fl35_7 (by exact sz24) (by decide) rfl) ?_); (try simp only [nA, Nat.reduceBEq, Nat.reduceEqDiff, ↓reduceIte, Nat.reduceAdd, Nat.reduceSub])
  (refine awR (op_load_ptr1 rfl rfl rfl rfl ag24 rfl rfl) ?_); (try simp only [nA, Nat.reduceBEq, Nat.reduceEqDiff, ↓reduceIte, Nat.reduceAdd, Nat.reduceSub])
  refine awP (op_len_ro (n := x.reports.length) rfl rfl Tryd.underlying24 (.inr (.inl ⟨_, rfl, by simp⟩))) ?_; (try simp only [nA, Nat.reduceBEq, Nat.reduceEqDiff, ↓reduceIte, Nat.reduceAdd, Nat.reduceSub])
  refine awJ (op_call1 rfl en51 (C51 (bs := bs) (n := (x.reports.length : Nat)) (by omega)) (by exact rfl) (RL.cons .ptr (RL.cons (.base (by exact View.same rfl)) (RL.nil))) (by exact ⟨_, _, _, rfl, rfl, rfl⟩) (by exact rfl) (by exact rfl) (by exact rfl)) ?_; (try simp only [nA, Nat.reduceBEq, Nat.reduceEqDiff, ↓reduceIte, Nat.reduceAdd, Nat.reduceSub])
  refine AWL.nil ?_
  (refine hK _ ?_; clear hK K; (skip))
  (refine AW.seq_k ?_; intro K hK)
  refine AW.region ?_
  (refine awP (op_fa_ptr rfl rfl rfl fl35_7 (by exact sz24) (by decide) rfl) ?_); (try simp only [nA, Nat.reduceBEq, Nat.reduceEqDiff, ↓reduceIte, Nat.reduceAdd, Nat.reduceSub])
  (refine awR (op_load_ptr1 rfl rfl rfl rfl ag24 rfl rfl) ?_); (try simp only [nA, Nat.reduceBEq, Nat.reduceEqDiff, ↓reduceIte, Nat.reduceAdd, Nat.reduceSub])
  refine awP (op_len_ro (n := x.reports.length) rfl rfl Tryd.underlying24 (.inr (.inl ⟨_, rfl, by simp⟩))) ?_; (try simp only [nA, Nat.reduceBEq, Nat.reduceEqDiff, ↓reduceIte, Nat.reduceAdd, Nat.reduceSub])
  refine awP (op_move rfl rfl) ?_; (try simp only [nA, Nat.reduceBEq, Nat.reduceEqDiff, ↓reduceIte, Nat.reduceAdd, Nat.reduceSub])
  refine AWL.nil ?_
  (refine hK _ ?_; clear hK K; (skip))
  refine AW.block ?_
  refine AW.loopI (fun (q : Nat × Nat) => [(0, .ptr 0 0 0 0), (12, .ro (x.reports.map Report.av)), (13, .v (.int .i64 x.reports.length)), (14, .v (.int .i64 (q.1 : Nat)))]) (fun q => ⟨[(0, wB ((bs ++ b4 (x.reports.length : Nat)) ++ (x.reports.take q.1).flatMap eRp)), (1, .own 35 [x.av])], q.2⟩) (fun q => q.1 ≤ x.reports.length) (fun q => x.reports.length - q.1) (0, 2) (by simp) ⟨rfl, rfl, rfl, rfl, trivial⟩ (by simp) ?_; rintro ⟨i, ep⟩ ρ hi; dsimp only at hi ⊢; simp only [updL]; have hfl := flatTk (xs := x.reports) (e := eRp) (k := 19) (i := i) fun r hr => rp_len (List.all_eq_true.1 hp r hr)
  (refine AW.seq_k ?_; intro K hK)
  refine AW.region ?_
  refine awP (op_lss rfl rfl rfl) ?_; (try simp only [nA, Nat.reduceBEq, Nat.reduceEqDiff, ↓reduceIte, Nat.reduceAdd, Nat.reduceSub])
  refine AWL.nil ?_
  (refine hK _ ?_; clear hK K; (skip))
  (refine AW.seq_k ?_; intro K hK)
  refine AW.cond rfl rfl rfl (fun hc => ?_) (fun hc => ?_)
  ·
   have hc1 := hc; have hlt : i < x.reports.length := (by simpa using hc1); have hrd : (x.reports.getD i default).read.size ≤ 10 := (rp_good (List.all_eq_true.1 hp _ (by rw [getD_of hlt]; exact List.getElem_mem hlt))).2; have hcl : (((bs ++ b4 (x.reports.length : Nat)) ++ (x.reports.take i).flatMap eRp)).length ≤ 10000 + 4 + 24 * 19 := (by rw [List.length_append, List.length_append, b4_len]; omega); obtain ⟨rv, hrv⟩ : ∃ rv, rv = (x.reports.getD i default) := ⟨_, rfl⟩; rw [← hrv] at hrd; obtain ⟨cb, hcb⟩ : ∃ cb, cb = ((bs ++ b4 (x.reports.length : Nat)) ++ (x.reports.take i).flatMap eRp) := ⟨_, rfl⟩; rw [← hcb] at hcl; have g0 := C51 (bs := cb) (n := rv.device) (by omega); have g1 := C54 (bs := cb ++ b4 rv.device) (yes := rv.seen) (by rw [List.length_append, b4_len]; omega); have g2 := C52 (bs := (cb ++ b4 rv.device) ++ eTr rv.seen) (s := rv.read) (by rw [List.length_append, List.length_append, b4_len]; show _ + 1 ≤ _; omega) (by omega); generalize hB1 : cb ++ b4 rv.device = B1 at g0 g1 g2; generalize hB2 : B1 ++ eTr rv.seen = B2 at g1 g2; generalize hB3 : B2 ++ eWd rv.read = B3 at g2; have hB : B3 = (bs ++ b4 (x.reports.length : Nat)) ++ (x.reports.take (i + 1)).flatMap eRp := (by rw [← take_flatG hlt, ← hB3, ← hB2, ← hB1, hcb, ← hrv]; simp [eRp]); rw [hcb, hrv] at *
   refine AW.skip ?_
   (refine hK _ ?_; clear hK K; (skip))
   (refine AW.seq_k ?_; intro K hK)
   refine AW.block ?_
   (refine AW.seq_k ?_; intro K hK)
   refine AW.region ?_
   refine awP (op_ia_ro i rfl (.inl rfl) rfl Tryd.underlying24 rfl (get_mapD (by omega)) (by exact sz66) (bl rfl)) ?_; (try simp only [nA, Nat.reduceBEq, Nat.reduceEqDiff, ↓reduceIte, Nat.reduceAdd, Nat.reduceSub])
   (refine awR (op_load_rop rfl rfl ag66 sz66 (bl rfl) (by decide) rfl) ?_); (try simp only [nA, Nat.reduceBEq, Nat.reduceEqDiff, ↓reduceIte, Nat.reduceAdd, Nat.reduceSub])
   refine awJ (op_alloc rfl ze66 rfl) ?_; (simp only [nA, Nat.reduceBEq, Nat.reduceEqDiff, ↓reduceIte])
   refine awJ (op_store rfl rfl rfl rfl rfl rfl sz66 rfl (bl rfl) rfl) ?_; (simp only [nA, Nat.reduceBEq, Nat.reduceEqDiff, ↓reduceIte])
   refine AWL.nil ?_
   (refine hK _ ?_; clear hK K; (skip))
   (refine AW.seq_k ?_; intro K hK)
   refine AW.region ?_
   refine awP (op_move rfl rfl) ?_; (simp only [nA, ↓reduceIte])
   (refine awP (op_fa_ptr rfl rfl rfl fl66_0 (by exact sz3) (by decide) rfl) ?_); (try simp only [nA, Nat.reduceBEq, Nat.reduceEqDiff, ↓reduceIte, Nat.reduceAdd, Nat.reduceSub])
   (refine awR (op_load_ptr1 rfl rfl rfl rfl ag3 rfl rfl) ?_); (try simp only [nA, Nat.reduceBEq, Nat.reduceEqDiff, ↓reduceIte, Nat.reduceAdd, Nat.reduceSub])
   refine awJ (op_call1 rfl en51 g0 (by exact rfl) (RL.cons .ptr (RL.cons (.base (by exact View.same rfl)) (RL.nil))) (by exact ⟨_, _, _, rfl, rfl, rfl⟩) (by exact rfl) (by exact rfl) (by exact rfl)) ?_; (try simp only [nA, Nat.reduceBEq, Nat.reduceEqDiff, ↓reduceIte, Nat.reduceAdd, Nat.reduceSub])
   refine AWL.nil ?_
   (refine hK _ ?_; clear hK K; (skip))
   (refine AW.seq_k ?_; intro K hK)
   refine AW.region ?_
   refine awP (op_move rfl rfl) ?_; (simp only [nA, ↓reduceIte])
   (refine awP (op_fa_ptr rfl rfl rfl fl66_1 (by exact sz4) (by decide) rfl) ?_); (try simp only [nA, Nat.reduceBEq, Nat.reduceEqDiff, ↓reduceIte, Nat.reduceAdd, Nat.reduceSub])
   (refine awR (op_load_ptr1 rfl rfl rfl rfl ag4 rfl rfl) ?_); (try simp only [nA, Nat.reduceBEq, Nat.reduceEqDiff, ↓reduceIte, Nat.reduceAdd, Nat.reduceSub])
   refine awJ (op_call1 rfl en54 g1 (by exact rfl) (RL.cons .ptr (RL.cons (.base (by exact View.same rfl)) (RL.nil))) (by exact ⟨_, _, _, rfl, rfl, rfl⟩) (by exact rfl) (by exact rfl) (by exact rfl)) ?_; (try simp only [nA, Nat.reduceBEq, Nat.reduceEqDiff, ↓reduceIte, Nat.reduceAdd, Nat.reduceSub])
   refine AWL.nil ?_
   (refine hK _ ?_; clear hK K; (skip))
   refine AW.region ?_
   refine awP (op_move rfl rfl) ?_; (simp only [nA, ↓reduceIte])
   (refine awP (op_fa_ptr rfl rfl rfl fl66_2 (by exact sz9) (by decide) rfl) ?_); (try simp only [nA, Nat.reduceBEq, Nat.reduceEqDiff, ↓reduceIte, Nat.reduceAdd, Nat.reduceSub])
   (refine awR (op_load_ptr1 rfl rfl rfl rfl ag9 rfl rfl) ?_); (try simp only [nA, Nat.reduceBEq, Nat.reduceEqDiff, ↓reduceIte, Nat.reduceAdd, Nat.reduceSub])
   refine awJ (op_call1 rfl en52 g2 (by exact rfl) (RL.cons .ptr (RL.cons (.base (by exact View.same rfl)) (RL.nil))) (by exact ⟨_, _, _, rfl, rfl, rfl⟩) (by exact rfl) (by exact rfl) (by exact rfl)) ?_; (try simp only [nA, Nat.reduceBEq, Nat.reduceEqDiff, ↓reduceIte, Nat.reduceAdd, Nat.reduceSub])
   refine AWL.nil ?_
   (try simp only [thenE, inBlk, Nat.reduceEqDiff, ↓reduceIte])
   (refine hK _ ?_; clear hK K; (skip))
   refine AW.region ?_
   (refine awP (op_addi rfl rfl rfl (by omega)) ?_); (try simp only [nA, Nat.reduceBEq, Nat.reduceEqDiff, ↓reduceIte, Nat.reduceAdd, Nat.reduceSub])
   refine awP (op_move rfl rfl) ?_; (simp only [nA])
   refine AWL.gh (Gh.drop 2) ?_; (try simp only [nA, Nat.reduceBEq, Nat.reduceEqDiff, ↓reduceIte, Nat.reduceAdd, Nat.reduceSub])
   refine AWL.nil ?_
   refine ⟨(i + 1, _), by dsimp only; omega, by dsimp only; omega, ⟨rfl, rfl, rfl, by dsimp only; exact congrArg (fun z => AV.v (.int .i64 z)) (by omega), trivial⟩, congrArg (fun z => (⟨[(0, wB z), (1, .own 35 [x.av])], _⟩ : Sl)) hB, (by rfl)⟩
  have hc1 := hc; have hnl : ¬ i < x.reports.length := (by simpa using hc1); rw [show x.reports.take i = x.reports from List.take_of_length_le (by omega)]
  refine AW.exit ?_; (try simp only [thenE, inBlk, Nat.reduceEqDiff, ↓reduceIte])
  clear hK K
  show RQ _ _ _ _ _ _; rw [show bs ++ eLs eRp x.reports = (bs ++ b4 (x.reports.length : Nat)) ++ x.reports.flatMap eRp by simp [eLs]]; exact RQ.of (.inr rfl) rfl .nil (by simp) rfl (one_out rfl)
structure Ev.Wr (x : Ev) (p : Nat) : Prop where
  t : x.text.size ≤ 2048
  r : x.reports.length ≤ 24
  o : x.ops.length ≤ 60
  pr : prB x p = true
theorem ePart_rest {x : Ev} {p : Nat} (h : 12 ≤ p) : ePart x p = [] := by
  obtain ⟨n, rfl⟩ : ∃ n, p = n + 12 := ⟨p - 12, by omega⟩
  rfl
set_option maxHeartbeats 8000000 in
theorem C30 {bs : BL} {x : Ev} {p : Nat} (hb : bs.length ≤ 10000) (hx : x.Wr p) : Fn Tryd.prog 30 [wB bs] [.ptr 0 0 0 0, .agg x.av, .v (.int .i64 (p : Nat))] [] [wB (bs ++ ePart x p)] := by
  refine Spec.body Tryd.func30 rfl Tryd.ntmps30 (by simp) rfl ?_; intro S0 own0 v0 w0 gl
  (refine AW.seq_k ?_; intro K hK)
  refine AW.region ?_
  refine awJ (op_box rfl rfl rfl sz35 rfl) ?_; (simp only [nA, Nat.reduceBEq, Nat.reduceEqDiff, ↓reduceIte])
  refine AWL.nil ?_
  (refine hK _ ?_; clear hK K; (try simp only [nA, Nat.reduceBEq, Nat.reduceEqDiff, ↓reduceIte, Nat.reduceAdd, Nat.reduceSub]))
  (refine AW.seq_k ?_; intro K hK)
  refine AW.region ?_
  refine awP (op_move rfl rfl) ?_; (simp only [nA, ↓reduceIte])
  refine AWL.nil ?_
  (refine hK _ ?_; clear hK K; (skip))
  refine AW.block ?_
  (refine AW.seq_k ?_; intro K hK)
  refine AW.region ?_
  (refine awP (op_eql rfl rfl rfl) ?_); (try simp only [nA, Nat.reduceBEq, Nat.reduceEqDiff, ↓reduceIte, Nat.reduceAdd, Nat.reduceSub])
  refine awP (op_assign rfl rfl) ?_; (simp only [nA])
  refine AWL.nil ?_
  (refine hK _ ?_; clear hK K; (skip))
  refine AW.cond rfl rfl rfl (fun hc => ?_) (fun hc => ?_)
  ·
   have hc1 := hc; obtain rfl : p = 0 := (by have := of_decide_eq_true hc1; omega); have hpr := hx.pr
   refine AW.region ?_
   refine awP (op_move rfl rfl) ?_; (simp only [nA, ↓reduceIte])
   (refine awP (op_fa_ptr rfl rfl rfl fl35_1 (by exact sz3) (by decide) rfl) ?_); (try simp only [nA, Nat.reduceBEq, Nat.reduceEqDiff, ↓reduceIte, Nat.reduceAdd, Nat.reduceSub])
   (refine awR (op_load_ptr1 rfl rfl rfl rfl ag3 rfl rfl) ?_); (try simp only [nA, Nat.reduceBEq, Nat.reduceEqDiff, ↓reduceIte, Nat.reduceAdd, Nat.reduceSub])
   refine awJ (op_call1 rfl en51 (C51 (bs := bs) (n := x.time) (by omega)) (by exact rfl) (RL.cons .ptr (RL.cons (.base (by exact View.same rfl)) (RL.nil))) (by exact ⟨_, _, _, rfl, rfl, rfl⟩) (by exact rfl) (by exact rfl) (by exact rfl)) ?_; (try simp only [nA, Nat.reduceBEq, Nat.reduceEqDiff, ↓reduceIte, Nat.reduceAdd, Nat.reduceSub])
   refine AWL.nil ?_
   (try simp only [thenE, inBlk, Nat.reduceEqDiff, ↓reduceIte])
   exact RQ.of (.inr rfl) rfl .nil (by simp) rfl (one_out rfl)
  have hc1 := hc
  (refine AW.seq_k ?_; intro K hK)
  refine AW.region ?_
  (refine awP (op_eql rfl rfl rfl) ?_); (try simp only [nA, Nat.reduceBEq, Nat.reduceEqDiff, ↓reduceIte, Nat.reduceAdd, Nat.reduceSub])
  refine awP (op_assign rfl rfl) ?_; (simp only [nA])
  refine AWL.nil ?_
  (refine hK _ ?_; clear hK K; (skip))
  refine AW.cond rfl rfl rfl (fun hc => ?_) (fun hc => ?_)
  ·
   have hc2 := hc; obtain rfl : p = 1 := (by have := of_decide_eq_true hc2; omega); have hpr := hx.pr
   refine AW.region ?_
   refine awP (op_move rfl rfl) ?_; (simp only [nA, ↓reduceIte])
   (refine awP (op_fa_ptr rfl rfl rfl fl35_2 (by exact sz9) (by decide) rfl) ?_); (try simp only [nA, Nat.reduceBEq, Nat.reduceEqDiff, ↓reduceIte, Nat.reduceAdd, Nat.reduceSub])
   (refine awR (op_load_ptr1 rfl rfl rfl rfl ag9 rfl rfl) ?_); (try simp only [nA, Nat.reduceBEq, Nat.reduceEqDiff, ↓reduceIte, Nat.reduceAdd, Nat.reduceSub])
   refine awJ (op_call1 rfl en52 (C52 (bs := bs) (s := x.text) (by omega) (by have := hx.t; omega)) (by exact rfl) (RL.cons .ptr (RL.cons (.base (by exact View.same rfl)) (RL.nil))) (by exact ⟨_, _, _, rfl, rfl, rfl⟩) (by exact rfl) (by exact rfl) (by exact rfl)) ?_; (try simp only [nA, Nat.reduceBEq, Nat.reduceEqDiff, ↓reduceIte, Nat.reduceAdd, Nat.reduceSub])
   refine AWL.nil ?_
   (try simp only [thenE, inBlk, Nat.reduceEqDiff, ↓reduceIte])
   exact RQ.of (.inr rfl) rfl .nil (by simp) rfl (one_out rfl)
  have hc2 := hc
  (refine AW.seq_k ?_; intro K hK)
  refine AW.region ?_
  (refine awP (op_eql rfl rfl rfl) ?_); (try simp only [nA, Nat.reduceBEq, Nat.reduceEqDiff, ↓reduceIte, Nat.reduceAdd, Nat.reduceSub])
  refine awP (op_assign rfl rfl) ?_; (simp only [nA])
  refine AWL.nil ?_
  (refine hK _ ?_; clear hK K; (skip))
  refine AW.cond rfl rfl rfl (fun hc => ?_) (fun hc => ?_)
  ·
   have hc3 := hc; obtain rfl : p = 2 := (by have := of_decide_eq_true hc3; omega); have hpr := hx.pr
   refine AW.region ?_
   refine awP (op_move rfl rfl) ?_; (simp only [nA, ↓reduceIte])
   (refine awP (op_fa_ptr rfl rfl rfl fl35_3 (by exact sz23) (by decide) rfl) ?_); (try simp only [nA, Nat.reduceBEq, Nat.reduceEqDiff, ↓reduceIte, Nat.reduceAdd, Nat.reduceSub])
   (refine awR (op_load_ptr rfl rfl rfl rfl ag23 sz23 (bl rfl) rfl) ?_); (try simp only [nA, Nat.reduceBEq, Nat.reduceEqDiff, ↓reduceIte, Nat.reduceAdd, Nat.reduceSub])
   refine awJ (op_call1 rfl en53 (C53 (bs := bs) (p := x.plate) (by omega)) (by exact rfl) (RL.cons .ptr (RL.cons (.base (by exact View.same rfl)) (RL.nil))) (by exact ⟨_, _, _, rfl, rfl, rfl⟩) (by exact rfl) (by exact rfl) (by exact rfl)) ?_; (try simp only [nA, Nat.reduceBEq, Nat.reduceEqDiff, ↓reduceIte, Nat.reduceAdd, Nat.reduceSub])
   refine AWL.nil ?_
   (try simp only [thenE, inBlk, Nat.reduceEqDiff, ↓reduceIte])
   exact RQ.of (.inr rfl) rfl .nil (by simp) rfl (one_out rfl)
  have hc3 := hc
  (refine AW.seq_k ?_; intro K hK)
  refine AW.region ?_
  (refine awP (op_eql rfl rfl rfl) ?_); (try simp only [nA, Nat.reduceBEq, Nat.reduceEqDiff, ↓reduceIte, Nat.reduceAdd, Nat.reduceSub])
  refine awP (op_assign rfl rfl) ?_; (simp only [nA])
  refine AWL.nil ?_
  (refine hK _ ?_; clear hK K; (skip))
  refine AW.cond rfl rfl rfl (fun hc => ?_) (fun hc => ?_)
  ·
   have hc4 := hc; obtain rfl : p = 3 := (by have := of_decide_eq_true hc4; omega); have hpr := hx.pr
   refine AW.region ?_
   refine awP (op_move rfl rfl) ?_; (simp only [nA, ↓reduceIte])
   (refine awP (op_fa_ptr rfl rfl rfl fl35_4 (by exact sz3) (by decide) rfl) ?_); (try simp only [nA, Nat.reduceBEq, Nat.reduceEqDiff, ↓reduceIte, Nat.reduceAdd, Nat.reduceSub])
   (refine awR (op_load_ptr1 rfl rfl rfl rfl ag3 rfl rfl) ?_); (try simp only [nA, Nat.reduceBEq, Nat.reduceEqDiff, ↓reduceIte, Nat.reduceAdd, Nat.reduceSub])
   refine awJ (op_call1 rfl en51 (C51 (bs := bs) (n := x.node) (by omega)) (by exact rfl) (RL.cons .ptr (RL.cons (.base (by exact View.same rfl)) (RL.nil))) (by exact ⟨_, _, _, rfl, rfl, rfl⟩) (by exact rfl) (by exact rfl) (by exact rfl)) ?_; (try simp only [nA, Nat.reduceBEq, Nat.reduceEqDiff, ↓reduceIte, Nat.reduceAdd, Nat.reduceSub])
   refine AWL.nil ?_
   (try simp only [thenE, inBlk, Nat.reduceEqDiff, ↓reduceIte])
   exact RQ.of (.inr rfl) rfl .nil (by simp) rfl (one_out rfl)
  have hc4 := hc
  (refine AW.seq_k ?_; intro K hK)
  refine AW.region ?_
  (refine awP (op_eql rfl rfl rfl) ?_); (try simp only [nA, Nat.reduceBEq, Nat.reduceEqDiff, ↓reduceIte, Nat.reduceAdd, Nat.reduceSub])
  refine awP (op_assign rfl rfl) ?_; (simp only [nA])
  refine AWL.nil ?_
  (refine hK _ ?_; clear hK K; (skip))
  refine AW.cond rfl rfl rfl (fun hc => ?_) (fun hc => ?_)
  ·
   have hc5 := hc; obtain rfl : p = 4 := (by have := of_decide_eq_true hc5; omega); have hpr := hx.pr
   refine AW.region ?_
   refine awP (op_move rfl rfl) ?_; (simp only [nA, ↓reduceIte])
   (refine awP (op_fa_ptr rfl rfl rfl fl35_5 (by exact sz3) (by decide) rfl) ?_); (try simp only [nA, Nat.reduceBEq, Nat.reduceEqDiff, ↓reduceIte, Nat.reduceAdd, Nat.reduceSub])
   (refine awR (op_load_ptr1 rfl rfl rfl rfl ag3 rfl rfl) ?_); (try simp only [nA, Nat.reduceBEq, Nat.reduceEqDiff, ↓reduceIte, Nat.reduceAdd, Nat.reduceSub])
   refine awJ (op_call1 rfl en51 (C51 (bs := bs) (n := x.image) (by omega)) (by exact rfl) (RL.cons .ptr (RL.cons (.base (by exact View.same rfl)) (RL.nil))) (by exact ⟨_, _, _, rfl, rfl, rfl⟩) (by exact rfl) (by exact rfl) (by exact rfl)) ?_; (try simp only [nA, Nat.reduceBEq, Nat.reduceEqDiff, ↓reduceIte, Nat.reduceAdd, Nat.reduceSub])
   refine AWL.nil ?_
   (try simp only [thenE, inBlk, Nat.reduceEqDiff, ↓reduceIte])
   exact RQ.of (.inr rfl) rfl .nil (by simp) rfl (one_out rfl)
  have hc5 := hc
  (refine AW.seq_k ?_; intro K hK)
  refine AW.region ?_
  (refine awP (op_eql rfl rfl rfl) ?_); (try simp only [nA, Nat.reduceBEq, Nat.reduceEqDiff, ↓reduceIte, Nat.reduceAdd, Nat.reduceSub])
  refine awP (op_assign rfl rfl) ?_; (simp only [nA])
  refine AWL.nil ?_
  (refine hK _ ?_; clear hK K; (skip))
  refine AW.cond rfl rfl rfl (fun hc => ?_) (fun hc => ?_)
  ·
   have hc6 := hc; obtain rfl : p = 5 := (by have := of_decide_eq_true hc6; omega); have hpr := hx.pr
   refine AW.region ?_
   refine awP (op_move rfl rfl) ?_; (simp only [nA, ↓reduceIte])
   (refine awP (op_fa_ptr rfl rfl rfl fl35_6 (by exact sz4) (by decide) rfl) ?_); (try simp only [nA, Nat.reduceBEq, Nat.reduceEqDiff, ↓reduceIte, Nat.reduceAdd, Nat.reduceSub])
   (refine awR (op_load_ptr1 rfl rfl rfl rfl ag4 rfl rfl) ?_); (try simp only [nA, Nat.reduceBEq, Nat.reduceEqDiff, ↓reduceIte, Nat.reduceAdd, Nat.reduceSub])
   refine awJ (op_call1 rfl en54 (C54 (bs := bs) (yes := x.clear) (by omega)) (by exact rfl) (RL.cons .ptr (RL.cons (.base (by exact View.same rfl)) (RL.nil))) (by exact ⟨_, _, _, rfl, rfl, rfl⟩) (by exact rfl) (by exact rfl) (by exact rfl)) ?_; (try simp only [nA, Nat.reduceBEq, Nat.reduceEqDiff, ↓reduceIte, Nat.reduceAdd, Nat.reduceSub])
   refine AWL.nil ?_
   (try simp only [thenE, inBlk, Nat.reduceEqDiff, ↓reduceIte])
   exact RQ.of (.inr rfl) rfl .nil (by simp) rfl (one_out rfl)
  have hc6 := hc
  (refine AW.seq_k ?_; intro K hK)
  refine AW.region ?_
  (refine awP (op_eql rfl rfl rfl) ?_); (try simp only [nA, Nat.reduceBEq, Nat.reduceEqDiff, ↓reduceIte, Nat.reduceAdd, Nat.reduceSub])
  refine awP (op_assign rfl rfl) ?_; (simp only [nA])
  refine AWL.nil ?_
  (refine hK _ ?_; clear hK K; (skip))
  refine AW.cond rfl rfl rfl (fun hc => ?_) (fun hc => ?_)
  ·
   have hc7 := hc; obtain rfl : p = 6 := (by have := of_decide_eq_true hc7; omega); have hpr := hx.pr
   refine AW.region ?_
   refine awP (op_move rfl rfl) ?_; (simp only [nA, ↓reduceIte])
   (refine awR (op_load_ptr rfl rfl rfl rfl ag35 sz35 (bl rfl) rfl) ?_); (try simp only [nA, Nat.reduceBEq, Nat.reduceEqDiff, ↓reduceIte, Nat.reduceAdd, Nat.reduceSub])
   refine awJ (op_call1 rfl en55 (C55 (bs := bs) (x := x) hb hx.r hpr) (by exact rfl) (RL.cons .ptr (RL.cons (.base (by exact View.same rfl)) (RL.nil))) (by exact ⟨_, _, _, rfl, rfl, rfl⟩) (by exact rfl) (by exact rfl) (by exact rfl)) ?_; (try simp only [nA, Nat.reduceBEq, Nat.reduceEqDiff, ↓reduceIte, Nat.reduceAdd, Nat.reduceSub])
   refine AWL.nil ?_
   (try simp only [thenE, inBlk, Nat.reduceEqDiff, ↓reduceIte])
   exact RQ.of (.inr rfl) rfl .nil (by simp) rfl (one_out rfl)
  have hc7 := hc
  (refine AW.seq_k ?_; intro K hK)
  refine AW.region ?_
  (refine awP (op_eql rfl rfl rfl) ?_); (try simp only [nA, Nat.reduceBEq, Nat.reduceEqDiff, ↓reduceIte, Nat.reduceAdd, Nat.reduceSub])
  refine awP (op_assign rfl rfl) ?_; (simp only [nA])
  refine AWL.nil ?_
  (refine hK _ ?_; clear hK K; (skip))
  refine AW.cond rfl rfl rfl (fun hc => ?_) (fun hc => ?_)
  ·
   have hc8 := hc; obtain rfl : p = 7 := (by have := of_decide_eq_true hc8; omega); have hpr := hx.pr; have hfl := (fl_good (f := x.rev.fl) (Bool.and_eq_true _ _ |>.mp hpr).2).2
   refine AW.region ?_
   refine awP (op_move rfl rfl) ?_; (simp only [nA, ↓reduceIte])
   (refine awR (op_load_ptr rfl rfl rfl rfl ag35 sz35 (bl rfl) rfl) ?_); (try simp only [nA, Nat.reduceBEq, Nat.reduceEqDiff, ↓reduceIte, Nat.reduceAdd, Nat.reduceSub])
   refine awJ (op_call1 rfl en56 (C56 (bs := bs) (x := x) (by omega) (by omega) (by omega)) (by exact rfl) (RL.cons .ptr (RL.cons (.base (by exact View.same rfl)) (RL.nil))) (by exact ⟨_, _, _, rfl, rfl, rfl⟩) (by exact rfl) (by exact rfl) (by exact rfl)) ?_; (try simp only [nA, Nat.reduceBEq, Nat.reduceEqDiff, ↓reduceIte, Nat.reduceAdd, Nat.reduceSub])
   refine AWL.nil ?_
   (try simp only [thenE, inBlk, Nat.reduceEqDiff, ↓reduceIte])
   exact RQ.of (.inr rfl) rfl .nil (by simp) rfl (one_out rfl)
  have hc8 := hc
  (refine AW.seq_k ?_; intro K hK)
  refine AW.region ?_
  (refine awP (op_eql rfl rfl rfl) ?_); (try simp only [nA, Nat.reduceBEq, Nat.reduceEqDiff, ↓reduceIte, Nat.reduceAdd, Nat.reduceSub])
  refine awP (op_assign rfl rfl) ?_; (simp only [nA])
  refine AWL.nil ?_
  (refine hK _ ?_; clear hK K; (skip))
  refine AW.cond rfl rfl rfl (fun hc => ?_) (fun hc => ?_)
  ·
   have hc9 := hc; obtain rfl : p = 8 := (by have := of_decide_eq_true hc9; omega); have hpr := hx.pr
   refine AW.region ?_
   refine awP (op_move rfl rfl) ?_; (simp only [nA, ↓reduceIte])
   (refine awP (op_fa_ptr rfl rfl rfl fl35_9 (by exact sz3) (by decide) rfl) ?_); (try simp only [nA, Nat.reduceBEq, Nat.reduceEqDiff, ↓reduceIte, Nat.reduceAdd, Nat.reduceSub])
   (refine awR (op_load_ptr1 rfl rfl rfl rfl ag3 rfl rfl) ?_); (try simp only [nA, Nat.reduceBEq, Nat.reduceEqDiff, ↓reduceIte, Nat.reduceAdd, Nat.reduceSub])
   refine awJ (op_call1 rfl en51 (C51 (bs := bs) (n := x.device) (by omega)) (by exact rfl) (RL.cons .ptr (RL.cons (.base (by exact View.same rfl)) (RL.nil))) (by exact ⟨_, _, _, rfl, rfl, rfl⟩) (by exact rfl) (by exact rfl) (by exact rfl)) ?_; (try simp only [nA, Nat.reduceBEq, Nat.reduceEqDiff, ↓reduceIte, Nat.reduceAdd, Nat.reduceSub])
   refine AWL.nil ?_
   (try simp only [thenE, inBlk, Nat.reduceEqDiff, ↓reduceIte])
   exact RQ.of (.inr rfl) rfl .nil (by simp) rfl (one_out rfl)
  have hc9 := hc
  (refine AW.seq_k ?_; intro K hK)
  refine AW.region ?_
  (refine awP (op_eql rfl rfl rfl) ?_); (try simp only [nA, Nat.reduceBEq, Nat.reduceEqDiff, ↓reduceIte, Nat.reduceAdd, Nat.reduceSub])
  refine awP (op_assign rfl rfl) ?_; (simp only [nA])
  refine AWL.nil ?_
  (refine hK _ ?_; clear hK K; (skip))
  refine AW.cond rfl rfl rfl (fun hc => ?_) (fun hc => ?_)
  ·
   have hc10 := hc; obtain rfl : p = 9 := (by have := of_decide_eq_true hc10; omega); have hpr := hx.pr
   refine AW.region ?_
   refine awP (op_move rfl rfl) ?_; (simp only [nA, ↓reduceIte])
   (refine awP (op_fa_ptr rfl rfl rfl fl35_10 (by exact sz32) (by decide) rfl) ?_); (try simp only [nA, Nat.reduceBEq, Nat.reduceEqDiff, ↓reduceIte, Nat.reduceAdd, Nat.reduceSub])
   (refine awR (op_load_ptr rfl rfl rfl rfl ag32 sz32 (bl rfl) rfl) ?_); (try simp only [nA, Nat.reduceBEq, Nat.reduceEqDiff, ↓reduceIte, Nat.reduceAdd, Nat.reduceSub])
   refine awJ (op_call1 rfl en57 (C57 (bs := bs) (o := x.op) (by omega)) (by exact rfl) (RL.cons .ptr (RL.cons (.base (by exact View.same rfl)) (RL.nil))) (by exact ⟨_, _, _, rfl, rfl, rfl⟩) (by exact rfl) (by exact rfl) (by exact rfl)) ?_; (try simp only [nA, Nat.reduceBEq, Nat.reduceEqDiff, ↓reduceIte, Nat.reduceAdd, Nat.reduceSub])
   refine AWL.nil ?_
   (try simp only [thenE, inBlk, Nat.reduceEqDiff, ↓reduceIte])
   exact RQ.of (.inr rfl) rfl .nil (by simp) rfl (one_out rfl)
  have hc10 := hc
  (refine AW.seq_k ?_; intro K hK)
  refine AW.region ?_
  (refine awP (op_eql rfl rfl rfl) ?_); (try simp only [nA, Nat.reduceBEq, Nat.reduceEqDiff, ↓reduceIte, Nat.reduceAdd, Nat.reduceSub])
  refine awP (op_assign rfl rfl) ?_; (simp only [nA])
  refine AWL.nil ?_
  (refine hK _ ?_; clear hK K; (skip))
  refine AW.cond rfl rfl rfl (fun hc => ?_) (fun hc => ?_)
  ·
   have hc11 := hc; obtain rfl : p = 10 := (by have := of_decide_eq_true hc11; omega); have hpr := hx.pr
   refine AW.region ?_
   refine awP (op_move rfl rfl) ?_; (simp only [nA, ↓reduceIte])
   (refine awR (op_load_ptr rfl rfl rfl rfl ag35 sz35 (bl rfl) rfl) ?_); (try simp only [nA, Nat.reduceBEq, Nat.reduceEqDiff, ↓reduceIte, Nat.reduceAdd, Nat.reduceSub])
   refine awJ (op_call1 rfl en58 (C58 (bs := bs) (x := x) hb hx.o) (by exact rfl) (RL.cons .ptr (RL.cons (.base (by exact View.same rfl)) (RL.nil))) (by exact ⟨_, _, _, rfl, rfl, rfl⟩) (by exact rfl) (by exact rfl) (by exact rfl)) ?_; (try simp only [nA, Nat.reduceBEq, Nat.reduceEqDiff, ↓reduceIte, Nat.reduceAdd, Nat.reduceSub])
   refine AWL.nil ?_
   (try simp only [thenE, inBlk, Nat.reduceEqDiff, ↓reduceIte])
   exact RQ.of (.inr rfl) rfl .nil (by simp) rfl (one_out rfl)
  have hc11 := hc
  (refine AW.seq_k ?_; intro K hK)
  refine AW.region ?_
  (refine awP (op_eql rfl rfl rfl) ?_); (try simp only [nA, Nat.reduceBEq, Nat.reduceEqDiff, ↓reduceIte, Nat.reduceAdd, Nat.reduceSub])
  refine awP (op_assign rfl rfl) ?_; (simp only [nA])
  refine AWL.nil ?_
  (refine hK _ ?_; clear hK K; (skip))
  refine AW.cond rfl rfl rfl (fun hc => ?_) (fun hc => ?_)
  ·
   have hc12 := hc; obtain rfl : p = 11 := (by have := of_decide_eq_true hc12; omega); have hpr := hx.pr; have hfl := (fl_good (f := x.fl) hpr).2
   refine AW.region ?_
   refine awP (op_move rfl rfl) ?_; (simp only [nA, ↓reduceIte])
   (refine awP (op_fa_ptr rfl rfl rfl fl35_12 (by exact sz26) (by decide) rfl) ?_); (try simp only [nA, Nat.reduceBEq, Nat.reduceEqDiff, ↓reduceIte, Nat.reduceAdd, Nat.reduceSub])
   (refine awR (op_load_ptr rfl rfl rfl rfl ag26 sz26 (bl rfl) rfl) ?_); (try simp only [nA, Nat.reduceBEq, Nat.reduceEqDiff, ↓reduceIte, Nat.reduceAdd, Nat.reduceSub])
   refine awJ (op_call1 rfl en59 (C59 (bs := bs) (f := x.fl) (by omega) (by omega) (by omega)) (by exact rfl) (RL.cons .ptr (RL.cons (.base (by exact View.same rfl)) (RL.nil))) (by exact ⟨_, _, _, rfl, rfl, rfl⟩) (by exact rfl) (by exact rfl) (by exact rfl)) ?_; (try simp only [nA, Nat.reduceBEq, Nat.reduceEqDiff, ↓reduceIte, Nat.reduceAdd, Nat.reduceSub])
   refine AWL.nil ?_
   (try simp only [thenE, inBlk, Nat.reduceEqDiff, ↓reduceIte])
   exact RQ.of (.inr rfl) rfl .nil (by simp) rfl (one_out rfl)
  have hc12 := hc
  refine AW.skip ?_
  (try simp only [thenE, inBlk, Nat.reduceEqDiff, ↓reduceIte])
  rw [show ePart x p = [] from ePart_rest (by simp only [decide_eq_false_iff_not] at hc1 hc2 hc3 hc4 hc5 hc6 hc7 hc8 hc9 hc10 hc11 hc12; omega), List.append_nil]; exact RQ.of (.inr rfl) rfl .nil (by simp) rfl (one_out rfl)
end Go.Proofs.YtfmnaigedgmhoaaDoor
namespace Go.Proofs.YtfmnaigedgmhoaaDoor
open Go.RowKit
set_option linter.unusedSimpArgs false
set_option linter.unusedVariables false
set_option maxRecDepth 100000
set_option maxHeartbeats 8000000 in
theorem C30i {bs : BL} {x : Ev} {p : Int} (hp : 0 ≤ p) (hb : bs.length ≤ 10000) (hx : x.Wr p.toNat) : Fn Tryd.prog 30 [wB bs] [.ptr 0 0 0 0, .agg x.av, .v (.int .i64 p)] [] [wB (bs ++ ePart x p.toNat)] := by
  obtain ⟨n, rfl⟩ := Int.eq_ofNat_of_zero_le hp
  exact C30 hb hx
abbrev ePI (x : Ev) (p : Int) : BL := ePart x p.toNat
theorem encI (x : Ev) : [byI x.kind] ++ (fldI x.kind).flatMap (ePI x) = encB x := by
  unfold fldI encB
  rw [List.flatMap_map]
  rfl
theorem fldI_mem {k p : Int} (h : p ∈ fldI k) : 0 ≤ p ∧ p.toNat ∈ fieldsL k := by
  obtain ⟨n, hn, rfl⟩ := List.mem_map.1 h
  exact ⟨by omega, hn⟩
theorem Good.wr {x : Ev} (h : Good x) {p : Int} (hp : p ∈ fldI x.kind) : x.Wr p.toNat := ⟨h.lim.1, h.lim.2.1, h.lim.2.2, h.pr _ (fldI_mem hp).2⟩
def pfx (x : Ev) (i : Nat) : BL := [byI x.kind] ++ ((fldI x.kind).take i).flatMap (ePI x)
theorem pfx_0 (x : Ev) : pfx x 0 = [byI x.kind] := rfl
theorem pfx_step {x : Ev} {i : Nat} (h : i < (fldI x.kind).length) : pfx x i ++ ePart x ((fldI x.kind).getD i default).toNat = pfx x (i + 1) := take_flatG (e := ePI x) h
theorem pfx_end {x : Ev} {i : Nat} (h : ¬ i < (fldI x.kind).length) : pfx x i = encB x := by
  unfold pfx
  rw [List.take_of_length_le (by omega), encI]
theorem pfx_len {x : Ev} (h : Good x) (i : Nat) : (pfx x i).length ≤ 10000 := by
  have h1 := flatTk (xs := fldI x.kind) (e := ePI x) (k := 2404) (i := i) fun p hp => part_len h _ (fldI_mem hp).2
  have h2 := fldI_len x.kind
  unfold pfx
  rw [List.length_append, List.length_singleton]
  have := Nat.mul_le_mul_right 2404 h2
  omega
set_option maxHeartbeats 8000000 in
theorem C13 {x : Ev} (hx : x.Sm) : Fn Tryd.prog 13 [] [.agg x.av] [.ro ((encV x).1.map bv), .v (.int .i64 (encV x).2)] [] := by
  refine Spec.body Tryd.func13 rfl Tryd.ntmps13 (by simp) rfl ?_; intro S0 own0 v0 w0 gl
  (refine AW.seq_k ?_; intro K hK)
  refine AW.region ?_
  refine awJ (op_box rfl rfl rfl sz35 rfl) ?_; (simp only [nA, Nat.reduceBEq, Nat.reduceEqDiff, ↓reduceIte])
  refine awP (op_assign rfl rfl) ?_; (try simp only [nA, Nat.reduceBEq, Nat.reduceEqDiff, ↓reduceIte, Nat.reduceAdd, Nat.reduceSub])
  refine awP (op_assign rfl rfl) ?_; (try simp only [nA, Nat.reduceBEq, Nat.reduceEqDiff, ↓reduceIte, Nat.reduceAdd, Nat.reduceSub])
  refine AWL.nil ?_
  (refine hK _ ?_; clear hK K; (try simp only [nA, Nat.reduceBEq, Nat.reduceEqDiff, ↓reduceIte, Nat.reduceAdd, Nat.reduceSub]))
  (refine AW.seq_k ?_; intro K hK)
  (refine AW.seq_k ?_; intro K hK)
  refine AW.region ?_
  (refine awR (op_load_ptr rfl rfl rfl rfl ag35 sz35 (bl rfl) rfl) ?_); (try simp only [nA, Nat.reduceBEq, Nat.reduceEqDiff, ↓reduceIte, Nat.reduceAdd, Nat.reduceSub])
  refine awJ (OpQ.j (op_callQ (b := true) rfl en15 (C15 (x := x) hx) (RL.cons (by exact View.same rfl) (RL.nil)) rfl)) ?_; (try simp only [nA, Nat.reduceBEq, Nat.reduceEqDiff, ↓reduceIte, Nat.reduceAdd, Nat.reduceSub])
  refine awP (op_assign rfl rfl) ?_; (simp only [nA])
  refine AWL.nil ?_
  (refine hK _ ?_; clear hK K; (skip))
  (refine AW.seq_k ?_; intro K hK)
  refine AW.region ?_
  refine awP (op_move rfl rfl) ?_; (simp only [nA])
  (refine awP (op_neq rfl rfl rfl) ?_); (try simp only [nA, Nat.reduceBEq, Nat.reduceEqDiff, ↓reduceIte, Nat.reduceAdd, Nat.reduceSub])
  refine AWL.nil ?_
  (refine hK _ ?_; clear hK K; (skip))
  refine AW.cond rfl rfl rfl (fun hc => ?_) (fun hc => ?_)
  ·
   have hc1 := hc; have hv : valV x ≠ 0 := (by simpa using hc1); have hng : ¬ Good x := fun h => hv (valV_0.2 h)
   (refine AW.seq_k ?_; intro K hK)
   refine AW.region ?_
   refine awP (op_move rfl rfl) ?_; (simp only [nA, ↓reduceIte])
   refine awP (op_assign rfl rfl) ?_; (try simp only [nA, Nat.reduceBEq, Nat.reduceEqDiff, ↓reduceIte, Nat.reduceAdd, Nat.reduceSub])
   refine awP (op_assign rfl rfl) ?_; (simp only [nA, ↓reduceIte])
   refine AWL.nil ?_
   (refine hK _ ?_; clear hK K; (skip))
   refine AW.gh (Gh.nil (e := 5) 2 (bl rfl) rfl sz5) ?_; (simp only [nA, Nat.reduceBEq, Nat.reduceEqDiff, ↓reduceIte]); refine AW.gh (Gh.freeze 2 (bl rfl) rfl rfl (by simp) (es' := ([] : BL).map bv) rfl) ?_; (try simp only [nA, Nat.reduceBEq, Nat.reduceEqDiff, ↓reduceIte, Nat.reduceAdd, Nat.reduceSub])
   refine AW.ret ?_; (try simp only [thenE, inBlk, Nat.reduceEqDiff, ↓reduceIte]); rw [enc_no hng]; exact RQ.of0 rfl (.tmp (bl rfl) rfl rfl (.tmp (bl rfl) rfl rfl .nil))
  have hc1 := hc; have hv : valV x = 0 := (by simpa using hc1); have hG := valV_0.1 hv
  refine AW.skip ?_
  (refine hK _ ?_; clear hK K; (skip))
  (refine AW.seq_k ?_; intro K hK)
  refine AW.region ?_
  (refine awP (op_fa_ptr rfl rfl rfl fl35_0 (by exact sz3) (by decide) rfl) ?_); (try simp only [nA, Nat.reduceBEq, Nat.reduceEqDiff, ↓reduceIte, Nat.reduceAdd, Nat.reduceSub])
  (refine awR (op_load_ptr1 rfl rfl rfl rfl ag3 rfl rfl) ?_); (try simp only [nA, Nat.reduceBEq, Nat.reduceEqDiff, ↓reduceIte, Nat.reduceAdd, Nat.reduceSub])
  refine awP (op_conv rfl rfl Tryd.underlying3 Tryd.underlying5 (wrapU _)) ?_; (try simp only [nA, Nat.reduceBEq, Nat.reduceEqDiff, ↓reduceIte, Nat.reduceAdd, Nat.reduceSub])
  refine awX (OpJ.nmS (op_buildSlice rfl [(0, bv (byI x.kind))] ([byI x.kind].map bv) Tryd.underlying43 ze5 rfl (by simp) rfl (bv_len _) rfl (bl rfl) (by simp [maxLen])) rfl rfl) ?_; rintro _ _ ⟨u, hu, rfl, rfl⟩; (simp only [nA, Nat.reduceBEq, Nat.reduceEqDiff, ↓reduceIte])
  refine awP (op_build2 (xs := [_]) rfl pl77 ze77 [(0, [_])] rfl rfl rfl) ?_; (simp only [nA])
  refine awJ (op_box rfl rfl rfl sz77 rfl) ?_; (simp only [nA, Nat.reduceBEq, Nat.reduceEqDiff, ↓reduceIte]); refine AWL.gh (Gh.nest (r := 2) (q := 1) (row := [.v u]) 0 0 rfl rfl rfl rfl (by decide) (es2 := [[.own 5 ([byI x.kind].map bv)]]) rfl) ?_; (try simp only [nA, Nat.reduceBEq, Nat.reduceEqDiff, ↓reduceIte, Nat.reduceAdd, Nat.reduceSub])
  refine awP (op_assign rfl rfl) ?_; (simp only [nA])
  refine AWL.nil ?_
  (refine hK _ ?_; clear hK K; (skip))
  (refine AW.seq_k ?_; intro K hK)
  (refine AW.seq_k ?_; intro K hK)
  refine AW.region ?_
  (refine awP (op_fa_ptr rfl rfl rfl fl35_0 (by exact sz3) (by decide) rfl) ?_); (try simp only [nA, Nat.reduceBEq, Nat.reduceEqDiff, ↓reduceIte, Nat.reduceAdd, Nat.reduceSub])
  (refine awR (op_load_ptr1 rfl rfl rfl rfl ag3 rfl rfl) ?_); (try simp only [nA, Nat.reduceBEq, Nat.reduceEqDiff, ↓reduceIte, Nat.reduceAdd, Nat.reduceSub])
  refine awP (op_ia_glob x.kind.toNat rfl rfl Tryd.underlying79 (by have := hG.kind; omega) (fldI_row hG.kind) (by exact sz78)) ?_; (try simp only [nA, Nat.reduceBEq, Nat.reduceEqDiff, ↓reduceIte, Nat.reduceAdd, Nat.reduceSub])
  (refine awR (op_load_rop1 rfl rfl ag78) ?_); (try simp only [nA, Nat.reduceBEq, Nat.reduceEqDiff, ↓reduceIte, Nat.reduceAdd, Nat.reduceSub])
  refine awP (op_len_ro (n := (fldI x.kind).length) rfl rfl Tryd.underlying78 (.inr (.inl ⟨_, rfl, by simp⟩))) ?_; (try simp only [nA, Nat.reduceBEq, Nat.reduceEqDiff, ↓reduceIte, Nat.reduceAdd, Nat.reduceSub])
  refine awP (op_move rfl rfl) ?_; (try simp only [nA, Nat.reduceBEq, Nat.reduceEqDiff, ↓reduceIte, Nat.reduceAdd, Nat.reduceSub])
  refine AWL.nil ?_
  (refine hK _ ?_; clear hK K; (skip))
  refine AW.block ?_
  have hfn := fldI_len x.kind; refine AW.loopI (fun i => [(1, .ptr 0 1 0 0), (5, .ptr 2 3 0 0), (22, .ro ((fldI x.kind).map fun n => [.v (.int .i64 n)])), (23, .v (.int .i64 (fldI x.kind).length)), (24, .v (.int .i64 (i : Nat)))]) (fun i => ⟨[(1, .own 35 [x.av]), (2, .any), (3, wB (pfx x i))], 4⟩) (fun i => i ≤ (fldI x.kind).length) (fun i => (fldI x.kind).length - i) 0 (by simp) ⟨rfl, rfl, rfl, rfl, rfl, trivial⟩ (by rw [pfx_0]; rfl) ?_; intro i ρ hi; simp only [updL]
  (refine AW.seq_k ?_; intro K hK)
  refine AW.region ?_
  refine awP (op_lss rfl rfl rfl) ?_; (try simp only [nA, Nat.reduceBEq, Nat.reduceEqDiff, ↓reduceIte, Nat.reduceAdd, Nat.reduceSub])
  refine AWL.nil ?_
  (refine hK _ ?_; clear hK K; (skip))
  (refine AW.seq_k ?_; intro K hK)
  refine AW.cond rfl rfl rfl (fun hc => ?_) (fun hc => ?_)
  ·
   have hc2 := hc; have hlt : i < (fldI x.kind).length := (by simpa using hc2); have hpb := fldI_bd hlt; have hpm : (fldI x.kind).getD i default ∈ fldI x.kind := (by rw [getD_of hlt]; exact List.getElem_mem hlt)
   refine AW.skip ?_
   (refine hK _ ?_; clear hK K; (skip))
   (refine AW.seq_k ?_; intro K hK)
   refine AW.block ?_
   (refine AW.seq_k ?_; intro K hK)
   refine AW.region ?_
   refine awP (op_ia_ro i rfl (.inl rfl) rfl Tryd.underlying78 rfl (get_mapD (by omega)) (by exact sz80) (bl rfl)) ?_; (try simp only [nA, Nat.reduceBEq, Nat.reduceEqDiff, ↓reduceIte, Nat.reduceAdd, Nat.reduceSub])
   (refine awR (op_load_rop1 rfl rfl ag80) ?_); (try simp only [nA, Nat.reduceBEq, Nat.reduceEqDiff, ↓reduceIte, Nat.reduceAdd, Nat.reduceSub])
   refine awP (op_assign rfl rfl) ?_; (simp only [nA])
   refine AWL.nil ?_
   (refine hK _ ?_; clear hK K; (skip))
   refine AW.region ?_
   refine awP (op_move rfl rfl) ?_; (simp only [nA, ↓reduceIte])
   (refine awR (op_load_ptr rfl rfl rfl rfl ag35 sz35 (bl rfl) rfl) ?_); (try simp only [nA, Nat.reduceBEq, Nat.reduceEqDiff, ↓reduceIte, Nat.reduceAdd, Nat.reduceSub])
   refine awP (op_move rfl rfl) ?_; (simp only [nA, ↓reduceIte])
   refine awJ (op_call1 rfl en30 (C30i (bs := (pfx x i)) (x := x) (p := (fldI x.kind).getD i default) hpb.1 (pfx_len hG i) (hG.wr hpm)) (by exact rfl) (RL.cons .ptr (RL.cons (.base (by exact View.same rfl)) (RL.cons (.base (by exact View.same rfl)) (RL.nil)))) (by exact ⟨_, _, _, rfl, rfl, rfl⟩) (by exact rfl) (by exact rfl) (by exact rfl)) ?_; (try simp only [nA, Nat.reduceBEq, Nat.reduceEqDiff, ↓reduceIte, Nat.reduceAdd, Nat.reduceSub])
   refine AWL.nil ?_
   (try simp only [thenE, inBlk, Nat.reduceEqDiff, ↓reduceIte])
   (refine hK _ ?_; clear hK K; (skip))
   refine AW.region ?_
   (refine awP (op_addi rfl rfl rfl (by omega)) ?_); (try simp only [nA, Nat.reduceBEq, Nat.reduceEqDiff, ↓reduceIte, Nat.reduceAdd, Nat.reduceSub])
   refine awP (op_move rfl rfl) ?_; (simp only [nA])
   skip
   refine AWL.nil ?_
   refine ⟨i + 1, by omega, by omega, ⟨rfl, rfl, rfl, rfl, rfl, trivial⟩, congrArg (fun z => (⟨[(1, .own 35 [x.av]), (2, .any), (3, wB z)], 4⟩ : Sl)) (pfx_step hlt), (by rfl)⟩
  have hc2 := hc; have hnl : ¬ i < (fldI x.kind).length := (by simpa using hc2); rw [pfx_end hnl]
  refine AW.exit ?_; (try simp only [thenE, inBlk, Nat.reduceEqDiff, ↓reduceIte])
  clear hK K
  (refine hK _ ?_; clear hK K; (skip))
  (refine AW.seq_k ?_; intro K hK)
  refine AW.region ?_
  refine awP (op_move rfl rfl) ?_; (simp only [nA, ↓reduceIte])
  (refine awP (op_nil_slot rfl rfl rfl) ?_); (try simp only [nA, Nat.reduceBEq, Nat.reduceEqDiff, ↓reduceIte, Nat.reduceAdd, Nat.reduceSub])
  (refine awP (op_fa_ptr rfl rfl rfl fl77_0 (by exact sz43) (by decide) rfl) ?_); (try simp only [nA, Nat.reduceBEq, Nat.reduceEqDiff, ↓reduceIte, Nat.reduceAdd, Nat.reduceSub])
  refine awJ (op_load_nest (i := 0) (j := 0) rfl rfl rfl rfl ag43 rfl rfl) ?_; (simp only [nA, Nat.reduceBEq, Nat.reduceEqDiff, ↓reduceIte])
  refine awP (op_assign rfl rfl) ?_; (simp only [nA])
  refine awP (op_assign rfl rfl) ?_; (try simp only [nA, Nat.reduceBEq, Nat.reduceEqDiff, ↓reduceIte, Nat.reduceAdd, Nat.reduceSub])
  refine AWL.nil ?_
  (refine hK _ ?_; clear hK K; (skip))
  refine AW.gh (Gh.freeze 2 (bl rfl) rfl rfl (bv_flat _) (es' := (encB x).map bv) (List.take_of_length_le (by rw [List.length_map]; exact Nat.le_refl _))) ?_; (try simp only [nA, Nat.reduceBEq, Nat.reduceEqDiff, ↓reduceIte, Nat.reduceAdd, Nat.reduceSub])
  refine AW.ret ?_; (try simp only [thenE, inBlk, Nat.reduceEqDiff, ↓reduceIte]); rw [enc_ok hG]; exact RQ.of0 rfl (.tmp (bl rfl) rfl rfl (.tmp (bl rfl) rfl rfl .nil))
end Go.Proofs.YtfmnaigedgmhoaaDoor
namespace Go.Proofs.YtfmnaigedgmhoaaDoor
open Go.RowKit
set_option linter.unusedSimpArgs false
set_option linter.unusedVariables false
set_option maxRecDepth 100000
abbrev wO (bs : BL) : AV := .own 5 (bs.map bv)
end Go.Proofs.YtfmnaigedgmhoaaDoor
namespace Go.Proofs.YtfmnaigedgmhoaaDoor
open Go.RowKit
set_option linter.unusedSimpArgs false
set_option linter.unusedVariables false
set_option maxRecDepth 100000
end Go.Proofs.YtfmnaigedgmhoaaDoor
namespace Go.Proofs.YtfmnaigedgmhoaaDoor
open Go.RowKit
set_option linter.unusedSimpArgs false
set_option linter.unusedVariables false
set_option maxRecDepth 100000
def hd0 (x : Ev) : BL := [byI x.kind]
end Go.Proofs.YtfmnaigedgmhoaaDoor
namespace Go.Proofs.YtfmnaigedgmhoaaDoor
open Go.RowKit
set_option linter.unusedSimpArgs false
set_option linter.unusedVariables false
set_option maxRecDepth 100000
theorem sz95 : sizeIs Tryd.prog 95 1 := by unfold sizeIs; kernel_rfl
abbrev fnA (f : FuncId) : AV := .v (.func (.func f) #[] #[])
abbrev rdsL : List FuncId := [73, 74, 75, 76, 77, 78, 79, 80, 81, 82, 83, 84]
abbrev rdsA : List AV := [fnA 73, fnA 74, fnA 75, fnA 76, fnA 77, fnA 78, fnA 79, fnA 80, fnA 81, fnA 82, fnA 83, fnA 84]
set_option maxHeartbeats 8000000 in
theorem C44 : Fn Tryd.prog 44 [] [] [.agg rdsA] [] := by
  refine Spec.body Tryd.func44 rfl Tryd.ntmps44 (by simp) rfl ?_; intro S0 own0 v0 w0 gl
  (refine AW.seq_k ?_; intro K hK)
  refine AW.region ?_
  refine awJ (op_alloc rfl ze96 rfl) ?_; (simp only [nA, Nat.reduceBEq, Nat.reduceEqDiff, ↓reduceIte])
  refine AWL.nil ?_
  (refine hK _ ?_; clear hK K; (try simp only [nA, Nat.reduceBEq, Nat.reduceEqDiff, ↓reduceIte, Nat.reduceAdd, Nat.reduceSub]))
  (refine AW.seq_k ?_; intro K hK)
  refine AW.region ?_
  refine awP (op_buildArr (xs := rdsA) rfl [(0, [fnA 73]), (1, [fnA 74]), (2, [fnA 75]), (3, [fnA 76]), (4, [fnA 77]), (5, [fnA 78]), (6, [fnA 79]), (7, [fnA 80]), (8, [fnA 81]), (9, [fnA 82]), (10, [fnA 83]), (11, [fnA 84])] Tryd.underlying96 sz95 ze96 rfl rfl rfl) ?_; (try simp only [nA, Nat.reduceBEq, Nat.reduceEqDiff, ↓reduceIte, Nat.reduceAdd, Nat.reduceSub])
  refine awJ (op_store rfl rfl rfl rfl rfl rfl sz96 rfl (bl rfl) rfl) ?_; (simp only [nA, Nat.reduceBEq, Nat.reduceEqDiff, ↓reduceIte])
  refine AWL.nil ?_
  (refine hK _ ?_; clear hK K; (skip))
  skip
  refine AW.ret ?_; (try simp only [thenE, inBlk, Nat.reduceEqDiff, ↓reduceIte]); exact RQ.of0 rfl (.cell (bl rfl) rfl rfl rfl ag96 sz96 (bl rfl) rfl rfl .nil)
end Go.Proofs.YtfmnaigedgmhoaaDoor
namespace Go.Proofs.YtfmnaigedgmhoaaDoor
open Go.RowKit
set_option linter.unusedSimpArgs false
set_option linter.unusedVariables false
set_option maxRecDepth 100000
abbrev rowY (y : Ev) (s : RS) : List AV := rdC y (.own 66 (y.reports.map Report.av)) (.own 32 (y.ops.map Op.av)) s
set_option maxHeartbeats 8000000 in
theorem C73p {p : Nat} {y : Ev} {s : RS} (hp : p ≤ 11) (hl : s.b.length ≤ 1000000) (h6 : p = 6 → y.reports = []) (h10 : p = 10 → y.ops = []) : Fn Tryd.prog (73 + p) [.own 94 [rowY y s]] [.ptr 0 0 0 0] [] [.own 94 [rowY (dM rE p y s).1 (dM rE p y s).2]] := by
  match p, hp, h6, h10 with
  | 0, _, _, _ => exact C73v (C99 hl)
  | 1, _, _, _ => exact C74v (C100 hl)
  | 2, _, _, _ => exact C75v (C101 hl)
  | 3, _, _, _ => exact C76v (C99 hl)
  | 4, _, _, _ => exact C77v (C99 hl)
  | 5, _, _, _ => exact C78v (C102 hl)
  | 6, _, h6, _ =>
    have e := h6 rfl
    have h := C79 (x := y) (os := .own 32 (y.ops.map Op.av)) hl
    show Fn Tryd.prog 79 [.own 94 [rdC y (.own 66 (y.reports.map Report.av)) (.own 32 (y.ops.map Op.av)) s]] [.ptr 0 0 0 0] [] [.own 94 [rdC y (.own 66 ((lsM rE (rpM rE) y.reports s).1.map Report.av)) (.own 32 (y.ops.map Op.av)) (lsM rE (rpM rE) y.reports s).2]]
    rw [e]
    exact h
  | 7, _, _, _ => exact C80v (C99 hl) (C99 (len1 hl)) (C103 (len1 (len1 hl)))
  | 8, _, _, _ => exact C81v (C99 hl)
  | 9, _, _, _ => exact C82v (C104 hl)
  | 10, _, _, h10 =>
    have e := h10 rfl
    have h := C83 (x := y) (rs := .own 66 (y.reports.map Report.av)) hl
    show Fn Tryd.prog 83 [.own 94 [rdC y (.own 66 (y.reports.map Report.av)) (.own 32 (y.ops.map Op.av)) s]] [.ptr 0 0 0 0] [] [.own 94 [rdC y (.own 66 (y.reports.map Report.av)) (.own 32 ((lsM rE (opM rE) y.ops s).1.map Op.av)) (lsM rE (opM rE) y.ops s).2]]
    rw [e]
    exact h
  | 11, _, _, _ => exact C84v (C103 hl)
theorem en_p {p : Nat} (hp : p ≤ 11) : Enters Tryd.prog (73 + p) := by
  match p, hp with
  | 0, _ => exact en73
  | 1, _ => exact en74
  | 2, _ => exact en75
  | 3, _ => exact en76
  | 4, _ => exact en77
  | 5, _ => exact en78
  | 6, _ => exact en79
  | 7, _ => exact en80
  | 8, _ => exact en81
  | 9, _ => exact en82
  | 10, _ => exact en83
  | 11, _ => exact en84
theorem rds_get {p : Nat} (hp : p ≤ 11) : rdsA[p]? = some (fnA (73 + p)) := by
  match p, hp with
  | 0, _ => rfl
  | 1, _ => rfl
  | 2, _ => rfl
  | 3, _ => rfl
  | 4, _ => rfl
  | 5, _ => rfl
  | 6, _ => rfl
  | 7, _ => rfl
  | 8, _ => rfl
  | 9, _ => rfl
  | 10, _ => rfl
  | 11, _ => rfl
theorem repM_len {α : Type} {m : M α} (h : ∀ s, (m s).2.b.length ≤ s.b.length) : ∀ (n : Nat) (acc : List α) (s : RS), (repM m n acc s).2.b.length ≤ s.b.length
  | 0, _, _ => Nat.le_refl _
  | n + 1, acc, s => by
    show (if s.bad = true then (acc, s) else repM m n (acc ++ [(m s).1]) (m s).2).2.b.length ≤ _
    split
    · exact Nat.le_refl _
    exact Nat.le_trans (repM_len h n _ _) (h s)
theorem lsM_len {α : Type} {m : M α} (h : ∀ s, (m s).2.b.length ≤ s.b.length) (acc : List α) (s : RS) : (lsM rE m acc s).2.b.length ≤ s.b.length := Nat.le_trans (repM_len h _ _ _) (numE_len s)
theorem flM_le (s : RS) : (flM rE s).2.b.length ≤ s.b.length := Nat.le_trans (numE_len _) (Nat.le_trans (wdE_len _) (Nat.le_trans (numE_len _) (wdE_len s)))
theorem dM_len (p : Nat) (y : Ev) (s : RS) : (dM rE p y s).2.b.length ≤ s.b.length := by
  match p with
  | 0 => exact numE_len s
  | 1 => exact wdE_len s
  | 2 => exact pl_le s
  | 3 => exact numE_len s
  | 4 => exact numE_len s
  | 5 => exact trE_len s
  | 6 => exact lsM_len rp_le _ s
  | 7 => exact Nat.le_trans (flM_le _) (Nat.le_trans (numE_len _) (numE_len s))
  | 8 => exact numE_len s
  | 9 => exact op_le s
  | 10 => exact lsM_len op_le _ s
  | 11 => exact flM_le s
  | n + 12 => exact Nat.le_refl _
theorem dM_lists (p : Nat) (y : Ev) (s : RS) : (p ≠ 6 → (dM rE p y s).1.reports = y.reports) ∧ (p ≠ 10 → (dM rE p y s).1.ops = y.ops) ∧ (dM rE p y s).1.kind = y.kind := by
  match p with
  | 0 => exact ⟨fun _ => rfl, fun _ => rfl, rfl⟩
  | 1 => exact ⟨fun _ => rfl, fun _ => rfl, rfl⟩
  | 2 => exact ⟨fun _ => rfl, fun _ => rfl, rfl⟩
  | 3 => exact ⟨fun _ => rfl, fun _ => rfl, rfl⟩
  | 4 => exact ⟨fun _ => rfl, fun _ => rfl, rfl⟩
  | 5 => exact ⟨fun _ => rfl, fun _ => rfl, rfl⟩
  | 6 => exact ⟨fun h => absurd rfl h, fun _ => rfl, rfl⟩
  | 7 => exact ⟨fun _ => rfl, fun _ => rfl, rfl⟩
  | 8 => exact ⟨fun _ => rfl, fun _ => rfl, rfl⟩
  | 9 => exact ⟨fun _ => rfl, fun _ => rfl, rfl⟩
  | 10 => exact ⟨fun _ => rfl, fun h => absurd rfl h, rfl⟩
  | 11 => exact ⟨fun _ => rfl, fun _ => rfl, rfl⟩
  | n + 12 => exact ⟨fun _ => rfl, fun _ => rfl, rfl⟩
theorem decM_snoc (R : Rdr) : ∀ (l : List Nat) (p : Nat) (y : Ev) (s : RS), decM R (l ++ [p]) y s = dM R p (decM R l y s).1 (decM R l y s).2
  | [], _, _, _ => rfl
  | q :: l, p, y, s => decM_snoc R l p (dM R q y s).1 (dM R q y s).2
/-- What is read of the first i parts. -/
def rdP (k : Int) (r : BL) (i : Nat) : Ev × RS := decM rE ((fieldsL k).take i) (ev0 k) ⟨r, false⟩
theorem fld_get {k : Int} {i : Nat} (h2 : i < (fieldsL k).length) : ((fldI k).getD i default).toNat = (fieldsL k)[i] := by
  unfold fldI
  rw [List.getD_eq_getElem?_getD, List.getElem?_map, List.getElem?_eq_getElem h2]
  exact Int.toNat_natCast _
theorem rdP_step {k : Int} {r : BL} {i : Nat} (h : i < (fldI k).length) : dM rE ((fldI k).getD i default).toNat (rdP k r i).1 (rdP k r i).2 = rdP k r (i + 1) := by
  have h2 : i < (fieldsL k).length := by unfold fldI at h; rw [List.length_map] at h; exact h
  have e := fld_get h2
  unfold rdP
  rw [e, List.take_add_one, List.getElem?_eq_getElem h2]
  exact (decM_snoc rE _ _ _ _).symm
theorem rdP_len (k : Int) (r : BL) : ∀ (i : Nat), (rdP k r i).2.b.length ≤ r.length
  | 0 => Nat.le_refl _
  | i + 1 => by
    by_cases h : i < (fldI k).length
    · rw [← rdP_step h]
      exact Nat.le_trans (dM_len _ _ _) (rdP_len k r i)
    have e : rdP k r (i + 1) = rdP k r i := by
      unfold rdP
      have h2 : (fieldsL k).length ≤ i := by unfold fldI at h; rw [List.length_map] at h; omega
      rw [List.take_of_length_le (by omega), List.take_of_length_le h2]
    rw [e]
    exact rdP_len k r i
theorem decM_lists : ∀ (l : List Nat) (y : Ev) (s : RS), (6 ∉ l → (decM rE l y s).1.reports = y.reports) ∧ (10 ∉ l → (decM rE l y s).1.ops = y.ops) ∧ (decM rE l y s).1.kind = y.kind
  | [], _, _ => ⟨fun _ => rfl, fun _ => rfl, rfl⟩
  | p :: l, y, s => by
    have h1 := dM_lists p y s
    have h2 := decM_lists l (dM rE p y s).1 (dM rE p y s).2
    refine ⟨fun h => ?_, fun h => ?_, h2.2.2.trans h1.2.2⟩
    · exact (h2.1 fun h' => h (by simp [h'])).trans (h1.1 fun e => h (by simp [e]))
    exact (h2.2.1 fun h' => h (by simp [h'])).trans (h1.2.1 fun e => h (by simp [e]))
theorem rdP_lists {k : Int} {r : BL} {i : Nat} (h : i < (fldI k).length) : (((fldI k).getD i default).toNat = 6 → (rdP k r i).1.reports = []) ∧ (((fldI k).getD i default).toNat = 10 → (rdP k r i).1.ops = []) := by
  have h2 : i < (fieldsL k).length := by unfold fldI at h; rw [List.length_map] at h; exact h
  have e := fld_get h2
  have hn := fields_nodup k
  have hni : (fieldsL k)[i] ∉ (fieldsL k).take i := fun hm => by
    obtain ⟨j, hj, ej⟩ := List.mem_iff_getElem.1 hm
    rw [List.length_take] at hj
    rw [List.getElem_take] at ej
    have := (List.getElem_inj hn).1 ej
    omega
  have h3 := decM_lists ((fieldsL k).take i) (ev0 k) ⟨r, false⟩
  rw [e]
  exact ⟨fun h6 => h3.1 (h6 ▸ hni), fun h10 => h3.2.1 (h10 ▸ hni)⟩
theorem rdP_end {k : Int} {r : BL} {i : Nat} (h : ¬ i < (fldI k).length) : rdP k r i = decM rE (fieldsL k) (ev0 k) ⟨r, false⟩ := by
  unfold rdP
  rw [List.take_of_length_le (by unfold fldI at h; rw [List.length_map] at h; omega)]
end Go.Proofs.YtfmnaigedgmhoaaDoor
namespace Go.Proofs.YtfmnaigedgmhoaaDoor
open Go.RowKit
set_option linter.unusedSimpArgs false
set_option linter.unusedVariables false
set_option maxRecDepth 100000
theorem ag95 : aggB Tryd.prog 95 = some false := by unfold aggB; kernel_rfl
def rdD (a : UInt8) (r : BL) : Ev × RS := decM rE (fieldsL (a.toNat : Int)) (ev0 (a.toNat : Int)) ⟨r, false⟩
theorem decB_rd (a : UInt8) (r : BL) : decB (a :: r) = if (rdD a r).2.bad = true ∨ (rdD a r).2.b ≠ [] then none else some (rdD a r).1 := (runD_eq rE_ok (a :: r)).symm
theorem dec_k {b : BL} (h : (decide ((b.length : Int) = 0) || !inB ((b.getD 0 default).toNat : Int) 1 14) = true) : decV b = (ev0 0, 4) := by
  match b, h with
  | [], _ => rfl
  | a :: r, h =>
    have h2 : inB (a.toNat : Int) 1 14 = false := by
      rcases (Bool.or_eq_true _ _).mp h with h | h
      · have := of_decide_eq_true h
        rw [List.length_cons] at this
        omega
      simpa using h
    unfold decV
    dsimp only
    rw [if_pos h2]
theorem dec_no {a : UInt8} {r : BL} (hk : inB (a.toNat : Int) 1 14 = true) (h : (rdD a r).2.bad = true ∨ (rdD a r).2.b ≠ [] ∨ valV (rdD a r).1 ≠ 0) : decV (a :: r) = (ev0 0, 3) := by
  unfold decV
  dsimp only
  rw [if_neg (by rw [hk]; decide), decB_rd]
  by_cases h1 : (rdD a r).2.bad = true ∨ (rdD a r).2.b ≠ []
  · rw [if_pos h1]
  rw [if_neg h1]
  have h2 : valV (rdD a r).1 ≠ 0 := by
    rcases h with h | h | h
    · exact absurd (.inl h) h1
    · exact absurd (.inr h) h1
    exact h
  dsimp only
  rw [if_neg h2]
theorem dec_yes {a : UInt8} {r : BL} (hk : inB (a.toNat : Int) 1 14 = true) (h1 : (rdD a r).2.bad = false) (h2 : (rdD a r).2.b = []) (h3 : valV (rdD a r).1 = 0) : decV (a :: r) = ((rdD a r).1, 0) := by
  unfold decV
  dsimp only
  rw [if_neg (by rw [hk]; decide), decB_rd, if_neg (fun h => h.elim (fun h => by rw [h1] at h; cases h) fun h => h h2)]
  dsimp only
  rw [if_pos h3]
theorem only_lists : ∀ (l : List Nat) (x y : Ev), (6 ∉ l → (onlyP l x y).reports = y.reports) ∧ (10 ∉ l → (onlyP l x y).ops = y.ops) ∧ (1 ∉ l → (onlyP l x y).text = y.text)
  | [], _, _ => ⟨fun _ => rfl, fun _ => rfl, fun _ => rfl⟩
  | p :: l, x, y => by
    have h2 := only_lists l x (setP p x y)
    have h1 : (p ≠ 6 → (setP p x y).reports = y.reports) ∧ (p ≠ 10 → (setP p x y).ops = y.ops) ∧ (p ≠ 1 → (setP p x y).text = y.text) := by
      unfold setP
      split <;> refine ⟨fun h => ?_, fun h => ?_, fun h => ?_⟩ <;> first | rfl | exact absurd rfl h
    exact ⟨fun h => (h2.1 fun h' => h (by simp [h'])).trans (h1.1 fun e => h (by simp [e])), fun h => (h2.2.1 fun h' => h (by simp [h'])).trans (h1.2.1 fun e => h (by simp [e])), fun h => (h2.2.2 fun h' => h (by simp [h'])).trans (h1.2.2 fun e => h (by simp [e]))⟩
theorem part_in {α : Type} {e : α → BL} : ∀ {l : List α} {x : α}, x ∈ l → (e x).length ≤ (l.flatMap e).length
  | y :: l, x, h => by
    rw [List.flatMap_cons, List.length_append]
    rcases List.mem_cons.1 h with rfl | h
    · omega
    have := part_in (e := e) h; omega
theorem len_in {α : Type} {e : α → BL} (he : ∀ x, 1 ≤ (e x).length) : ∀ (l : List α), l.length ≤ (l.flatMap e).length
  | [] => Nat.le_refl _
  | y :: l => by
    rw [List.flatMap_cons, List.length_append, List.length_cons]
    have := len_in he l
    have := he y
    omega
theorem rp_len1 (r : Report) : (eRp r).length = 9 + r.read.size := by
  show (b4 r.device ++ ([_] ++ eWd r.read)).length = _
  simp only [List.length_append, b4_len, wd_len, List.length_cons, List.length_nil]
  omega
theorem rd_sm {a : UInt8} {r : BL} (hl : r.length ≤ 1000000) (hk : inB (a.toNat : Int) 1 14 = true) (h1 : (rdD a r).2.bad = false) (h2 : (rdD a r).2.b = []) : (rdD a r).1.Sm := by
  have hd : decB (a :: r) = some (rdD a r).1 := by rw [decB_rd, if_neg (fun h => h.elim (fun h => by rw [h1] at h; cases h) fun h => h h2)]
  have hkk : (rdD a r).1.kind = (a.toNat : Int) := (decM_lists (fieldsL (a.toNat : Int)) (ev0 (a.toNat : Int)) ⟨r, false⟩).2.2
  obtain ⟨he, ho, -⟩ := decB_of hd (by rw [hkk]; exact inB_iff.1 hk)
  generalize (rdD a r).1 = x at he ho
  have hr : r = (fieldsL x.kind).flatMap (ePart x) := (List.cons.inj he).2
  have hp : ∀ p ∈ fieldsL x.kind, (ePart x p).length ≤ 1000000 := fun p hp => by
    have := part_in (e := ePart x) hp
    rw [← hr] at this
    omega
  have hol := only_lists (fieldsL x.kind) x (ev0 x.kind)
  rw [show onlyP (fieldsL x.kind) x (ev0 x.kind) = x from ho.symm] at hol
  refine ⟨?_, ?_, ?_, ?_⟩
  · by_cases h : 6 ∈ fieldsL x.kind
    · have h3 : (b4 (x.reports.length : Nat) ++ x.reports.flatMap eRp).length ≤ 1000000 := hp 6 h
      rw [List.length_append] at h3
      have := len_in (e := eRp) (fun x => by rw [rp_len1]; omega) x.reports
      omega
    rw [hol.1 h]; exact Nat.zero_le _
  · by_cases h : 10 ∈ fieldsL x.kind
    · have h3 : (b4 (x.ops.length : Nat) ++ x.ops.flatMap eOp).length ≤ 1000000 := hp 10 h
      rw [List.length_append] at h3
      have := len_in (e := eOp) (fun x => by rw [op_len]; omega) x.ops
      omega
    rw [hol.2.1 h]; exact Nat.zero_le _
  · by_cases h : 1 ∈ fieldsL x.kind
    · have h3 : (eWd x.text).length ≤ 1000000 := hp 1 h
      rw [wd_len] at h3
      omega
    rw [hol.2.2 h]; exact Nat.zero_le _
  intro q hq
  by_cases h : 6 ∈ fieldsL x.kind
  · have h3 : (b4 (x.reports.length : Nat) ++ x.reports.flatMap eRp).length ≤ 1000000 := hp 6 h
    rw [List.length_append] at h3
    have h4 := part_in (e := eRp) hq
    rw [rp_len1] at h4
    omega
  rw [hol.1 h] at hq; cases hq
theorem le_rd (k : Int) (r : BL) : RL (Le2 Tryd.prog) [rdC (ev0 k) (.v (.slice none 0 0)) (.v (.slice none 0 0)) ⟨r, false⟩].flatten [rowY (ev0 k) ⟨r, false⟩].flatten := by
  repeat (first | exact RL.nil | refine RL.cons Le2.same ?_ | refine RL.cons (Le2.nilo sz66) ?_ | refine RL.cons (Le2.nilo sz32) ?_)
set_option maxHeartbeats 8000000 in
theorem C20 {b : BL} (hl : b.length ≤ 1000000) : Fn Tryd.prog 20 [] [.ro (b.map bv)] [.agg (decV b).1.av, .v (.int .i64 (decV b).2)] [] := by
  refine Spec.body Tryd.func20 rfl Tryd.ntmps20 (by simp) rfl ?_; intro S0 own0 v0 w0 gl
  (refine AW.seq_k ?_; intro K hK)
  refine AW.region ?_
  refine awJ (op_alloc rfl ze35 rfl) ?_; (simp only [nA, Nat.reduceBEq, Nat.reduceEqDiff, ↓reduceIte])
  refine awP (op_assign rfl rfl) ?_
  refine AWL.nil ?_
  (refine hK _ ?_; clear hK K; (try simp only [nA, Nat.reduceBEq, Nat.reduceEqDiff, ↓reduceIte, Nat.reduceAdd, Nat.reduceSub]))
  (refine AW.seq_k ?_; intro K hK)
  (refine AW.seq_k ?_; intro K hK)
  refine AW.region (AWL.quiet ?_)
  refine aqP (op_move rfl rfl) ?_
  refine aqP (op_len_ro (n := b.length) rfl rfl Tryd.underlying43 (.inr (.inl ⟨_, rfl, by simp⟩))) ?_
  (refine aqP (op_eql rfl rfl rfl) ?_)
  refine aqP (op_move rfl rfl) ?_
  refine' aqOr' [_, _, _, _, _, _] [12,13,14,15,16,17] rfl rfl rfl rfl rfl rfl rfl rfl rfl rfl rfl rfl (fun hb => ?_) ?_; rotate_left
  ·
   (try simp only [hcS] at hb)
   refine aqP (op_move rfl rfl) ?_
   refine aqP (op_ia_ro 0 rfl (.inl rfl) rfl Tryd.underlying43 rfl (get_mapD (f := bv) (xs := b) (by omega)) (by exact sz5) (bl rfl)) ?_
   (refine aqR (op_load_rop1 rfl rfl ag5) ?_)
   refine aqP (op_conv rfl rfl Tryd.underlying5 Tryd.underlying3 (wrapB _)) ?_
   refine aqQ (op_callQ (b := true) rfl en37 (C37 (n := ((b.getD 0 default).toNat : Nat)) (lo := 1) (hi := 14)) (RL.cons (by exact View.same rfl) (RL.cons (by exact View.same rfl) (RL.cons (by exact View.same rfl) (RL.nil)))) rfl) ?_; (simp only [nA, ↓reduceIte])
   refine aqP (op_not rfl rfl rfl) ?_
   (refine aqSeg rfl rfl rfl ?_; repeat (first | exact fun _ _ => rfl | refine upd_out rfl ?_))
  simp only [nA, ↓reduceIte]
  refine AQ.nil ?_
  (refine hK _ ?_; clear hK K; (skip))
  refine AW.cond rfl rfl rfl (fun hc => ?_) (fun hc => ?_)
  ·
   have hc1 := hc
   (refine AW.seq_k ?_; intro K hK)
   refine AW.region ?_
   refine awP (op_build2 (xs := [.v (.int .i64 0), .v (.int .i64 0), .v (.string ⟨#[]⟩), .v (.int .i64 0), .v (.int .i64 0), .v (.int .i64 0), .v (.int .i64 0), .v (.int .i64 0), .v (.bool false), .v (.slice none 0 0), .v (.int .i64 0), .v (.int .i64 0), .v (.string ⟨#[]⟩), .v (.int .i64 0), .v (.string ⟨#[]⟩), .v (.int .i64 0), .v (.int .i64 0), .v (.int .i64 0), .v (.int .i64 0), .v (.int .i64 0), .v (.int .i64 0), .v (.int .i64 0), .v (.int .i64 0), .v (.int .i64 0), .v (.int .i64 0), .v (.int .i64 0), .v (.int .i64 0), .v (.slice none 0 0), .v (.string ⟨#[]⟩), .v (.int .i64 0), .v (.string ⟨#[]⟩), .v (.int .i64 0)]) rfl pl35 ze35 [] rfl rfl rfl) ?_
   refine awJ (op_store rfl rfl rfl rfl rfl rfl sz35 rfl (bl rfl) rfl) ?_; (simp only [nA, Nat.reduceBEq, Nat.reduceEqDiff, ↓reduceIte])
   refine awP (op_assign rfl rfl) ?_
   refine AWL.nil ?_
   (refine hK _ ?_; clear hK K; (try simp only [nA, Nat.reduceBEq, Nat.reduceEqDiff, ↓reduceIte, Nat.reduceAdd, Nat.reduceSub]))
   refine AW.gh (Gh.slot (r := 0) (es' := [(ev0 0).av]) rfl rfl (le_ev0s 0)) ?_; (try simp only [nA, Nat.reduceBEq, Nat.reduceEqDiff, ↓reduceIte, Nat.reduceAdd, Nat.reduceSub])
   refine AW.ret ?_; (try simp only [thenE, inBlk, Nat.reduceEqDiff, ↓reduceIte]); rw [dec_k hc1]; exact RQ.of0 rfl (.cell (bl rfl) rfl rfl rfl ag35 sz35 (bl rfl) rfl rfl (.tmp (bl rfl) rfl rfl .nil))
  have hc1 := hc; obtain ⟨a, r, rfl⟩ : ∃ a r, b = a :: r := (by match b, hc1 with | [], h => (simp at h) | a :: r, _ => exact ⟨a, r, rfl⟩); have hk0 : inB ((a.toNat : Nat) : Int) 1 14 = true := (by have h := (Bool.or_eq_false_iff.1 hc1).2; simpa using h); have hk := inB_iff.1 hk0; have hrl : r.length ≤ 1000000 := (by simp at hl; omega)
  refine AW.skip ?_
  (refine hK _ ?_; clear hK K; (try simp only [nA, Nat.reduceBEq, Nat.reduceEqDiff, ↓reduceIte, Nat.reduceAdd, Nat.reduceSub]))
  (refine AW.seq_k ?_; intro K hK)
  refine AW.quiet_tail 8 mix (by kernel_rfl) rfl rfl ?_
  refine aqP (op_move rfl rfl) ?_
  refine aqP (op_slice_ro 1 (a :: r).length rfl (.inl rfl) (by exact ⟨_, rfl⟩) (by simp [bndIs]) (by simp) (by simp) Tryd.underlying43 sz5 (bv_len (a :: r)) (es' := r.map bv) (by rw [List.take_of_length_le (by simp)]; rfl)) ?_; (simp only [nA, Nat.reduceEqDiff, ↓reduceIte])
  refine aqP (op_move rfl rfl) ?_
  refine aqP (op_ia_ro 0 rfl (.inl rfl) rfl Tryd.underlying43 rfl rfl (by exact sz5) (bl rfl)) ?_
  (refine aqR (op_load_rop1 rfl rfl ag5) ?_)
  refine aqP (op_conv rfl rfl Tryd.underlying5 Tryd.underlying3 (wrapB _)) ?_
  refine aqP (op_build2 (xs := [_, .v (.int .i64 0), .v (.string ⟨#[]⟩), .v (.int .i64 0), .v (.int .i64 0), .v (.int .i64 0), .v (.int .i64 0), .v (.int .i64 0), .v (.bool false), .v (.slice none 0 0), .v (.int .i64 0), .v (.int .i64 0), .v (.string ⟨#[]⟩), .v (.int .i64 0), .v (.string ⟨#[]⟩), .v (.int .i64 0), .v (.int .i64 0), .v (.int .i64 0), .v (.int .i64 0), .v (.int .i64 0), .v (.int .i64 0), .v (.int .i64 0), .v (.int .i64 0), .v (.int .i64 0), .v (.int .i64 0), .v (.int .i64 0), .v (.int .i64 0), .v (.slice none 0 0), .v (.string ⟨#[]⟩), .v (.int .i64 0), .v (.string ⟨#[]⟩), .v (.int .i64 0)]) rfl pl35 ze35 [(0, [_])] rfl rfl rfl) ?_
  refine aqP (op_build2 (xs := [_, _, _, _, _, _, _, _, _, _, _, _, _, _, _, _, _, _, _, _, _, _, _, _, _, _, _, _, _, _, _, _, _, .v (.bool false)]) rfl pl94 ze94 [(0, [_]), (1, [_, _, _, _, _, _, _, _, _, _, _, _, _, _, _, _, _, _, _, _, _, _, _, _, _, _, _, _, _, _, _, _])] rfl rfl rfl) ?_
  refine AQ.nil ?_
  refine awJ (op_box rfl rfl rfl sz94 rfl) ?_; (simp only [nA, Nat.reduceBEq, Nat.reduceEqDiff, ↓reduceIte]); refine AWL.gh (Gh.slot2 (r := 1) (es' := [rowY (ev0 ((a.toNat : Nat) : Int)) ⟨r, false⟩]) rfl rfl (le_rd ((a.toNat : Nat) : Int) r)) ?_; (try simp only [nA, Nat.reduceBEq, Nat.reduceEqDiff, ↓reduceIte, Nat.reduceAdd, Nat.reduceSub])
  refine awP (op_assign rfl rfl) ?_
  refine AWL.nil ?_
  (refine hK _ ?_; clear hK K; (simp only [nA]))
  (refine AW.seq_k ?_; intro K hK)
  refine AW.region ?_
  refine awJ (OpQ.j (op_callQA (b := true) rfl en44 (C44) (RL.nil) rfl)) ?_; (try simp only [nA, Nat.reduceBEq, Nat.reduceEqDiff, ↓reduceIte, Nat.reduceAdd, Nat.reduceSub])
  refine awJ (op_alloc rfl ze96 rfl) ?_; (simp only [nA, Nat.reduceBEq, Nat.reduceEqDiff, ↓reduceIte])
  refine awJ (op_store rfl rfl rfl rfl rfl rfl sz96 rfl (bl rfl) rfl) ?_; (simp only [nA, Nat.reduceBEq, Nat.reduceEqDiff, ↓reduceIte])
  refine AWL.nil ?_
  (refine hK _ ?_; clear hK K; (skip))
  (refine AW.seq_k ?_; intro K hK)
  (refine AW.seq_k ?_; intro K hK)
  refine AW.region ?_
  refine awP (op_move rfl rfl) ?_
  (refine awP (op_nil_slot rfl rfl rfl) ?_)
  (refine awP (op_fa_ptr rfl rfl rfl fl94_1 (by exact sz35) (by decide) rfl) ?_)
  (refine awP (op_fa_ptr rfl rfl rfl fl35_0 (by exact sz3) (by decide) rfl) ?_)
  (refine awR (op_load_ptr1 rfl rfl rfl rfl ag3 rfl rfl) ?_)
  refine awP (op_ia_glob (((a.toNat : Nat) : Int)).toNat rfl rfl Tryd.underlying79 (by show ((a.toNat : Nat) : Int) = _; omega) (fldI_row hk) (by exact sz78)) ?_
  (refine awR (op_load_rop1 rfl rfl ag78) ?_)
  refine awP (op_len_ro (n := (fldI ((a.toNat : Nat) : Int)).length) rfl rfl Tryd.underlying78 (.inr (.inl ⟨_, rfl, by simp⟩))) ?_
  refine awP (op_move rfl rfl) ?_
  refine AWL.nil ?_
  (refine hK _ ?_; clear hK K; (simp only [nA, Nat.reduceBEq, Nat.reduceEqDiff, ↓reduceIte]))
  refine AW.block ?_
  have hfn := fldI_len ((a.toNat : Nat) : Int); refine AW.loopI (fun i => [(2, .ptr 0 1 0 0), (4, .ptr 1 2 0 0), (5, .ptr 2 3 0 0), (36, .ro ((fldI ((a.toNat : Nat) : Int)).map fun n => [.v (.int .i64 n)])), (37, .v (.int .i64 (fldI ((a.toNat : Nat) : Int)).length)), (38, .v (.int .i64 (i : Nat)))]) (fun i => ⟨[(1, .own 35 [evC (ev0 0) (.v (.slice none 0 0)) (.v (.slice none 0 0))]), (2, .own 94 [rowY (rdP ((a.toNat : Nat) : Int) r i).1 (rdP ((a.toNat : Nat) : Int) r i).2]), (3, .own 96 [rdsA])], 4⟩) (fun i => i ≤ (fldI ((a.toNat : Nat) : Int)).length) (fun i => (fldI ((a.toNat : Nat) : Int)).length - i) 0 (by simp) ⟨rfl, rfl, rfl, rfl, rfl, rfl, trivial⟩ rfl ?_; intro i ρ hi; simp only [updL]
  (refine AW.seq_k ?_; intro K hK)
  refine AW.region ?_
  refine awP (op_lss rfl rfl rfl) ?_
  refine AWL.nil ?_
  (refine hK _ ?_; clear hK K; (try simp only [nA, Nat.reduceBEq, Nat.reduceEqDiff, ↓reduceIte, Nat.reduceAdd, Nat.reduceSub]))
  (refine AW.seq_k ?_; intro K hK)
  refine AW.cond rfl rfl rfl (fun hc => ?_) (fun hc => ?_)
  ·
   have hc2 := hc; have hlt : i < (fldI ((a.toNat : Nat) : Int)).length := (by simpa using hc2); have hpb := fldI_bd hlt; have hp11 : ((fldI ((a.toNat : Nat) : Int)).getD i default).toNat ≤ 11 := (by omega); have h610 := rdP_lists (r := r) hlt
   refine AW.skip ?_
   (refine hK _ ?_; clear hK K; (skip))
   (refine AW.seq_k ?_; intro K hK)
   refine AW.block ?_
   (refine AW.seq_k ?_; intro K hK)
   refine AW.region ?_
   refine awP (op_ia_ro i rfl (.inl rfl) rfl Tryd.underlying78 rfl (get_mapD (by omega)) (by exact sz80) (bl rfl)) ?_
   (refine awR (op_load_rop1 rfl rfl ag80) ?_)
   refine awP (op_assign rfl rfl) ?_
   refine AWL.nil ?_
   (refine hK _ ?_; clear hK K; (simp only [nA]))
   refine AW.region ?_
   refine awP (op_move rfl rfl) ?_
   refine awP (op_ia_arr ((fldI ((a.toNat : Nat) : Int)).getD i default).toNat 1 rfl rfl rfl rfl Tryd.underlying96 (by omega) (by omega) sz95 (j' := ((fldI ((a.toNat : Nat) : Int)).getD i default).toNat) (by omega)) ?_
   refine awR (op_load_ptr1 (row := rdsA) rfl rfl rfl rfl ag95 (rds_get hp11) rfl) ?_
   refine awP (op_move rfl rfl) ?_
   refine awJ (op_val1 rfl rfl (en_p hp11) (C73p hp11 (Nat.le_trans (rdP_len ((a.toNat : Nat) : Int) r i) hrl) h610.1 h610.2) (by exact rfl) (RL.cons .ptr RL.nil) (by exact ⟨_, _, _, rfl, rfl, rfl⟩) (by exact rfl) (by exact rfl) (by exact rfl)) ?_; (simp only [nA, ↓reduceIte])
   refine AWL.nil ?_
   (try simp only [thenE, inBlk, Nat.reduceEqDiff, ↓reduceIte])
   (refine hK _ ?_; clear hK K; (skip))
   refine AW.region ?_
   (refine awP (op_addi rfl rfl rfl (by omega)) ?_)
   refine awP (op_move rfl rfl) ?_
   skip
   refine AWL.nil ?_
   refine ⟨i + 1, by omega, by omega, ⟨rfl, rfl, rfl, rfl, rfl, rfl, trivial⟩, congrArg (fun z : Ev × RS => (⟨[(1, .own 35 [evC (ev0 0) (.v (.slice none 0 0)) (.v (.slice none 0 0))]), (2, .own 94 [rowY z.1 z.2]), (3, .own 96 [rdsA])], 4⟩ : Sl)) (rdP_step hlt), (by rfl)⟩
  have hc2 := hc; have hnl : ¬ i < (fldI ((a.toNat : Nat) : Int)).length := (by simpa using hc2); rw [show rdP ((a.toNat : Nat) : Int) r i = rdD a r from rdP_end hnl]; refine AW.gh (Gh.freezeC (r := 1) 0 10 rfl rfl rfl (rp_flat _) rfl) ?_; (try simp only [nA, Nat.reduceBEq, Nat.reduceEqDiff, ↓reduceIte, Nat.reduceAdd, Nat.reduceSub]); refine AW.gh (Gh.freezeC (r := 1) 0 28 rfl rfl rfl (op_flat _) rfl) ?_; (try simp only [nA, Nat.reduceBEq, Nat.reduceEqDiff, ↓reduceIte, Nat.reduceAdd, Nat.reduceSub])
  refine AW.exit ?_; (try simp only [thenE, inBlk, Nat.reduceEqDiff, ↓reduceIte])
  clear hK K
  (refine hK _ ?_; clear hK K; (skip))
  (refine AW.seq_k ?_; intro K hK)
  (refine AW.seq_k ?_; intro K hK)
  refine AW.region (AWL.quiet ?_)
  refine aqP (op_move rfl rfl) ?_
  (refine aqP (op_nil_slot rfl rfl rfl) ?_)
  (refine aqP (op_fa_ptr rfl rfl rfl fl94_2 (by exact sz4) (by decide) rfl) ?_)
  (refine aqR (op_load_ptr1 rfl rfl rfl rfl ag4 rfl rfl) ?_)
  refine aqP (op_move rfl rfl) ?_
  refine' aqOr' [_, _, _, _, _, _] [53,54,55,56,57,58] rfl rfl rfl rfl rfl rfl rfl rfl rfl rfl rfl rfl (fun hb => ?_) ?_; rotate_left
  ·
   (try simp only [hcS] at hb)
   refine aqP (op_move rfl rfl) ?_
   (refine aqP (op_nil_slot rfl rfl rfl) ?_)
   (refine aqP (op_fa_ptr rfl rfl rfl fl94_0 (by exact sz43) (by decide) rfl) ?_)
   (refine aqR (op_load_ptr1 rfl rfl rfl rfl ag43 rfl rfl) ?_)
   refine aqP (op_len_ro (n := (rdD a r).2.b.length) rfl rfl Tryd.underlying43 (.inr (.inl ⟨_, rfl, by simp⟩))) ?_
   refine aqP (op_gtr rfl rfl rfl) ?_
   (refine aqSeg rfl rfl rfl ?_; repeat (first | exact fun _ _ => rfl | refine upd_out rfl ?_))
  simp only [nA, ↓reduceIte]
  refine aqP (op_move rfl rfl) ?_
  refine' aqOr' [_, _, _, _, _, _] [61,62,63,64,65,66] rfl rfl rfl rfl rfl rfl rfl rfl rfl rfl rfl rfl (fun hb => ?_) ?_; rotate_left
  ·
   (try simp only [hcS] at hb)
   refine aqP (op_move rfl rfl) ?_
   (refine aqP (op_nil_slot rfl rfl rfl) ?_)
   (refine aqP (op_fa_ptr rfl rfl rfl fl94_1 (by exact sz35) (by decide) rfl) ?_)
   (refine aqR (op_load_ptr rfl rfl rfl rfl ag35 sz35 (bl rfl) rfl) ?_)
   refine aqQ (op_callQ (b := true) rfl en15 (C15 (x := (rdD a r).1) (by have hq : (rdD a r).2.bad = false ∧ (rdD a r).2.b = [] := (by simpa using hb); exact rd_sm hrl hk0 hq.1 hq.2)) (RL.cons (by exact View.same rfl) (RL.nil)) rfl) ?_; (simp only [nA, Nat.reduceEqDiff, ↓reduceIte])
   (refine aqP (op_neq rfl rfl rfl) ?_)
   (refine aqSeg rfl rfl rfl ?_; repeat (first | exact fun _ _ => rfl | refine upd_out rfl ?_))
  simp only [nA]
  refine AQ.nil ?_
  (refine hK _ ?_; clear hK K; (skip))
  refine AW.cond rfl rfl rfl (fun hc => ?_) (fun hc => ?_)
  ·
   have hc3 := hc
   (refine AW.seq_k ?_; intro K hK)
   refine AW.region ?_
   refine awP (op_build2 (xs := [.v (.int .i64 0), .v (.int .i64 0), .v (.string ⟨#[]⟩), .v (.int .i64 0), .v (.int .i64 0), .v (.int .i64 0), .v (.int .i64 0), .v (.int .i64 0), .v (.bool false), .v (.slice none 0 0), .v (.int .i64 0), .v (.int .i64 0), .v (.string ⟨#[]⟩), .v (.int .i64 0), .v (.string ⟨#[]⟩), .v (.int .i64 0), .v (.int .i64 0), .v (.int .i64 0), .v (.int .i64 0), .v (.int .i64 0), .v (.int .i64 0), .v (.int .i64 0), .v (.int .i64 0), .v (.int .i64 0), .v (.int .i64 0), .v (.int .i64 0), .v (.int .i64 0), .v (.slice none 0 0), .v (.string ⟨#[]⟩), .v (.int .i64 0), .v (.string ⟨#[]⟩), .v (.int .i64 0)]) rfl pl35 ze35 [] rfl rfl rfl) ?_
   refine awJ (op_store rfl rfl rfl rfl rfl rfl sz35 rfl (bl rfl) rfl) ?_; (try simp only [nA, Nat.reduceBEq, Nat.reduceEqDiff, ↓reduceIte, Nat.reduceAdd, Nat.reduceSub])
   refine awP (op_assign rfl rfl) ?_
   refine AWL.nil ?_
   (refine hK _ ?_; clear hK K; (try simp only [nA, Nat.reduceBEq, Nat.reduceEqDiff, ↓reduceIte, Nat.reduceAdd, Nat.reduceSub]))
   refine AW.gh (Gh.slot (r := 0) (es' := [(ev0 0).av]) rfl rfl (le_ev0s 0)) ?_; (try simp only [nA, Nat.reduceBEq, Nat.reduceEqDiff, ↓reduceIte, Nat.reduceAdd, Nat.reduceSub])
   refine AW.ret ?_; (try simp only [thenE, inBlk, Nat.reduceEqDiff, ↓reduceIte]); rw [dec_no hk0 (by have hq : ((rdD a r).2.bad = true ∨ ¬ (rdD a r).2.b = []) ∨ ¬ valV (rdD a r).1 = 0 := (by simpa [List.length_pos_iff] using hc3); rcases hq with (h | h) | h; exact .inl h; exact .inr (.inl h); exact .inr (.inr h))]; exact RQ.of0 rfl (.cell (bl rfl) rfl rfl rfl ag35 sz35 (bl rfl) rfl rfl (.tmp (bl rfl) rfl rfl .nil))
  have hc3 := hc
  refine AW.skip ?_
  (refine hK _ ?_; clear hK K; (skip))
  (refine AW.seq_k ?_; intro K hK)
  refine AW.region ?_
  refine awP (op_move rfl rfl) ?_
  (refine awP (op_nil_slot rfl rfl rfl) ?_)
  (refine awP (op_fa_ptr rfl rfl rfl fl94_1 (by exact sz35) (by decide) rfl) ?_)
  (refine awR (op_load_ptr rfl rfl rfl rfl ag35 sz35 (bl rfl) rfl) ?_)
  refine awJ (op_store rfl rfl rfl rfl rfl rfl sz35 rfl (bl rfl) rfl) ?_; (simp only [nA, Nat.reduceEqDiff, ↓reduceIte])
  refine awP (op_assign rfl rfl) ?_
  refine AWL.nil ?_
  (refine hK _ ?_; clear hK K; (try simp only [nA, Nat.reduceBEq, Nat.reduceEqDiff, ↓reduceIte, Nat.reduceAdd, Nat.reduceSub]))
  skip
  refine AW.ret ?_; (try simp only [thenE, inBlk, Nat.reduceEqDiff, ↓reduceIte]); obtain ⟨⟨h1, h2⟩, h3⟩ : ((rdD a r).2.bad = false ∧ (rdD a r).2.b = []) ∧ valV (rdD a r).1 = 0 := (by simpa using hc3); rw [dec_yes hk0 h1 h2 h3]; exact RQ.of0 rfl (.cell (bl rfl) rfl rfl rfl ag35 sz35 (bl rfl) rfl rfl (.tmp (bl rfl) rfl rfl .nil))
end Go.Proofs.YtfmnaigedgmhoaaDoor
