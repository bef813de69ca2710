import Derived.Test.YtdnofpggdddimaaSch
namespace Go.Proofs.Ytdnofpggdddimaa
open Go.RowKit
set_option linter.unusedSimpArgs false
set_option linter.unusedVariables false
set_option maxRecDepth 100000
def smallH (h : Hand) : Bool := (decide ((h.grants.length : Int) ≤ 70) && decide ((h.log.length : Int) ≤ 70)) && smallB h.conts
set_option maxHeartbeats 8000000 in
theorem C10 {h : Hand} : Fn Try.prog 10 [] [.agg h.av] [.v (.bool (smallH h))] [] := by
  refine Spec.smallA 0 5 rfl rfl fun hx => ?_
  refine Spec.body Try.func10 rfl Try.ntmps10 (by simp) rfl ?_; intro S0 own0 v0 w0
  (refine AW.seq_k ?_; intro K hK)
  refine AW.region ?_
  refine awJ (op_box rfl rfl rfl sz26 rfl) ?_; (simp only [nA, Nat.reduceBEq, Nat.reduceEqDiff, ↓reduceIte])
  refine awP (op_assign rfl rfl) ?_
  refine AWL.nil ?_
  (refine hK _ ?_; clear hK K; (simp only [nA, Nat.reduceBEq, Nat.reduceEqDiff, ↓reduceIte, Nat.reduceAdd, Nat.reduceSub]))
  (refine AW.seq_k ?_; intro K hK)
  refine AW.region (AWL.quiet ?_)
  (refine aqP (op_fa_ptr rfl rfl rfl fl26_4 (by exact sz22) (by decide) rfl) ?_)
  (refine aqR (op_load_ptr1 rfl rfl rfl rfl ag22 rfl rfl) ?_)
  refine aqP (op_len_ro (n := h.grants.length) rfl rfl Try.underlying22 (.inr (.inl ⟨_, rfl, by simp⟩))) ?_
  refine aqP (op_leq rfl rfl rfl) ?_
  refine aqP (op_move rfl rfl) ?_
  refine' aqAnd' [_, _, _, _] [8,9,10,11] rfl rfl rfl rfl rfl rfl rfl rfl rfl rfl rfl rfl (fun hb => ?_) ?_; rotate_left
  ·
   (try simp only [hcS] at hb)
   (refine aqP (op_fa_ptr rfl rfl rfl fl26_6 (by exact sz24) (by decide) rfl) ?_)
   (refine aqR (op_load_ptr1 rfl rfl rfl rfl ag24 rfl rfl) ?_)
   refine aqP (op_len_ro (n := h.log.length) rfl rfl Try.underlying24 (.inr (.inl ⟨_, rfl, by simp⟩))) ?_
   refine aqP (op_leq rfl rfl rfl) ?_
   (refine aqSeg rfl rfl rfl ?_; repeat (first | exact fun _ _ => rfl | refine upd_out rfl ?_))
  simp only [nA]
  refine aqP (op_move rfl rfl) ?_
  refine' aqAnd' [_, _, _] [14,15,16] rfl rfl rfl rfl rfl rfl rfl rfl rfl rfl rfl rfl (fun hb => ?_) ?_; rotate_left
  ·
   (try simp only [hcS] at hb)
   (refine aqP (op_fa_ptr rfl rfl rfl fl26_5 (by exact sz23) (by decide) rfl) ?_)
   (refine aqR (op_load_ptr1 rfl rfl rfl rfl ag23 rfl rfl) ?_)
   refine aqQ (op_callQ (b := true) rfl en28 (C28 (by simpa using hx)) (RL.cons (by exact View.same rfl) (RL.nil)) rfl) ?_; (simp only [nA])
   (refine aqSeg rfl rfl rfl ?_; repeat (first | exact fun _ _ => rfl | refine upd_out rfl ?_))
  simp only [nA]
  refine aqP (op_assign rfl rfl) ?_
  refine AQ.nil ?_
  (refine hK _ ?_; clear hK K; (simp only [nA]))
  skip
  refine AW.ret ?_; exact RQ.of0 rfl (.tmp (bl rfl) rfl rfl .nil)
theorem small_sm {h : Hand} (hh : smallH h = true) : h.Sm := by
  unfold smallH smallB at hh
  simp only [Bool.and_eq_true, decide_eq_true_eq, List.all_eq_true] at hh
  exact ⟨by omega, by omega, by omega, fun c hc => by have := hh.2.1 c hc; omega⟩
theorem DevI.bd {h : Hand} (hd : DevI h) : h.grants.length ≤ 60 ∧ h.conts.length ≤ 60 ∧ h.log.length ≤ 60 := by
  obtain ⟨-, -, v3, v4, v5⟩ := val_parts hd.v
  have h1 := (log_parts v5).1
  have h2 := chk_len (emp_parts v4)
  unfold grsB at v3
  simp only [Bool.and_eq_true, decide_eq_true_eq] at v3
  have h3 := v3.1
  omega
theorem spoilt_sm (l : List Int) (k : Nat) {h : Hand} (hd : DevI h) : (spoiltV l k h).2.Sm := by
  obtain ⟨h1, h2, h3⟩ := hd.bd
  obtain ⟨a, b, c, d⟩ := spoilt_bd l k h1 h2 h3 hd.s.p
  exact ⟨by omega, by omega, by omega, d⟩
theorem zeroH_sm : zeroH.Sm := ⟨Nat.zero_le _, Nat.zero_le _, Nat.zero_le _, fun c hc => by cases hc⟩
theorem scanR_sm {h : Hand} (hs : h.Sm) (k : Int) (p : Piece) (n t : Int) : (scanR h k p n t).1.Sm := by
  unfold scanR
  split
  · rename_i he; exact scan_sm hs he
  exact zeroH_sm
theorem at_map {α : Type} (f : α → List AV) {xs : List α} {j : Nat} (h : j < xs.length) : ∃ v, v ∈ xs ∧ (xs.map f)[j]? = some (f v) := ⟨xs[j], List.getElem_mem h, by rw [List.getElem?_map, List.getElem?_eq_getElem h]; rfl⟩
set_option maxHeartbeats 8000000 in
theorem C4 {raw : Hand} {l : List Int} {kind number now : Int} {p : Piece} : Fn Try.prog 4 [] [.agg raw.av, .ro (l.map iv), .v (.int .i64 kind), .v (.int .i64 number), .v (.int .i64 now), .agg p.av] [.v (.bool true)] [] := by
  refine Spec.body Try.func4 rfl Try.ntmps4 (by simp) rfl ?_; intro S0 own0 v0 w0
  (refine AW.seq_k ?_; intro K hK)
  refine AW.region ?_
  refine awJ (op_box rfl rfl rfl sz26 rfl) ?_; (simp only [nA, Nat.reduceBEq, Nat.reduceEqDiff, ↓reduceIte])
  refine awJ (op_box rfl rfl rfl sz31 rfl) ?_; (simp only [nA, Nat.reduceBEq, Nat.reduceEqDiff, ↓reduceIte])
  refine awP (op_assign rfl rfl) ?_
  refine AWL.nil ?_
  (refine hK _ ?_; clear hK K; (simp only [nA, Nat.reduceBEq, Nat.reduceEqDiff, ↓reduceIte, Nat.reduceAdd, Nat.reduceSub]))
  (refine AW.seq_k ?_; intro K hK)
  (refine AW.seq_k ?_; intro K hK)
  refine AW.region ?_
  (refine awR (op_load_ptr rfl rfl rfl rfl ag26 sz26 (bl rfl) rfl) ?_)
  refine awJ (OpQ.j (op_callQ (b := true) rfl en10 (C10 (h := raw)) (RL.cons (by exact View.same rfl) (RL.nil)) rfl)) ?_; (simp only [nA, Nat.reduceBEq, Nat.reduceEqDiff, ↓reduceIte, Nat.reduceAdd, Nat.reduceSub])
  refine awP (op_not rfl rfl rfl) ?_
  refine AWL.nil ?_
  (refine hK _ ?_; clear hK K; (simp only [nA, Nat.reduceBEq, Nat.reduceEqDiff, ↓reduceIte, Nat.reduceAdd, Nat.reduceSub]))
  refine AW.cond rfl rfl rfl (fun hc => ?_) (fun hc => ?_)
  ·
   have hc1 := hc
   (refine AW.seq_k ?_; intro K hK)
   refine AW.region ?_
   refine awP (op_assign rfl rfl) ?_
   refine AWL.nil ?_
   (refine hK _ ?_; clear hK K; (simp only [nA, Nat.reduceBEq, Nat.reduceEqDiff, ↓reduceIte, Nat.reduceAdd, Nat.reduceSub]))
   skip
   refine AW.ret ?_; (simp only [thenE, inBlk, Nat.reduceEqDiff, ↓reduceIte]); exact RQ.of0 rfl (.tmp (bl rfl) rfl rfl .nil)
  have hc1 := hc; have hsr : raw.Sm := small_sm (by simpa using hc1)
  refine AW.skip ?_
  (refine hK _ ?_; clear hK K; (skip))
  (refine AW.seq_k ?_; intro K hK)
  refine AW.region ?_
  refine awP (op_move rfl rfl) ?_
  refine awJ (op_callB rfl en11 (C11) (RL.cons (by exact View.same rfl) (RL.nil))) ?_; (simp only [nA, Nat.reduceBEq, Nat.reduceEqDiff, ↓reduceIte])
  refine awP (op_assign rfl rfl) ?_
  refine AWL.nil ?_
  (refine hK _ ?_; clear hK K; (simp only [nA]))
  (refine AW.seq_k ?_; intro K hK)
  refine AW.region ?_
  refine awP (op_move rfl rfl) ?_
  refine awJ (op_call1 rfl en16 (C16 (l := (l.take 2000)) (k0 := 0) (hl20 l)) (by exact rfl) (RL.cons .ptr (RL.nil)) (by exact ⟨_, _, _, rfl, rfl, rfl⟩) (by exact rfl) (by exact rfl) (by exact rfl)) ?_; (simp only [nA])
  refine awJ (op_alloc rfl ze26 rfl) ?_; (simp only [nA, Nat.reduceBEq, Nat.reduceEqDiff, ↓reduceIte])
  refine awJ (op_store rfl rfl rfl rfl rfl rfl sz26 rfl (bl rfl) rfl) ?_; (simp only [nA, Nat.reduceBEq, Nat.reduceEqDiff, ↓reduceIte])
  refine AWL.nil ?_
  (refine hK _ ?_; clear hK K; (skip))
  (refine AW.seq_k ?_; intro K hK)
  (refine AW.seq_k ?_; intro K hK)
  refine AW.ad [(0, 1, .own 26 [raw.av]), (3, 4, .own 26 [((devV (l.take 2000) 0).2).av])] mix rfl ?_
  (refine adR 0 rfl (fun T' ok => op_load_ptr rfl rfl (by exact ok.1) rfl ag26 sz26 (bl rfl) rfl) (by exact ⟨rfl, rfl, trivial⟩) (by kernel_rfl) (by kernel_rfl) ?_)
  (refine adR 1 rfl (fun T' ok => op_load_ptr rfl rfl (by exact ok.2.1) rfl ag26 sz26 (bl rfl) rfl) (by exact ⟨rfl, rfl, trivial⟩) (by kernel_rfl) (by kernel_rfl) ?_)
  refine adP 2 rfl (fun T' ok => op_move rfl rfl) (by exact ⟨rfl, rfl, trivial⟩) (by kernel_rfl) (by kernel_rfl) ?_
  refine adP 4 rfl (fun T' ok => op_move rfl rfl) (by exact ⟨rfl, rfl, trivial⟩) (by kernel_rfl) (by kernel_rfl) ?_
  (refine adR 5 rfl (fun T' ok => op_load_ptr rfl rfl (by exact ok.2.1) rfl ag26 sz26 (bl rfl) rfl) (by exact ⟨rfl, rfl, trivial⟩) (by kernel_rfl) (by kernel_rfl) ?_)
  refine adP 9 rfl (fun T' ok => op_move rfl rfl) (by exact ⟨rfl, rfl, trivial⟩) (by kernel_rfl) (by kernel_rfl) ?_
  refine adJ 3 rfl (op_call1 rfl en16 (C16 (l := (l.take 2000)) (k0 := (devV (l.take 2000) 0).1) (hl20 l)) (by exact rfl) (RL.cons .ptr (RL.nil)) (by exact ⟨_, _, _, rfl, rfl, rfl⟩) (by exact rfl) (by exact rfl) (by exact rfl)) (by kernel_rfl) (by exact ⟨rfl, rfl, trivial⟩) ?_; (simp only [nA, Nat.reduceBEq, Nat.reduceEqDiff, ↓reduceIte])
  refine adJ 6 rfl (op_call1 rfl en17 (C17 (l := (l.take 2000)) (k := (devV (l.take 2000) (devV (l.take 2000) 0).1).1) (h := (devV (l.take 2000) 0).2) (hl20 l) (devV_I _ _).s) (by exact rfl) (RL.cons .ptr (RL.cons (.base (by exact View.same rfl)) (RL.nil))) (by exact ⟨_, _, _, rfl, rfl, rfl⟩) (by exact rfl) (by exact rfl) (by exact rfl)) (by kernel_rfl) (by exact ⟨rfl, rfl, trivial⟩) ?_; (simp only [nA, Nat.reduceBEq, Nat.reduceEqDiff, ↓reduceIte, Nat.reduceAdd, Nat.reduceSub])
  refine adF 7 rfl (fun T' ok => OpJ.frz (op_buildSlice rfl [(0, raw.av), (1, ((devV (l.take 2000) 0).2).av), (2, ((devV (l.take 2000) (devV (l.take 2000) 0).1).2).av), (3, ((spoiltV (l.take 2000) (devV (l.take 2000) (devV (l.take 2000) 0).1).1 (devV (l.take 2000) 0).2).2).av)] (([raw, (devV (l.take 2000) 0).2, (devV (l.take 2000) (devV (l.take 2000) 0).1).2, (spoiltV (l.take 2000) (devV (l.take 2000) (devV (l.take 2000) 0).1).1 (devV (l.take 2000) 0).2).2] : List Hand).map Hand.av) Try.underlying38 ze26 rfl (by simp) rfl (by simp) rfl (bl rfl) (by simp [maxLen])) (hav_flat ([raw, (devV (l.take 2000) 0).2, (devV (l.take 2000) (devV (l.take 2000) 0).1).2, (spoiltV (l.take 2000) (devV (l.take 2000) (devV (l.take 2000) 0).1).1 (devV (l.take 2000) 0).2).2] : List Hand)) rfl) (by exact ⟨rfl, rfl, trivial⟩) (by kernel_rfl) (by kernel_rfl) ?_; (simp only [nA, Nat.reduceBEq, Nat.reduceEqDiff, ↓reduceIte, Nat.reduceAdd, Nat.reduceSub])
  refine adP 8 rfl (fun T' ok => op_len_ro (n := 4) rfl rfl Try.underlying38 (.inr (.inl ⟨_, rfl, rfl⟩))) (by exact ⟨rfl, rfl, trivial⟩) (by kernel_rfl) (by kernel_rfl) ?_
  refine adDone (by kernel_rfl) ?_
  (refine hK _ ?_; clear hK K; (simp only [nA, Nat.reduceBEq, Nat.reduceEqDiff, ↓reduceIte, Nat.reduceAdd, Nat.reduceSub]))
  refine AW.block ?_
  refine AW.gh (Gh.drop 3) ?_; (simp only [nA, Nat.reduceBEq, Nat.reduceEqDiff, ↓reduceIte, Nat.reduceAdd, Nat.reduceSub]); refine AW.loopI (fun (q : Nat × Nat × Nat) => [(2, .v (.int .i64 kind)), (3, .v (.int .i64 number)), (4, .v (.int .i64 now)), (11, .ptr 1 2 0 0), (13, .ptr 2 3 0 0), (47, .ro (([raw, (devV (l.take 2000) 0).2, (devV (l.take 2000) (devV (l.take 2000) 0).1).2, (spoiltV (l.take 2000) (devV (l.take 2000) (devV (l.take 2000) 0).1).1 (devV (l.take 2000) 0).2).2] : List Hand).map Hand.av)), (48, .v (.int .i64 (4 : Nat))), (49, .v (.int .i64 (q.1 : Nat)))]) (fun q => ⟨[(1, .own 26 [raw.av]), (2, .own 31 [p.av]), (3, .own 81 [srcRow (l.take 2000) q.2.1])], q.2.2⟩) (fun q => q.1 ≤ 4) (fun q => 4 - q.1) (0, _, _) (by simp) ⟨rfl, rfl, rfl, rfl, rfl, rfl, rfl, rfl, trivial⟩ rfl ?_; rintro ⟨i, k, ep⟩ ρ hi; dsimp only at hi ⊢; simp only [updL]; (simp only [nA, Nat.reduceBEq, Nat.reduceEqDiff, ↓reduceIte, Nat.reduceAdd, Nat.reduceSub])
  (refine AW.seq_k ?_; intro K hK)
  refine AW.region ?_
  refine awP (op_lss rfl rfl rfl) ?_
  refine AWL.nil ?_
  (refine hK _ ?_; clear hK K; (simp only [nA, Nat.reduceBEq, Nat.reduceEqDiff, ↓reduceIte, Nat.reduceAdd, Nat.reduceSub]))
  (refine AW.seq_k ?_; intro K hK)
  refine AW.cond rfl rfl rfl (fun hc => ?_) (fun hc => ?_)
  ·
   have hc2 := hc; have hi4 : i < 4 := (by have h : (i : Int) < ((4 : Nat) : Int) := of_decide_eq_true hc2; omega); obtain ⟨h, hm, hgi⟩ := at_map Hand.av (xs := ([raw, (devV (l.take 2000) 0).2, (devV (l.take 2000) (devV (l.take 2000) 0).1).2, (spoiltV (l.take 2000) (devV (l.take 2000) (devV (l.take 2000) 0).1).1 (devV (l.take 2000) 0).2).2] : List Hand)) hi4; have hsm : h.Sm := (by simp only [List.mem_cons, List.not_mem_nil, or_false] at hm; rcases hm with rfl | rfl | rfl | rfl; exact hsr; exact (devV_I _ _).s; exact (devV_I _ _).s; exact spoilt_sm _ _ (devV_I _ _)); clear hm
   refine AW.skip ?_
   (refine hK _ ?_; clear hK K; (skip))
   (refine AW.seq_k ?_; intro K hK)
   refine AW.block ?_
   (refine AW.seq_k ?_; intro K hK)
   refine AW.region ?_
   refine awP (op_ia_ro i rfl (.inl rfl) rfl Try.underlying38 rfl hgi (by exact sz26) (bl rfl)) ?_
   (refine awR (op_load_rop rfl rfl ag26 sz26 (bl rfl) (by decide) rfl) ?_)
   refine awJ (op_alloc rfl ze26 rfl) ?_; (simp only [nA, Nat.reduceBEq, Nat.reduceEqDiff, ↓reduceIte])
   refine awJ (op_store rfl rfl rfl rfl rfl rfl sz26 rfl (bl rfl) rfl) ?_; (simp only [nA, Nat.reduceBEq, Nat.reduceEqDiff, ↓reduceIte])
   refine AWL.nil ?_
   (refine hK _ ?_; clear hK K; (skip))
   (refine AW.seq_k ?_; intro K hK)
   refine AW.region ?_
   refine awP (op_move rfl rfl) ?_
   (refine awR (op_load_ptr rfl rfl rfl rfl ag26 sz26 (bl rfl) rfl) ?_)
   refine awJ (op_call1 rfl en25 (C25 (l := (l.take 2000)) (hl20 l) hsm) (by exact rfl) (RL.cons .ptr (RL.cons (.base (by exact View.same rfl)) (RL.nil))) (by exact ⟨_, _, _, rfl, rfl, rfl⟩) (by exact rfl) (by exact rfl) (by exact rfl)) ?_; (simp only [nA, ↓reduceIte])
   refine awP (op_move rfl rfl) ?_
   refine awP (op_extract rfl rfl rfl) ?_
   refine awP (op_extract rfl rfl rfl) ?_
   refine awJ (op_alloc rfl ze31 rfl) ?_; (simp only [nA, Nat.reduceBEq, Nat.reduceEqDiff, ↓reduceIte])
   refine awJ (op_store rfl rfl rfl rfl rfl rfl sz31 rfl (bl rfl) rfl) ?_; (simp only [nA, Nat.reduceBEq, Nat.reduceEqDiff, ↓reduceIte])
   refine awP (op_assign rfl rfl) ?_
   refine AWL.nil ?_
   (refine hK _ ?_; clear hK K; (simp only [nA, ↓reduceIte]))
   (refine AW.seq_k ?_; intro K hK)
   refine AW.region ?_
   refine awP (op_move rfl rfl) ?_
   refine awJ (OpJ.frz (op_buildSlice rfl [(0, iv kind), (1, iv 1), (2, iv 2)] (([kind, 1, 2] : List Int).map iv) Try.underlying27 ze3 rfl (by simp) (fold_dense 1 (([kind, 1, 2] : List Int).map iv) (iv_len _)) (iv_len _) rfl (bl rfl) (by simp [maxLen])) (iv_flat [kind, 1, 2]) rfl) ?_; (simp only [nA, ↓reduceIte])
   refine awP (op_len_ro (n := 3) rfl rfl Try.underlying27 (.inr (.inl ⟨_, rfl, rfl⟩))) ?_
   refine awP (op_move rfl rfl) ?_
   refine AWL.nil ?_
   (refine hK _ ?_; clear hK K; (simp only [nA, Nat.reduceBEq, Nat.reduceEqDiff, ↓reduceIte, Nat.reduceAdd, Nat.reduceSub]))
   refine AW.block ?_
   refine AW.loopI (fun (q : Nat × Nat × Nat) => [(2, .v (.int .i64 kind)), (3, .v (.int .i64 number)), (4, .v (.int .i64 now)), (11, .ptr 1 2 0 0), (13, .ptr 2 3 0 0), (47, .ro (([raw, (devV (l.take 2000) 0).2, (devV (l.take 2000) (devV (l.take 2000) 0).1).2, (spoiltV (l.take 2000) (devV (l.take 2000) (devV (l.take 2000) 0).1).1 (devV (l.take 2000) 0).2).2] : List Hand).map Hand.av)), (48, .v (.int .i64 (4 : Nat))), (49, .v (.int .i64 (i : Nat))), (16, .ptr 3 ep 0 0), (17, .ptr 4 (ep + 1) 0 0), (18, .v (.int .i64 (scanV (l.take 2000) h k).2.2)), (60, .ro (([kind, 1, 2] : List Int).map iv)), (61, .v (.int .i64 (3 : Nat))), (62, .v (.int .i64 (q.1 : Nat)))]) (fun q => ⟨[(1, .own 26 [raw.av]), (2, .own 31 [p.av]), (3, .own 81 [srcRow (l.take 2000) q.2.1]), (ep, .own 26 [h.av]), (ep + 1, .own 31 [((scanV (l.take 2000) h k).2.1).av])], q.2.2⟩) (fun q => q.1 ≤ 3) (fun q => 3 - q.1) (0, _, _) (by simp) ⟨rfl, rfl, rfl, rfl, rfl, rfl, rfl, rfl, rfl, rfl, rfl, rfl, rfl, rfl, trivial⟩ rfl ?_; rintro ⟨j, k2, e2⟩ ρ hj; dsimp only at hj ⊢; simp only [updL]; (simp only [nA, Nat.reduceBEq, Nat.reduceEqDiff, ↓reduceIte, Nat.reduceAdd, Nat.reduceSub])
   (refine AW.seq_k ?_; intro K hK)
   refine AW.region ?_
   refine awP (op_lss rfl rfl rfl) ?_
   refine AWL.nil ?_
   (refine hK _ ?_; clear hK K; (simp only [nA, Nat.reduceBEq, Nat.reduceEqDiff, ↓reduceIte, Nat.reduceAdd, Nat.reduceSub]))
   (refine AW.seq_k ?_; intro K hK)
   refine AW.cond rfl rfl rfl (fun hc => ?_) (fun hc => ?_)
   ·
    have hc3 := hc; have hj3 : j < 3 := (by have h : (j : Int) < ((3 : Nat) : Int) := of_decide_eq_true hc3; omega); obtain ⟨kd, -, hkd⟩ := at_map iv (xs := [kind, 1, 2]) hj3
    refine AW.skip ?_
    (refine hK _ ?_; clear hK K; (skip))
    (refine AW.seq_k ?_; intro K hK)
    refine AW.block ?_
    (refine AW.seq_k ?_; intro K hK)
    refine AW.region ?_
    refine awP (op_ia_ro j rfl (.inl rfl) rfl Try.underlying27 rfl hkd (by exact sz3) (bl rfl)) ?_
    (refine awR (op_load_rop1 rfl rfl ag3) ?_)
    refine awP (op_assign rfl rfl) ?_
    refine AWL.nil ?_
    (refine hK _ ?_; clear hK K; (simp only [nA]))
    (refine AW.seq_k ?_; intro K hK)
    refine AW.region ?_
    (refine awR (op_load_ptr rfl rfl rfl rfl ag31 sz31 (bl rfl) rfl) ?_)
    (refine awR (op_load_ptr rfl rfl rfl rfl ag31 sz31 (bl rfl) rfl) ?_)
    refine awJ (OpJ.frz (op_buildSlice rfl [(0, p.av), (1, ((scanV (l.take 2000) h k).2.1).av)] (([p, (scanV (l.take 2000) h k).2.1] : List Piece).map Piece.av) Try.underlying53 ze31 rfl (by simp) rfl (by simp) rfl (bl rfl) (by simp [maxLen])) (by simp [flatA]) rfl) ?_; (simp only [nA, Nat.reduceBEq, Nat.reduceEqDiff, ↓reduceIte, Nat.reduceAdd, Nat.reduceSub])
    refine awP (op_len_ro (n := 2) rfl rfl Try.underlying53 (.inr (.inl ⟨_, rfl, rfl⟩))) ?_
    refine awP (op_move rfl rfl) ?_
    refine AWL.nil ?_
    (refine hK _ ?_; clear hK K; (simp only [nA, Nat.reduceBEq, Nat.reduceEqDiff, ↓reduceIte, Nat.reduceAdd, Nat.reduceSub]))
    refine AW.block ?_
    refine AW.loopI (fun (q : Nat × Nat × Nat) => [(2, .v (.int .i64 kind)), (3, .v (.int .i64 number)), (4, .v (.int .i64 now)), (11, .ptr 1 2 0 0), (13, .ptr 2 3 0 0), (47, .ro (([raw, (devV (l.take 2000) 0).2, (devV (l.take 2000) (devV (l.take 2000) 0).1).2, (spoiltV (l.take 2000) (devV (l.take 2000) (devV (l.take 2000) 0).1).1 (devV (l.take 2000) 0).2).2] : List Hand).map Hand.av)), (48, .v (.int .i64 (4 : Nat))), (49, .v (.int .i64 (i : Nat))), (16, .ptr 3 ep 0 0), (17, .ptr 4 (ep + 1) 0 0), (18, .v (.int .i64 (scanV (l.take 2000) h k).2.2)), (60, .ro (([kind, 1, 2] : List Int).map iv)), (61, .v (.int .i64 (3 : Nat))), (62, .v (.int .i64 (j : Nat))), (20, .v (.int .i64 kd)), (68, .ro (([p, (scanV (l.take 2000) h k).2.1] : List Piece).map Piece.av)), (69, .v (.int .i64 (2 : Nat))), (70, .v (.int .i64 (q.1 : Nat)))]) (fun q => ⟨[(1, .own 26 [raw.av]), (2, .own 31 [p.av]), (3, .own 81 [srcRow (l.take 2000) q.2.1]), (ep, .own 26 [h.av]), (ep + 1, .own 31 [((scanV (l.take 2000) h k).2.1).av])], q.2.2⟩) (fun q => q.1 ≤ 2) (fun q => 2 - q.1) (0, _, _) (by simp) ⟨rfl, rfl, rfl, rfl, rfl, rfl, rfl, rfl, rfl, rfl, rfl, rfl, rfl, rfl, rfl, rfl, rfl, rfl, trivial⟩ rfl ?_; rintro ⟨m, k3, e3⟩ ρ hm; dsimp only at hm ⊢; simp only [updL]; (simp only [nA, Nat.reduceBEq, Nat.reduceEqDiff, ↓reduceIte, Nat.reduceAdd, Nat.reduceSub])
    (refine AW.seq_k ?_; intro K hK)
    refine AW.region ?_
    refine awP (op_lss rfl rfl rfl) ?_
    refine AWL.nil ?_
    (refine hK _ ?_; clear hK K; (simp only [nA, Nat.reduceBEq, Nat.reduceEqDiff, ↓reduceIte, Nat.reduceAdd, Nat.reduceSub]))
    (refine AW.seq_k ?_; intro K hK)
    refine AW.cond rfl rfl rfl (fun hc => ?_) (fun hc => ?_)
    ·
     have hc4 := hc; have hm2 : m < 2 := (by have h : (m : Int) < ((2 : Nat) : Int) := of_decide_eq_true hc4; omega); obtain ⟨pp, -, hpp⟩ := at_map Piece.av (xs := [p, (scanV (l.take 2000) h k).2.1]) hm2
     refine AW.skip ?_
     (refine hK _ ?_; clear hK K; (skip))
     (refine AW.seq_k ?_; intro K hK)
     refine AW.block ?_
     (refine AW.seq_k ?_; intro K hK)
     refine AW.region ?_
     refine awP (op_ia_ro m rfl (.inl rfl) rfl Try.underlying53 rfl hpp (by exact sz31) (bl rfl)) ?_
     (refine awR (op_load_rop rfl rfl ag31 sz31 (bl rfl) (by decide) rfl) ?_)
     refine awJ (op_alloc rfl ze31 rfl) ?_; (simp only [nA, Nat.reduceBEq, Nat.reduceEqDiff, ↓reduceIte])
     refine awJ (op_store rfl rfl rfl rfl rfl rfl sz31 rfl (bl rfl) rfl) ?_; (simp only [nA, Nat.reduceBEq, Nat.reduceEqDiff, ↓reduceIte])
     refine AWL.nil ?_
     (refine hK _ ?_; clear hK K; (skip))
     (refine AW.seq_k ?_; intro K hK)
     refine AW.region ?_
     refine awP (op_move rfl rfl) ?_
     refine awP (op_move rfl rfl) ?_
     refine awJ (OpJ.frz (op_buildSlice rfl [(0, iv number), (1, iv (scanV (l.take 2000) h k).2.2)] (([number, (scanV (l.take 2000) h k).2.2] : List Int).map iv) Try.underlying27 ze3 rfl (by simp) (fold_dense 1 (([number, (scanV (l.take 2000) h k).2.2] : List Int).map iv) (iv_len _)) (iv_len _) rfl (bl rfl) (by simp [maxLen])) (iv_flat [number, (scanV (l.take 2000) h k).2.2]) rfl) ?_; (simp only [nA, ↓reduceIte])
     refine awP (op_len_ro (n := 2) rfl rfl Try.underlying27 (.inr (.inl ⟨_, rfl, rfl⟩))) ?_
     refine awP (op_move rfl rfl) ?_
     refine AWL.nil ?_
     (refine hK _ ?_; clear hK K; (simp only [nA, Nat.reduceBEq, Nat.reduceEqDiff, ↓reduceIte, Nat.reduceAdd, Nat.reduceSub]))
     refine AW.block ?_
     refine AW.loopI (fun (q : Nat × Nat × Nat) => [(2, .v (.int .i64 kind)), (3, .v (.int .i64 number)), (4, .v (.int .i64 now)), (11, .ptr 1 2 0 0), (13, .ptr 2 3 0 0), (47, .ro (([raw, (devV (l.take 2000) 0).2, (devV (l.take 2000) (devV (l.take 2000) 0).1).2, (spoiltV (l.take 2000) (devV (l.take 2000) (devV (l.take 2000) 0).1).1 (devV (l.take 2000) 0).2).2] : List Hand).map Hand.av)), (48, .v (.int .i64 (4 : Nat))), (49, .v (.int .i64 (i : Nat))), (16, .ptr 3 ep 0 0), (17, .ptr 4 (ep + 1) 0 0), (18, .v (.int .i64 (scanV (l.take 2000) h k).2.2)), (60, .ro (([kind, 1, 2] : List Int).map iv)), (61, .v (.int .i64 (3 : Nat))), (62, .v (.int .i64 (j : Nat))), (20, .v (.int .i64 kd)), (68, .ro (([p, (scanV (l.take 2000) h k).2.1] : List Piece).map Piece.av)), (69, .v (.int .i64 (2 : Nat))), (70, .v (.int .i64 (m : Nat))), (22, .ptr 5 e3 0 0), (76, .ro (([number, (scanV (l.take 2000) h k).2.2] : List Int).map iv)), (77, .v (.int .i64 (2 : Nat))), (78, .v (.int .i64 (q.1 : Nat)))]) (fun q => ⟨[(1, .own 26 [raw.av]), (2, .own 31 [p.av]), (3, .own 81 [srcRow (l.take 2000) q.2.1]), (ep, .own 26 [h.av]), (ep + 1, .own 31 [((scanV (l.take 2000) h k).2.1).av]), (e3, .own 31 [pp.av])], q.2.2⟩) (fun q => q.1 ≤ 2) (fun q => 2 - q.1) (0, _, _) (by simp) ⟨rfl, rfl, rfl, rfl, rfl, rfl, rfl, rfl, rfl, rfl, rfl, rfl, rfl, rfl, rfl, rfl, rfl, rfl, rfl, rfl, rfl, rfl, trivial⟩ rfl ?_; rintro ⟨n4, k4, e4⟩ ρ hn; dsimp only at hn ⊢; simp only [updL]; (simp only [nA, Nat.reduceBEq, Nat.reduceEqDiff, ↓reduceIte, Nat.reduceAdd, Nat.reduceSub])
     (refine AW.seq_k ?_; intro K hK)
     refine AW.region ?_
     refine awP (op_lss rfl rfl rfl) ?_
     refine AWL.nil ?_
     (refine hK _ ?_; clear hK K; (simp only [nA, Nat.reduceBEq, Nat.reduceEqDiff, ↓reduceIte, Nat.reduceAdd, Nat.reduceSub]))
     (refine AW.seq_k ?_; intro K hK)
     refine AW.cond rfl rfl rfl (fun hc => ?_) (fun hc => ?_)
     ·
      have hc5 := hc; have hn2 : n4 < 2 := (by have h : (n4 : Int) < ((2 : Nat) : Int) := of_decide_eq_true hc5; omega); obtain ⟨nn, -, hnn⟩ := at_map iv (xs := [number, (scanV (l.take 2000) h k).2.2]) hn2; have hg9 := gmod_bd (x := rawV (l.take 2000) k4) (n := 9) (by decide)
      refine AW.skip ?_
      (refine hK _ ?_; clear hK K; (skip))
      (refine AW.seq_k ?_; intro K hK)
      refine AW.block ?_
      (refine AW.seq_k ?_; intro K hK)
      refine AW.region ?_
      refine awP (op_ia_ro n4 rfl (.inl rfl) rfl Try.underlying27 rfl hnn (by exact sz3) (bl rfl)) ?_
      (refine awR (op_load_rop1 rfl rfl ag3) ?_)
      refine awP (op_assign rfl rfl) ?_
      refine AWL.nil ?_
      (refine hK _ ?_; clear hK K; (simp only [nA]))
      (refine AW.seq_k ?_; intro K hK)
      refine AW.region ?_
      refine awP (op_move rfl rfl) ?_
      refine awP (op_move rfl rfl) ?_
      refine awJ (op_call1 rfl en12 (C12 (n := 9) (hl20 l) (by decide)) (by exact rfl) (RL.cons .ptr (RL.cons (.base (by exact View.same rfl)) (RL.nil))) (by exact ⟨_, _, _, rfl, rfl, rfl⟩) (by exact rfl) (by exact rfl) (by exact rfl)) ?_; (simp only [nA, ↓reduceIte])
      (refine awP (op_addi rfl rfl rfl (by omega)) ?_)
      refine awP (op_move rfl rfl) ?_
      refine awJ (op_call1 rfl en12 (C12 (n := 9) (hl20 l) (by decide)) (by exact rfl) (RL.cons .ptr (RL.cons (.base (by exact View.same rfl)) (RL.nil))) (by exact ⟨_, _, _, rfl, rfl, rfl⟩) (by exact rfl) (by exact rfl) (by exact rfl)) ?_; (simp only [nA, ↓reduceIte])
      refine awJ (OpJ.frz (op_buildSlice rfl [(0, iv now), (1, iv (20 + gmod (rawV (l.take 2000) k4) 9)), (2, iv (gmod (rawV (l.take 2000) (rawN (l.take 2000) k4)) 9))] (([now, (20 + gmod (rawV (l.take 2000) k4) 9), (gmod (rawV (l.take 2000) (rawN (l.take 2000) k4)) 9)] : List Int).map iv) Try.underlying27 ze3 rfl (by simp) (fold_dense 1 (([now, (20 + gmod (rawV (l.take 2000) k4) 9), (gmod (rawV (l.take 2000) (rawN (l.take 2000) k4)) 9)] : List Int).map iv) (iv_len _)) (iv_len _) rfl (bl rfl) (by simp [maxLen])) (iv_flat [now, (20 + gmod (rawV (l.take 2000) k4) 9), (gmod (rawV (l.take 2000) (rawN (l.take 2000) k4)) 9)]) rfl) ?_; (simp only [nA, Nat.reduceBEq, Nat.reduceEqDiff, ↓reduceIte, Nat.reduceAdd, Nat.reduceSub])
      refine awP (op_len_ro (n := 3) rfl rfl Try.underlying27 (.inr (.inl ⟨_, rfl, rfl⟩))) ?_
      refine awP (op_move rfl rfl) ?_
      refine AWL.nil ?_
      (refine hK _ ?_; clear hK K; (simp only [nA, Nat.reduceBEq, Nat.reduceEqDiff, ↓reduceIte, Nat.reduceAdd, Nat.reduceSub]))
      refine AW.block ?_
      refine AW.loopI (fun (q : Nat × Nat) => [(2, .v (.int .i64 kind)), (3, .v (.int .i64 number)), (4, .v (.int .i64 now)), (11, .ptr 1 2 0 0), (13, .ptr 2 3 0 0), (47, .ro (([raw, (devV (l.take 2000) 0).2, (devV (l.take 2000) (devV (l.take 2000) 0).1).2, (spoiltV (l.take 2000) (devV (l.take 2000) (devV (l.take 2000) 0).1).1 (devV (l.take 2000) 0).2).2] : List Hand).map Hand.av)), (48, .v (.int .i64 (4 : Nat))), (49, .v (.int .i64 (i : Nat))), (16, .ptr 3 ep 0 0), (17, .ptr 4 (ep + 1) 0 0), (18, .v (.int .i64 (scanV (l.take 2000) h k).2.2)), (60, .ro (([kind, 1, 2] : List Int).map iv)), (61, .v (.int .i64 (3 : Nat))), (62, .v (.int .i64 (j : Nat))), (20, .v (.int .i64 kd)), (68, .ro (([p, (scanV (l.take 2000) h k).2.1] : List Piece).map Piece.av)), (69, .v (.int .i64 (2 : Nat))), (70, .v (.int .i64 (m : Nat))), (22, .ptr 5 e3 0 0), (76, .ro (([number, (scanV (l.take 2000) h k).2.2] : List Int).map iv)), (77, .v (.int .i64 (2 : Nat))), (78, .v (.int .i64 (n4 : Nat))), (24, .v (.int .i64 nn)), (88, .ro (([now, (20 + gmod (rawV (l.take 2000) k4) 9), (gmod (rawV (l.take 2000) (rawN (l.take 2000) k4)) 9)] : List Int).map iv)), (89, .v (.int .i64 (3 : Nat))), (90, .v (.int .i64 (q.1 : Nat)))]) (fun q => ⟨[(1, .own 26 [raw.av]), (2, .own 31 [p.av]), (3, .own 81 [srcRow (l.take 2000) (rawN (l.take 2000) (rawN (l.take 2000) k4))]), (ep, .own 26 [h.av]), (ep + 1, .own 31 [((scanV (l.take 2000) h k).2.1).av]), (e3, .own 31 [pp.av])], q.2⟩) (fun q => q.1 ≤ 3) (fun q => 3 - q.1) (0, _) (by simp) ⟨rfl, rfl, rfl, rfl, rfl, rfl, rfl, rfl, rfl, rfl, rfl, rfl, rfl, rfl, rfl, rfl, rfl, rfl, rfl, rfl, rfl, rfl, rfl, rfl, rfl, rfl, trivial⟩ rfl ?_; rintro ⟨m5, e5⟩ ρ hm5; dsimp only at hm5 ⊢; simp only [updL]; (simp only [nA, Nat.reduceBEq, Nat.reduceEqDiff, ↓reduceIte, Nat.reduceAdd, Nat.reduceSub])
      (refine AW.seq_k ?_; intro K hK)
      refine AW.region ?_
      refine awP (op_lss rfl rfl rfl) ?_
      refine AWL.nil ?_
      (refine hK _ ?_; clear hK K; (simp only [nA, Nat.reduceBEq, Nat.reduceEqDiff, ↓reduceIte, Nat.reduceAdd, Nat.reduceSub]))
      (refine AW.seq_k ?_; intro K hK)
      refine AW.cond rfl rfl rfl (fun hc => ?_) (fun hc => ?_)
      ·
       have hc6 := hc; have hm3 : m5 < 3 := (by have h : (m5 : Int) < ((3 : Nat) : Int) := of_decide_eq_true hc6; omega); obtain ⟨tt, -, htt⟩ := at_map iv (xs := [now, (20 + gmod (rawV (l.take 2000) k4) 9), (gmod (rawV (l.take 2000) (rawN (l.take 2000) k4)) 9)]) hm3
       refine AW.skip ?_
       (refine hK _ ?_; clear hK K; (skip))
       (refine AW.seq_k ?_; intro K hK)
       refine AW.block ?_
       (refine AW.seq_k ?_; intro K hK)
       refine AW.region ?_
       refine awP (op_ia_ro m5 rfl (.inl rfl) rfl Try.underlying27 rfl htt (by exact sz3) (bl rfl)) ?_
       (refine awR (op_load_rop1 rfl rfl ag3) ?_)
       refine awP (op_assign rfl rfl) ?_
       refine AWL.nil ?_
       (refine hK _ ?_; clear hK K; (simp only [nA]))
       (refine AW.seq_k ?_; intro K hK)
       refine AW.region ?_
       (refine awR (op_load_ptr rfl rfl rfl rfl ag26 sz26 (bl rfl) rfl) ?_)
       refine awP (op_move rfl rfl) ?_
       (refine awR (op_load_ptr rfl rfl rfl rfl ag31 sz31 (bl rfl) rfl) ?_)
       refine awP (op_move rfl rfl) ?_
       refine awP (op_move rfl rfl) ?_
       refine awJ (op_call (b := false) rfl en26 (C26 (h := h) (k := kd) (p := pp) (n := nn) (t := tt) hsm) (RL.cons (by exact View.same rfl) (RL.cons (by exact View.same rfl) (RL.cons (by exact View.same rfl) (RL.cons (by exact View.same rfl) (RL.cons (by exact View.same rfl) (RL.nil)))))) rfl (fun h => by cases h) rfl rfl) ?_; (simp only [nA, ↓reduceIte])
       refine awP (op_move rfl rfl) ?_
       refine awP (op_extract rfl rfl rfl) ?_
       refine awP (op_extract rfl rfl rfl) ?_
       refine awP (op_extract rfl rfl rfl) ?_
       refine awJ (op_alloc rfl ze26 rfl) ?_; (simp only [nA, Nat.reduceBEq, Nat.reduceEqDiff, ↓reduceIte])
       refine awJ (op_alloc rfl ze33 rfl) ?_; (simp only [nA, Nat.reduceBEq, Nat.reduceEqDiff, ↓reduceIte])
       refine awJ (op_store rfl rfl rfl rfl rfl rfl sz26 rfl (bl rfl) rfl) ?_; (simp only [nA, Nat.reduceBEq, Nat.reduceEqDiff, ↓reduceIte])
       refine awJ (op_store rfl rfl rfl rfl rfl rfl sz33 rfl (bl rfl) rfl) ?_; (simp only [nA, Nat.reduceBEq, Nat.reduceEqDiff, ↓reduceIte])
       refine awP (op_assign rfl rfl) ?_
       refine AWL.nil ?_
       (refine hK _ ?_; clear hK K; (simp only [nA, ↓reduceIte]))
       (refine AW.seq_k ?_; intro K hK)
       refine AW.region ?_
       (refine awR (op_load_ptr rfl rfl rfl rfl ag26 sz26 (bl rfl) rfl) ?_)
       refine awP (op_move rfl rfl) ?_
       (refine awR (op_load_ptr rfl rfl rfl rfl ag31 sz31 (bl rfl) rfl) ?_)
       refine awP (op_move rfl rfl) ?_
       refine awP (op_move rfl rfl) ?_
       refine awJ (op_call (b := false) rfl en27 (C27 (h := h) (k := kd) (p := pp) (n := nn) (t := tt) hsm) (RL.cons (by exact View.same rfl) (RL.cons (by exact View.same rfl) (RL.cons (by exact View.same rfl) (RL.cons (by exact View.same rfl) (RL.cons (by exact View.same rfl) (RL.nil)))))) rfl (fun h => by cases h) rfl rfl) ?_; (simp only [nA, ↓reduceIte])
       refine awP (op_move rfl rfl) ?_
       refine awP (op_extract rfl rfl rfl) ?_
       refine awP (op_extract rfl rfl rfl) ?_
       refine awP (op_extract rfl rfl rfl) ?_
       refine awJ (op_alloc rfl ze26 rfl) ?_; (simp only [nA, Nat.reduceBEq, Nat.reduceEqDiff, ↓reduceIte])
       refine awJ (op_alloc rfl ze33 rfl) ?_; (simp only [nA, Nat.reduceBEq, Nat.reduceEqDiff, ↓reduceIte])
       refine awJ (op_store rfl rfl rfl rfl rfl rfl sz26 rfl (bl rfl) rfl) ?_; (simp only [nA, Nat.reduceBEq, Nat.reduceEqDiff, ↓reduceIte])
       refine awJ (op_store rfl rfl rfl rfl rfl rfl sz33 rfl (bl rfl) rfl) ?_; (simp only [nA, Nat.reduceBEq, Nat.reduceEqDiff, ↓reduceIte])
       refine awP (op_assign rfl rfl) ?_
       refine AWL.nil ?_
       (refine hK _ ?_; clear hK K; (simp only [nA, ↓reduceIte]))
       (refine AW.seq_k ?_; intro K hK)
       refine AW.region (AWL.quiet ?_)
       refine aqP (op_move rfl rfl) ?_
       refine aqP (op_move rfl rfl) ?_
       (refine aqP (op_neq rfl rfl rfl) ?_)
       refine aqP (op_move rfl rfl) ?_
       refine' aqOr' [_, _, _] [118,119,120] rfl rfl rfl rfl rfl rfl rfl rfl rfl rfl rfl rfl (fun hb => ?_) ?_; rotate_left
       ·
        (try simp only [hcS] at hb)
        (refine aqR (op_load_ptr rfl rfl rfl rfl ag33 sz33 (bl rfl) rfl) ?_)
        (refine aqR (op_load_ptr rfl rfl rfl rfl ag33 sz33 (bl rfl) rfl) ?_)
        refine aqP (op_neq33 (p := ((scanR h kd pp nn tt)).2.1) (q := ((scanR h kd pp nn tt)).2.1) rfl rfl rfl) ?_; (simp only [nA, ↓reduceIte])
        (refine aqSeg rfl rfl rfl ?_; repeat (first | exact fun _ _ => rfl | refine upd_out rfl ?_))
       simp only [nA, ↓reduceIte]
       refine aqP (op_move rfl rfl) ?_
       refine' aqOr' [_, _, _, _] [123,124,125,126] rfl rfl rfl rfl rfl rfl rfl rfl rfl rfl rfl rfl (fun hb => ?_) ?_; rotate_left
       ·
        (try simp only [hcS] at hb)
        (refine aqR (op_load_ptr rfl rfl rfl rfl ag26 sz26 (bl rfl) rfl) ?_)
        (refine aqR (op_load_ptr rfl rfl rfl rfl ag26 sz26 (bl rfl) rfl) ?_)
        refine aqQ (op_callQ (b := true) rfl en15 (C15 (a := ((scanR h kd pp nn tt)).1) (b := ((scanR h kd pp nn tt)).1) (scanR_sm hsm _ _ _ _)) (RL.cons (by exact View.same rfl) (RL.cons (by exact View.same rfl) (RL.nil))) rfl) ?_; (simp only [nA])
        refine aqP (op_not rfl rfl rfl) ?_
        (refine aqSeg rfl rfl rfl ?_; repeat (first | exact fun _ _ => rfl | refine upd_out rfl ?_))
       simp only [nA]
       refine AQ.nil ?_
       (refine hK _ ?_; clear hK K; (skip))
       refine AW.cond rfl rfl rfl (fun hc => ?_) (fun hc => ?_)
       · simp [opEq_self, sameH_self] at hc
       have hc7 := hc
       refine AW.skip ?_
       simp only [thenE, inBlk, Nat.reduceEqDiff, ↓reduceIte]
       (refine hK _ ?_; clear hK K; (skip))
       refine AW.region ?_
       (refine awP (op_addi rfl rfl rfl (by omega)) ?_)
       refine awP (op_move rfl rfl) ?_
       refine AWL.gh (Gh.drop 6) ?_; (simp only [nA])
       refine AWL.nil ?_
       refine ⟨(m5 + 1, _), by dsimp only; omega, by dsimp only; omega, ⟨rfl, rfl, rfl, rfl, rfl, rfl, rfl, rfl, rfl, rfl, rfl, rfl, rfl, rfl, rfl, rfl, rfl, rfl, rfl, rfl, rfl, rfl, rfl, rfl, rfl, rfl, trivial⟩, (by rfl), (by rfl)⟩
      have hc6 := hc
      refine AW.exit ?_; (simp only [thenE, inBlk, Nat.reduceEqDiff, ↓reduceIte])
      clear hK K
      (refine hK _ ?_; clear hK K; (skip))
      refine AW.region ?_
      (refine awP (op_addi rfl rfl rfl (by omega)) ?_)
      refine awP (op_move rfl rfl) ?_
      skip
      refine AWL.nil ?_
      refine ⟨(n4 + 1, _, _), by dsimp only; omega, by dsimp only; omega, ⟨rfl, rfl, rfl, rfl, rfl, rfl, rfl, rfl, rfl, rfl, rfl, rfl, rfl, rfl, rfl, rfl, rfl, rfl, rfl, rfl, rfl, rfl, trivial⟩, (by rfl), (by rfl)⟩
     have hc5 := hc
     refine AW.exit ?_; (simp only [thenE, inBlk, Nat.reduceEqDiff, ↓reduceIte])
     clear hK K
     (refine hK _ ?_; clear hK K; (skip))
     refine AW.region ?_
     (refine awP (op_addi rfl rfl rfl (by omega)) ?_)
     refine awP (op_move rfl rfl) ?_
     refine AWL.gh (Gh.drop 5) ?_; (simp only [nA])
     refine AWL.nil ?_
     refine ⟨(m + 1, _, _), by dsimp only; omega, by dsimp only; omega, ⟨rfl, rfl, rfl, rfl, rfl, rfl, rfl, rfl, rfl, rfl, rfl, rfl, rfl, rfl, rfl, rfl, rfl, rfl, trivial⟩, (by rfl), (by rfl)⟩
    have hc4 := hc
    refine AW.exit ?_; (simp only [thenE, inBlk, Nat.reduceEqDiff, ↓reduceIte])
    clear hK K
    (refine hK _ ?_; clear hK K; (skip))
    refine AW.region ?_
    (refine awP (op_addi rfl rfl rfl (by omega)) ?_)
    refine awP (op_move rfl rfl) ?_
    skip
    refine AWL.nil ?_
    refine ⟨(j + 1, _, _), by dsimp only; omega, by dsimp only; omega, ⟨rfl, rfl, rfl, rfl, rfl, rfl, rfl, rfl, rfl, rfl, rfl, rfl, rfl, rfl, trivial⟩, (by rfl), (by rfl)⟩
   have hc3 := hc
   refine AW.exit ?_; (simp only [thenE, inBlk, Nat.reduceEqDiff, ↓reduceIte])
   clear hK K
   (refine hK _ ?_; clear hK K; (skip))
   refine AW.region ?_
   (refine awP (op_addi rfl rfl rfl (by omega)) ?_)
   refine awP (op_move rfl rfl) ?_
   refine AWL.gh (Gh.drop 3) ?_; (simp only [nA])
   refine AWL.nil ?_
   refine ⟨(i + 1, _, _), by dsimp only; omega, by dsimp only; omega, ⟨rfl, rfl, rfl, rfl, rfl, rfl, rfl, rfl, trivial⟩, (by rfl), (by rfl)⟩
  have hc2 := hc
  refine AW.exit ?_; (simp only [thenE, inBlk, Nat.reduceEqDiff, ↓reduceIte])
  clear hK K
  (refine hK _ ?_; clear hK K; (skip))
  (refine AW.seq_k ?_; intro K hK)
  refine AW.region ?_
  refine awJ (OpQ.j (op_callQ (b := true) rfl en24 (C24) (RL.nil) rfl)) ?_; (simp only [nA, Nat.reduceBEq, Nat.reduceEqDiff, ↓reduceIte, Nat.reduceAdd, Nat.reduceSub])
  refine awP (op_assign rfl rfl) ?_
  refine AWL.nil ?_
  (refine hK _ ?_; clear hK K; (simp only [nA]))
  skip
  refine AW.ret ?_; exact RQ.of0 rfl (.tmp (bl rfl) rfl rfl .nil)
end Go.Proofs.Ytdnofpggdddimaa
namespace Go.Proofs.Ytdnofpggdddimaa
open Go.RowKit
set_option linter.unusedSimpArgs false
set_option linter.unusedVariables false
set_option maxRecDepth 100000
abbrev decIntSh : List Sh := [.int .i64]
theorem decInt {xs : List AV} (h : RL Mt xs decIntSh) : ∃ c : Int, xs = iv c := by
  obtain ⟨x0, xs, rfl, h0, h⟩ := h.cons_inv
  obtain rfl := h.nil_inv
  obtain ⟨v0, rfl⟩ := Mt.i64 h0
  exact ⟨v0, rfl⟩
abbrev decIntsSh : Sh := .sl decIntSh
theorem decInts {x : AV} (h : Mt x decIntsSh) : ∃ l : List Int, x = .ro (l.map iv) := by
  obtain ⟨es, rfl⟩ := h.sl_
  obtain ⟨l, rfl⟩ := rows_of fun e he => decInt (h.rows e he)
  exact ⟨l, rfl⟩
abbrev decPieceSh : List Sh := [.int .i64, .int .i64, .int .i64, .int .i64, .int .i64]
theorem decPiece {xs : List AV} (h : RL Mt xs decPieceSh) : ∃ c : Piece, xs = Piece.av c := by
  obtain ⟨x0, xs, rfl, h0, h⟩ := h.cons_inv
  obtain ⟨x1, xs, rfl, h1, h⟩ := h.cons_inv
  obtain ⟨x2, xs, rfl, h2, h⟩ := h.cons_inv
  obtain ⟨x3, xs, rfl, h3, h⟩ := h.cons_inv
  obtain ⟨x4, xs, rfl, h4, h⟩ := h.cons_inv
  obtain rfl := h.nil_inv
  obtain ⟨v0, rfl⟩ := Mt.i64 h0
  obtain ⟨v1, rfl⟩ := Mt.i64 h1
  obtain ⟨v2, rfl⟩ := Mt.i64 h2
  obtain ⟨v3, rfl⟩ := Mt.i64 h3
  obtain ⟨v4, rfl⟩ := Mt.i64 h4
  exact ⟨⟨⟨v0, v1, v2⟩, v3, v4⟩, rfl⟩
abbrev decPlateSh : List Sh := [.int .i64, .int .i64, .int .i64]
abbrev decContSh : List Sh := [.int .i64, .str, .int .i64, .str, .int .i64, .int .i64, .int .i64, .int .i64, .int .i64, .int .i64, .sl decPieceSh]
theorem decCont {xs : List AV} (h : RL Mt xs decContSh) : ∃ c : Container, xs = Container.av c := by
  obtain ⟨x0, xs, rfl, h0, h⟩ := h.cons_inv
  obtain ⟨x1, xs, rfl, h1, h⟩ := h.cons_inv
  obtain ⟨x2, xs, rfl, h2, h⟩ := h.cons_inv
  obtain ⟨x3, xs, rfl, h3, h⟩ := h.cons_inv
  obtain ⟨x4, xs, rfl, h4, h⟩ := h.cons_inv
  obtain ⟨x5, xs, rfl, h5, h⟩ := h.cons_inv
  obtain ⟨x6, xs, rfl, h6, h⟩ := h.cons_inv
  obtain ⟨x7, xs, rfl, h7, h⟩ := h.cons_inv
  obtain ⟨x8, xs, rfl, h8, h⟩ := h.cons_inv
  obtain ⟨x9, xs, rfl, h9, h⟩ := h.cons_inv
  obtain ⟨x10, xs, rfl, h10, h⟩ := h.cons_inv
  obtain rfl := h.nil_inv
  obtain ⟨v0, rfl⟩ := Mt.i64 h0
  obtain ⟨v1, rfl⟩ := Mt.s_ h1
  obtain ⟨v2, rfl⟩ := Mt.i64 h2
  obtain ⟨v3, rfl⟩ := Mt.s_ h3
  obtain ⟨v4, rfl⟩ := Mt.i64 h4
  obtain ⟨v5, rfl⟩ := Mt.i64 h5
  obtain ⟨v6, rfl⟩ := Mt.i64 h6
  obtain ⟨v7, rfl⟩ := Mt.i64 h7
  obtain ⟨v8, rfl⟩ := Mt.i64 h8
  obtain ⟨v9, rfl⟩ := Mt.i64 h9
  obtain ⟨e10, rfl⟩ := Mt.sl_ h10
  obtain ⟨v10, rfl⟩ := rows_of (fun e he => decPiece (h10.rows e he))
  exact ⟨⟨v0, ⟨v1, v2, v3, v4⟩, v5, v6, v7, v8, v9, v10⟩, rfl⟩
abbrev decContsSh : Sh := .sl decContSh
end Go.Proofs.Ytdnofpggdddimaa
namespace Go.Proofs.Ytdnofpggdddimaa
open Go.RowKit
set_option linter.unusedSimpArgs false
set_option linter.unusedVariables false
set_option maxRecDepth 100000
abbrev decISh : Sh := .int .i64
theorem decI {x : AV} (h : Mt x decISh) : ∃ n : Int, x = .v (.int .i64 n) := by
  obtain ⟨n, rfl⟩ := Mt.i64 h
  exact ⟨n, rfl⟩
abbrev decGrantSh : List Sh := [.int .i64, .int .i64, .int .i64, .int .i64, .int .i64, .str, .int .i64, .str, .int .i64]
theorem decGrant {xs : List AV} (h : RL Mt xs decGrantSh) : ∃ c : Grant, xs = Grant.av c := by
  obtain ⟨x0, xs, rfl, h0, h⟩ := h.cons_inv
  obtain ⟨x1, xs, rfl, h1, h⟩ := h.cons_inv
  obtain ⟨x2, xs, rfl, h2, h⟩ := h.cons_inv
  obtain ⟨x3, xs, rfl, h3, h⟩ := h.cons_inv
  obtain ⟨x4, xs, rfl, h4, h⟩ := h.cons_inv
  obtain ⟨x5, xs, rfl, h5, h⟩ := h.cons_inv
  obtain ⟨x6, xs, rfl, h6, h⟩ := h.cons_inv
  obtain ⟨x7, xs, rfl, h7, h⟩ := h.cons_inv
  obtain ⟨x8, xs, rfl, h8, h⟩ := h.cons_inv
  obtain rfl := h.nil_inv
  obtain ⟨v0, rfl⟩ := Mt.i64 h0
  obtain ⟨v1, rfl⟩ := Mt.i64 h1
  obtain ⟨v2, rfl⟩ := Mt.i64 h2
  obtain ⟨v3, rfl⟩ := Mt.i64 h3
  obtain ⟨v4, rfl⟩ := Mt.i64 h4
  obtain ⟨v5, rfl⟩ := Mt.s_ h5
  obtain ⟨v6, rfl⟩ := Mt.i64 h6
  obtain ⟨v7, rfl⟩ := Mt.s_ h7
  obtain ⟨v8, rfl⟩ := Mt.i64 h8
  exact ⟨⟨⟨⟨v0, v1, v2⟩, v3, v4⟩, ⟨v5, v6, v7, v8⟩⟩, rfl⟩
abbrev decOpSh : List Sh := [.int .i64, .int .i64, .int .i64, .int .i64, .int .i64, .int .i64, .int .i64, .int .i64, .int .i64, .int .i64]
theorem decOp {xs : List AV} (h : RL Mt xs decOpSh) : ∃ c : Op, xs = Op.av c := by
  obtain ⟨x0, xs, rfl, h0, h⟩ := h.cons_inv
  obtain ⟨x1, xs, rfl, h1, h⟩ := h.cons_inv
  obtain ⟨x2, xs, rfl, h2, h⟩ := h.cons_inv
  obtain ⟨x3, xs, rfl, h3, h⟩ := h.cons_inv
  obtain ⟨x4, xs, rfl, h4, h⟩ := h.cons_inv
  obtain ⟨x5, xs, rfl, h5, h⟩ := h.cons_inv
  obtain ⟨x6, xs, rfl, h6, h⟩ := h.cons_inv
  obtain ⟨x7, xs, rfl, h7, h⟩ := h.cons_inv
  obtain ⟨x8, xs, rfl, h8, h⟩ := h.cons_inv
  obtain ⟨x9, xs, rfl, h9, h⟩ := h.cons_inv
  obtain rfl := h.nil_inv
  obtain ⟨v0, rfl⟩ := Mt.i64 h0
  obtain ⟨v1, rfl⟩ := Mt.i64 h1
  obtain ⟨v2, rfl⟩ := Mt.i64 h2
  obtain ⟨v3, rfl⟩ := Mt.i64 h3
  obtain ⟨v4, rfl⟩ := Mt.i64 h4
  obtain ⟨v5, rfl⟩ := Mt.i64 h5
  obtain ⟨v6, rfl⟩ := Mt.i64 h6
  obtain ⟨v7, rfl⟩ := Mt.i64 h7
  obtain ⟨v8, rfl⟩ := Mt.i64 h8
  obtain ⟨v9, rfl⟩ := Mt.i64 h9
  exact ⟨⟨v0, v1, v2, v3, v4, ⟨⟨v5, v6, v7⟩, v8, v9⟩⟩, rfl⟩
abbrev decHandSh : List Sh := [.int .i64, .int .i64, .int .i64, .bool, .sl decGrantSh, .sl decContSh, .sl decOpSh]
theorem decHand {xs : List AV} (h : RL Mt xs decHandSh) : ∃ c : Hand, xs = Hand.av c := by
  obtain ⟨x0, xs, rfl, h0, h⟩ := h.cons_inv
  obtain ⟨x1, xs, rfl, h1, h⟩ := h.cons_inv
  obtain ⟨x2, xs, rfl, h2, h⟩ := h.cons_inv
  obtain ⟨x3, xs, rfl, h3, h⟩ := h.cons_inv
  obtain ⟨x4, xs, rfl, h4, h⟩ := h.cons_inv
  obtain ⟨x5, xs, rfl, h5, h⟩ := h.cons_inv
  obtain ⟨x6, xs, rfl, h6, h⟩ := h.cons_inv
  obtain rfl := h.nil_inv
  obtain ⟨v0, rfl⟩ := Mt.i64 h0
  obtain ⟨v1, rfl⟩ := Mt.i64 h1
  obtain ⟨v2, rfl⟩ := Mt.i64 h2
  obtain ⟨v3, rfl⟩ := Mt.b_ h3
  obtain ⟨e4, rfl⟩ := Mt.sl_ h4
  obtain ⟨v4, rfl⟩ := rows_of (fun e he => decGrant (h4.rows e he))
  obtain ⟨e5, rfl⟩ := Mt.sl_ h5
  obtain ⟨v5, rfl⟩ := rows_of (fun e he => decCont (h5.rows e he))
  obtain ⟨e6, rfl⟩ := Mt.sl_ h6
  obtain ⟨v6, rfl⟩ := rows_of (fun e he => decOp (h6.rows e he))
  exact ⟨⟨v0, v1, v2, v3, v4, v5, v6⟩, rfl⟩
end Go.Proofs.Ytdnofpggdddimaa
