import Derived.Test.YtdnofpggdddimaaVvh
namespace Go.Proofs.Ytdnofpggdddimaa
open Go.RowKit
set_option linter.unusedSimpArgs false
set_option linter.unusedVariables false
set_option maxRecDepth 100000
theorem newL_sm {n : Int} {d : Hand} (h : d ∈ newL n) : d.Sm := by
  unfold newL at h
  split at h
  · obtain ⟨k, _, rfl⟩ := List.mem_map.1 h
    exact on_sm _ _ _
  cases h
theorem newL_len (n : Int) : (newL n).length ≤ 6 := by
  unfold newL
  split
  · rename_i h
    unfold inB at h
    simp only [Bool.and_eq_true, decide_eq_true_eq] at h
    simp only [List.length_map, List.length_range]
    omega
  exact Nat.zero_le _
set_option maxHeartbeats 8000000 in
theorem C3 {raw : Hand} {l : List Int} {o : Op} {n : Int} : Fn Try.prog 3 [] [.agg raw.av, .ro (l.map iv), .agg o.av, .v (.int .i64 n)] [.v (.bool true)] [] := by
  refine Spec.body Try.func3 rfl Try.ntmps3 (by simp) rfl ?_; intro S0 own0 v0 w0
  (refine AW.seq_k ?_; intro K hK)
  refine AW.region ?_
  refine awJ (op_box rfl rfl rfl sz26 rfl) ?_; (simp only [nA, Nat.reduceBEq, Nat.reduceEqDiff, ↓reduceIte])
  refine awJ (op_box rfl rfl rfl sz33 rfl) ?_; (simp only [nA, Nat.reduceBEq, Nat.reduceEqDiff, ↓reduceIte])
  refine awP (op_assign rfl rfl) ?_
  refine AWL.nil ?_
  (refine hK _ ?_; clear hK K; (simp only [nA, Nat.reduceBEq, Nat.reduceEqDiff, ↓reduceIte, Nat.reduceAdd, Nat.reduceSub]))
  (refine AW.seq_k ?_; intro K hK)
  (refine AW.seq_k ?_; intro K hK)
  refine AW.region ?_
  (refine awR (op_load_ptr rfl rfl rfl rfl ag26 sz26 (bl rfl) rfl) ?_)
  refine awJ (OpQ.j (op_callQ (b := true) rfl en10 (C10 (h := raw)) (RL.cons (by exact View.same rfl) (RL.nil)) rfl)) ?_; (simp only [nA, Nat.reduceBEq, Nat.reduceEqDiff, ↓reduceIte, Nat.reduceAdd, Nat.reduceSub])
  refine awP (op_not rfl rfl rfl) ?_
  refine AWL.nil ?_
  (refine hK _ ?_; clear hK K; (simp only [nA, Nat.reduceBEq, Nat.reduceEqDiff, ↓reduceIte, Nat.reduceAdd, Nat.reduceSub]))
  refine AW.cond rfl rfl rfl (fun hc => ?_) (fun hc => ?_)
  ·
   have hc1 := hc
   (refine AW.seq_k ?_; intro K hK)
   refine AW.region ?_
   refine awP (op_assign rfl rfl) ?_
   refine AWL.nil ?_
   (refine hK _ ?_; clear hK K; (simp only [nA, Nat.reduceBEq, Nat.reduceEqDiff, ↓reduceIte, Nat.reduceAdd, Nat.reduceSub]))
   skip
   refine AW.ret ?_; (simp only [thenE, inBlk, Nat.reduceEqDiff, ↓reduceIte]); exact RQ.of0 rfl (.tmp (bl rfl) rfl rfl .nil)
  have hc1 := hc; have hsr : raw.Sm := small_sm (by simpa using hc1); have hg9 := gmod_bd (x := rawV (l.take 2000) 0) (n := 9) (by decide)
  refine AW.skip ?_
  (refine hK _ ?_; clear hK K; (skip))
  (refine AW.seq_k ?_; intro K hK)
  refine AW.region ?_
  refine awP (op_move rfl rfl) ?_
  refine awJ (op_callB rfl en11 (C11) (RL.cons (by exact View.same rfl) (RL.nil))) ?_; (simp only [nA, Nat.reduceBEq, Nat.reduceEqDiff, ↓reduceIte])
  refine awP (op_assign rfl rfl) ?_
  refine AWL.nil ?_
  (refine hK _ ?_; clear hK K; (simp only [nA]))
  (refine AW.seq_k ?_; intro K hK)
  (refine AW.seq_k ?_; intro K hK)
  refine AW.region ?_
  refine awP (op_move rfl rfl) ?_
  refine awP (op_move rfl rfl) ?_
  refine awJ (op_call1 rfl en12 (C12 (n := 9) (hl20 l) (by decide)) (by exact rfl) (RL.cons .ptr (RL.cons (.base (by exact View.same rfl)) (RL.nil))) (by exact ⟨_, _, _, rfl, rfl, rfl⟩) (by exact rfl) (by exact rfl) (by exact rfl)) ?_; (simp only [nA, ↓reduceIte])
  (refine awP (op_subi rfl rfl rfl (by omega)) ?_)
  refine awJ (OpJ.frz (op_buildSlice rfl [(0, iv n), (1, iv (gmod (rawV (l.take 2000) 0) 9 - 1))] (([n, (gmod (rawV (l.take 2000) 0) 9 - 1)] : List Int).map iv) Try.underlying27 ze3 rfl (by simp) (fold_dense 1 (([n, (gmod (rawV (l.take 2000) 0) 9 - 1)] : List Int).map iv) (iv_len _)) (iv_len _) rfl (bl rfl) (by simp [maxLen])) (iv_flat [n, (gmod (rawV (l.take 2000) 0) 9 - 1)]) rfl) ?_; (simp only [nA, Nat.reduceBEq, Nat.reduceEqDiff, ↓reduceIte, Nat.reduceAdd, Nat.reduceSub])
  refine awP (op_len_ro (n := 2) rfl rfl Try.underlying27 (.inr (.inl ⟨_, rfl, rfl⟩))) ?_
  refine awP (op_move rfl rfl) ?_
  refine AWL.nil ?_
  (refine hK _ ?_; clear hK K; (simp only [nA, Nat.reduceBEq, Nat.reduceEqDiff, ↓reduceIte, Nat.reduceAdd, Nat.reduceSub]))
  refine AW.block ?_
  refine AW.loopI (fun (i : Nat) => [(4, .ptr 0 1 0 0), (6, .ptr 1 2 0 0), (9, .ptr 2 3 0 0), (34, .ro (([n, (gmod (rawV (l.take 2000) 0) 9 - 1)] : List Int).map iv)), (35, .v (.int .i64 (2 : Nat))), (36, .v (.int .i64 (i : Nat)))]) (fun _ => ⟨[(1, .own 26 [raw.av]), (2, .own 33 [o.av]), (3, .own 81 [srcRow (l.take 2000) (rawN (l.take 2000) 0)])], _⟩) (fun i => i ≤ 2) (fun i => 2 - i) 0 (by simp) ⟨rfl, rfl, rfl, rfl, rfl, rfl, trivial⟩ rfl ?_; intro i ρ hi; simp only [updL]; (simp only [nA, Nat.reduceBEq, Nat.reduceEqDiff, ↓reduceIte, Nat.reduceAdd, Nat.reduceSub])
  (refine AW.seq_k ?_; intro K hK)
  refine AW.region ?_
  refine awP (op_lss rfl rfl rfl) ?_
  refine AWL.nil ?_
  (refine hK _ ?_; clear hK K; (simp only [nA, Nat.reduceBEq, Nat.reduceEqDiff, ↓reduceIte, Nat.reduceAdd, Nat.reduceSub]))
  (refine AW.seq_k ?_; intro K hK)
  refine AW.cond rfl rfl rfl (fun hc => ?_) (fun hc => ?_)
  ·
   have hc2 := hc; have hi2 : i < 2 := (by have h : (i : Int) < ((2 : Nat) : Int) := of_decide_eq_true hc2; omega); obtain ⟨nn, -, hnn⟩ := at_map iv (xs := [n, (gmod (rawV (l.take 2000) 0) 9 - 1)]) hi2
   refine AW.skip ?_
   (refine hK _ ?_; clear hK K; (skip))
   (refine AW.seq_k ?_; intro K hK)
   refine AW.block ?_
   (refine AW.seq_k ?_; intro K hK)
   refine AW.region ?_
   refine awP (op_ia_ro i rfl (.inl rfl) rfl Try.underlying27 rfl hnn (by exact sz3) (bl rfl)) ?_
   (refine awR (op_load_rop1 rfl rfl ag3) ?_)
   refine awP (op_assign rfl rfl) ?_
   refine AWL.nil ?_
   (refine hK _ ?_; clear hK K; (simp only [nA]))
   (refine AW.seq_k ?_; intro K hK)
   refine AW.region ?_
   refine awP (op_move rfl rfl) ?_
   refine awJ (op_call (b := false) rfl en13 (C13 (n := nn)) (RL.cons (by exact View.same rfl) (RL.nil)) rfl (fun h => by cases h) rfl rfl) ?_; (simp only [nA])
   refine awP (op_move rfl rfl) ?_
   refine awP (op_extract rfl rfl rfl) ?_
   refine awP (op_extract rfl rfl rfl) ?_
   refine awP (op_assign rfl rfl) ?_
   refine awP (op_assign rfl rfl) ?_
   refine AWL.nil ?_
   (refine hK _ ?_; clear hK K; (simp only [nA, ↓reduceIte]))
   (refine AW.seq_k ?_; intro K hK)
   refine AW.region ?_
   refine awP (op_move rfl rfl) ?_
   refine awJ (op_call (b := false) rfl en14 (C14 (n := nn)) (RL.cons (by exact View.same rfl) (RL.nil)) rfl (fun h => by cases h) rfl rfl) ?_; (simp only [nA, ↓reduceIte])
   refine awP (op_move rfl rfl) ?_
   refine awP (op_extract rfl rfl rfl) ?_
   refine awP (op_extract rfl rfl rfl) ?_
   refine awP (op_assign rfl rfl) ?_
   refine awP (op_assign rfl rfl) ?_
   refine AWL.nil ?_
   (refine hK _ ?_; clear hK K; (simp only [nA, ↓reduceIte]))
   (refine AW.seq_k ?_; intro K hK)
   (refine AW.seq_k ?_; intro K hK)
   refine AW.region (AWL.quiet ?_)
   refine aqP (op_move rfl rfl) ?_
   refine aqP (op_move rfl rfl) ?_
   (refine aqP (op_neq rfl rfl rfl) ?_)
   refine aqP (op_move rfl rfl) ?_
   refine' aqOr' [_, _, _, _, _] [54,55,56,57,58] rfl rfl rfl rfl rfl rfl rfl rfl rfl rfl rfl rfl (fun hb => ?_) ?_; rotate_left
   ·
    (try simp only [hcS] at hb)
    refine aqP (op_move rfl rfl) ?_
    refine aqP (op_len_ro (n := (newL nn).length) rfl rfl Try.underlying38 (.inr (.inl ⟨_, rfl, by simp⟩))) ?_
    refine aqP (op_move rfl rfl) ?_
    refine aqP (op_len_ro (n := (newL nn).length) rfl rfl Try.underlying38 (.inr (.inl ⟨_, rfl, by simp⟩))) ?_
    (refine aqP (op_neq rfl rfl rfl) ?_)
    (refine aqSeg rfl rfl rfl ?_; repeat (first | exact fun _ _ => rfl | refine upd_out rfl ?_))
   simp only [nA, ↓reduceIte]
   refine AQ.nil ?_
   (refine hK _ ?_; clear hK K; (skip))
   refine AW.cond rfl rfl rfl (fun hc => ?_) (fun hc => ?_)
   · simp at hc
   have hc3 := hc
   refine AW.skip ?_
   (refine hK _ ?_; clear hK K; (skip))
   (refine AW.seq_k ?_; intro K hK)
   refine AW.region ?_
   refine awP (op_move rfl rfl) ?_
   refine awP (op_len_ro (n := (newL nn).length) rfl rfl Try.underlying38 (.inr (.inl ⟨_, rfl, by simp⟩))) ?_
   refine awP (op_move rfl rfl) ?_
   refine AWL.nil ?_
   (refine hK _ ?_; clear hK K; (simp only [nA, Nat.reduceEqDiff, ↓reduceIte]))
   refine AW.block ?_
   refine AW.loopI (fun (j : Nat) => [(4, .ptr 0 1 0 0), (6, .ptr 1 2 0 0), (9, .ptr 2 3 0 0), (34, .ro (([n, (gmod (rawV (l.take 2000) 0) 9 - 1)] : List Int).map iv)), (35, .v (.int .i64 (2 : Nat))), (36, .v (.int .i64 (i : Nat))), (12, .ro ((newL nn).map Hand.av)), (14, .ro ((newL nn).map Hand.av)), (60, .ro ((newL nn).map Hand.av)), (61, .v (.int .i64 ((newL nn).length : Nat))), (62, .v (.int .i64 (j : Nat)))]) (fun _ => ⟨[(1, .own 26 [raw.av]), (2, .own 33 [o.av]), (3, .own 81 [srcRow (l.take 2000) (rawN (l.take 2000) 0)])], _⟩) (fun j => j ≤ (newL nn).length) (fun j => (newL nn).length - j) 0 (by simp) ⟨rfl, rfl, rfl, rfl, rfl, rfl, rfl, rfl, rfl, rfl, rfl, trivial⟩ rfl ?_; intro j ρ hj; simp only [updL]; (simp only [nA, Nat.reduceBEq, Nat.reduceEqDiff, ↓reduceIte, Nat.reduceAdd, Nat.reduceSub])
   (refine AW.seq_k ?_; intro K hK)
   refine AW.region ?_
   refine awP (op_lss rfl rfl rfl) ?_
   refine AWL.nil ?_
   (refine hK _ ?_; clear hK K; (simp only [nA, Nat.reduceBEq, Nat.reduceEqDiff, ↓reduceIte, Nat.reduceAdd, Nat.reduceSub]))
   (refine AW.seq_k ?_; intro K hK)
   refine AW.cond rfl rfl rfl (fun hc => ?_) (fun hc => ?_)
   ·
    have hc4 := hc; have hjl : j < (newL nn).length := (by simpa using hc4); have hn6 := newL_len nn; obtain ⟨d, hd, hgd⟩ := at_map Hand.av hjl
    refine AW.skip ?_
    (refine hK _ ?_; clear hK K; (skip))
    (refine AW.seq_k ?_; intro K hK)
    refine AW.block ?_
    (refine AW.seq_k ?_; intro K hK)
    refine AW.region ?_
    refine awP (op_move rfl rfl) ?_
    refine awP (op_assign rfl rfl) ?_
    refine AWL.nil ?_
    (refine hK _ ?_; clear hK K; (simp only [nA, ↓reduceIte]))
    (refine AW.seq_k ?_; intro K hK)
    refine AW.quiet mix (by kernel_rfl) ?_
    refine aqP (op_move rfl rfl) ?_
    refine aqP (op_move rfl rfl) ?_
    refine aqP (op_ia_ro j rfl (.inl rfl) rfl Try.underlying38 rfl hgd (by exact sz26) (bl rfl)) ?_
    (refine aqR (op_load_rop rfl rfl ag26 sz26 (bl rfl) (by decide) rfl) ?_)
    refine aqP (op_move rfl rfl) ?_
    refine aqP (op_move rfl rfl) ?_
    refine aqP (op_ia_ro j rfl (.inl rfl) rfl Try.underlying38 rfl hgd (by exact sz26) (bl rfl)) ?_
    (refine aqR (op_load_rop rfl rfl ag26 sz26 (bl rfl) (by decide) rfl) ?_)
    refine aqQ (op_callQ (b := true) rfl en15 (C15 (a := d) (b := d) (newL_sm hd)) (RL.cons (by exact View.same rfl) (RL.cons (by exact View.same rfl) (RL.nil))) rfl) ?_; (simp only [nA, ↓reduceIte])
    refine aqP (op_not rfl rfl rfl) ?_
    refine AQ.nil ?_
    (refine hK _ ?_; clear hK K; (simp only [nA, Nat.reduceBEq, Nat.reduceEqDiff, ↓reduceIte, Nat.reduceAdd, Nat.reduceSub]))
    refine AW.cond rfl rfl rfl (fun hc => ?_) (fun hc => ?_)
    · simp [sameH_self] at hc
    have hc5 := hc
    refine AW.skip ?_
    simp only [thenE, inBlk, Nat.reduceEqDiff, ↓reduceIte]
    (refine hK _ ?_; clear hK K; (skip))
    refine AW.region ?_
    (refine awP (op_addi rfl rfl rfl (by omega)) ?_)
    refine awP (op_move rfl rfl) ?_
    skip
    refine AWL.nil ?_
    refine ⟨j + 1, by omega, by omega, ⟨rfl, rfl, rfl, rfl, rfl, rfl, rfl, rfl, rfl, rfl, rfl, trivial⟩, (by rfl), (by rfl)⟩
   have hc4 := hc
   refine AW.exit ?_; (simp only [thenE, inBlk, Nat.reduceEqDiff, ↓reduceIte])
   clear hK K
   (refine hK _ ?_; clear hK K; (skip))
   refine AW.region ?_
   (refine awP (op_addi rfl rfl rfl (by omega)) ?_)
   refine awP (op_move rfl rfl) ?_
   skip
   refine AWL.nil ?_
   refine ⟨i + 1, by omega, by omega, ⟨rfl, rfl, rfl, rfl, rfl, rfl, trivial⟩, (by rfl), (by rfl)⟩
  have hc2 := hc
  refine AW.exit ?_; (simp only [thenE, inBlk, Nat.reduceEqDiff, ↓reduceIte])
  clear hK K
  (refine hK _ ?_; clear hK K; (skip))
  (refine AW.seq_k ?_; intro K hK)
  refine AW.region ?_
  refine awP (op_move rfl rfl) ?_
  refine awJ (op_call1 rfl en16 (C16 (l := (l.take 2000)) (k0 := (rawN (l.take 2000) 0)) (hl20 l)) (by exact rfl) (RL.cons .ptr (RL.nil)) (by exact ⟨_, _, _, rfl, rfl, rfl⟩) (by exact rfl) (by exact rfl) (by exact rfl)) ?_; (simp only [nA, ↓reduceIte])
  refine awJ (op_alloc rfl ze26 rfl) ?_; (simp only [nA, Nat.reduceBEq, Nat.reduceEqDiff, ↓reduceIte])
  refine awJ (op_store rfl rfl rfl rfl rfl rfl sz26 rfl (bl rfl) rfl) ?_; (simp only [nA, Nat.reduceBEq, Nat.reduceEqDiff, ↓reduceIte])
  refine AWL.nil ?_
  (refine hK _ ?_; clear hK K; (skip))
  (refine AW.seq_k ?_; intro K hK)
  (refine AW.seq_k ?_; intro K hK)
  refine AW.ad [(0, 1, .own 26 [raw.av]), (3, 4, .own 26 [((devV (l.take 2000) (rawN (l.take 2000) 0)).2).av])] mix rfl ?_
  (refine adR 0 rfl (fun T' ok => op_load_ptr rfl rfl (by exact ok.1) rfl ag26 sz26 (bl rfl) rfl) (by exact ⟨rfl, rfl, trivial⟩) (by kernel_rfl) (by kernel_rfl) ?_)
  (refine adR 1 rfl (fun T' ok => op_load_ptr rfl rfl (by exact ok.2.1) rfl ag26 sz26 (bl rfl) rfl) (by exact ⟨rfl, rfl, trivial⟩) (by kernel_rfl) (by kernel_rfl) ?_)
  refine adP 2 rfl (fun T' ok => op_move rfl rfl) (by exact ⟨rfl, rfl, trivial⟩) (by kernel_rfl) (by kernel_rfl) ?_
  (refine adR 3 rfl (fun T' ok => op_load_ptr rfl rfl (by exact ok.2.1) rfl ag26 sz26 (bl rfl) rfl) (by exact ⟨rfl, rfl, trivial⟩) (by kernel_rfl) (by kernel_rfl) ?_)
  refine adP 5 rfl (fun T' ok => op_move rfl rfl) (by exact ⟨rfl, rfl, trivial⟩) (by kernel_rfl) (by kernel_rfl) ?_
  refine adP 6 rfl (fun T' ok => op_move rfl rfl) (by exact ⟨rfl, rfl, trivial⟩) (by kernel_rfl) (by kernel_rfl) ?_
  (refine adR 7 rfl (fun T' ok => op_load_ptr rfl rfl (by exact ok.2.1) rfl ag26 sz26 (bl rfl) rfl) (by exact ⟨rfl, rfl, trivial⟩) (by kernel_rfl) (by kernel_rfl) ?_)
  refine adP 12 rfl (fun T' ok => op_move rfl rfl) (by exact ⟨rfl, rfl, trivial⟩) (by kernel_rfl) (by kernel_rfl) ?_
  refine adJ 4 rfl (op_call1 rfl en17 (C17 (l := (l.take 2000)) (k := (devV (l.take 2000) (rawN (l.take 2000) 0)).1) (h := (devV (l.take 2000) (rawN (l.take 2000) 0)).2) (hl20 l) (devV_I _ _).s) (by exact rfl) (RL.cons .ptr (RL.cons (.base (by exact View.same rfl)) (RL.nil))) (by exact ⟨_, _, _, rfl, rfl, rfl⟩) (by exact rfl) (by exact rfl) (by exact rfl)) (by kernel_rfl) (by exact ⟨rfl, rfl, trivial⟩) ?_; (simp only [nA, Nat.reduceBEq, Nat.reduceEqDiff, ↓reduceIte])
  refine adJ 8 rfl (op_call1 rfl en17 (C17 (l := (l.take 2000)) (k := ((spoiltV (l.take 2000) (devV (l.take 2000) (rawN (l.take 2000) 0)).1 (devV (l.take 2000) (rawN (l.take 2000) 0)).2)).1) (h := (devV (l.take 2000) (rawN (l.take 2000) 0)).2) (hl20 l) (devV_I _ _).s) (by exact rfl) (RL.cons .ptr (RL.cons (.base (by exact View.same rfl)) (RL.nil))) (by exact ⟨_, _, _, rfl, rfl, rfl⟩) (by exact rfl) (by exact rfl) (by exact rfl)) (by kernel_rfl) (by exact ⟨rfl, rfl, trivial⟩) ?_; (simp only [nA, Nat.reduceBEq, Nat.reduceEqDiff, ↓reduceIte, Nat.reduceAdd, Nat.reduceSub])
  refine adJ 9 rfl (op_call1 rfl en17 (C17 (l := (l.take 2000)) (k := ((spoiltV (l.take 2000) ((spoiltV (l.take 2000) (devV (l.take 2000) (rawN (l.take 2000) 0)).1 (devV (l.take 2000) (rawN (l.take 2000) 0)).2)).1 (devV (l.take 2000) (rawN (l.take 2000) 0)).2)).1) (h := ((spoiltV (l.take 2000) ((spoiltV (l.take 2000) (devV (l.take 2000) (rawN (l.take 2000) 0)).1 (devV (l.take 2000) (rawN (l.take 2000) 0)).2)).1 (devV (l.take 2000) (rawN (l.take 2000) 0)).2)).2) (hl20 l) (spoilt_sm _ _ (devV_I _ _))) (by exact rfl) (RL.cons .ptr (RL.cons (.base (by exact View.same rfl)) (RL.nil))) (by exact ⟨_, _, _, rfl, rfl, rfl⟩) (by exact rfl) (by exact rfl) (by exact rfl)) (by kernel_rfl) (by exact ⟨rfl, rfl, trivial⟩) ?_; (simp only [nA, Nat.reduceBEq, Nat.reduceEqDiff, ↓reduceIte, Nat.reduceAdd, Nat.reduceSub])
  refine adF 10 rfl (fun T' ok => OpJ.frz (op_buildSlice rfl [(0, raw.av), (1, ((devV (l.take 2000) (rawN (l.take 2000) 0)).2).av), (2, (((spoiltV (l.take 2000) (devV (l.take 2000) (rawN (l.take 2000) 0)).1 (devV (l.take 2000) (rawN (l.take 2000) 0)).2)).2).av), (3, (((spoiltV (l.take 2000) ((spoiltV (l.take 2000) ((spoiltV (l.take 2000) (devV (l.take 2000) (rawN (l.take 2000) 0)).1 (devV (l.take 2000) (rawN (l.take 2000) 0)).2)).1 (devV (l.take 2000) (rawN (l.take 2000) 0)).2)).1 ((spoiltV (l.take 2000) ((spoiltV (l.take 2000) (devV (l.take 2000) (rawN (l.take 2000) 0)).1 (devV (l.take 2000) (rawN (l.take 2000) 0)).2)).1 (devV (l.take 2000) (rawN (l.take 2000) 0)).2)).2)).2).av)] (([raw, (devV (l.take 2000) (rawN (l.take 2000) 0)).2, ((spoiltV (l.take 2000) (devV (l.take 2000) (rawN (l.take 2000) 0)).1 (devV (l.take 2000) (rawN (l.take 2000) 0)).2)).2, ((spoiltV (l.take 2000) ((spoiltV (l.take 2000) ((spoiltV (l.take 2000) (devV (l.take 2000) (rawN (l.take 2000) 0)).1 (devV (l.take 2000) (rawN (l.take 2000) 0)).2)).1 (devV (l.take 2000) (rawN (l.take 2000) 0)).2)).1 ((spoiltV (l.take 2000) ((spoiltV (l.take 2000) (devV (l.take 2000) (rawN (l.take 2000) 0)).1 (devV (l.take 2000) (rawN (l.take 2000) 0)).2)).1 (devV (l.take 2000) (rawN (l.take 2000) 0)).2)).2)).2] : List Hand).map Hand.av) Try.underlying38 ze26 rfl (by simp) rfl (by simp) rfl (bl rfl) (by simp [maxLen])) (hav_flat ([raw, (devV (l.take 2000) (rawN (l.take 2000) 0)).2, ((spoiltV (l.take 2000) (devV (l.take 2000) (rawN (l.take 2000) 0)).1 (devV (l.take 2000) (rawN (l.take 2000) 0)).2)).2, ((spoiltV (l.take 2000) ((spoiltV (l.take 2000) ((spoiltV (l.take 2000) (devV (l.take 2000) (rawN (l.take 2000) 0)).1 (devV (l.take 2000) (rawN (l.take 2000) 0)).2)).1 (devV (l.take 2000) (rawN (l.take 2000) 0)).2)).1 ((spoiltV (l.take 2000) ((spoiltV (l.take 2000) (devV (l.take 2000) (rawN (l.take 2000) 0)).1 (devV (l.take 2000) (rawN (l.take 2000) 0)).2)).1 (devV (l.take 2000) (rawN (l.take 2000) 0)).2)).2)).2] : List Hand)) rfl) (by exact ⟨rfl, rfl, trivial⟩) (by kernel_rfl) (by kernel_rfl) ?_; (simp only [nA, Nat.reduceBEq, Nat.reduceEqDiff, ↓reduceIte, Nat.reduceAdd, Nat.reduceSub])
  refine adP 11 rfl (fun T' ok => op_len_ro (n := 4) rfl rfl Try.underlying38 (.inr (.inl ⟨_, rfl, rfl⟩))) (by exact ⟨rfl, rfl, trivial⟩) (by kernel_rfl) (by kernel_rfl) ?_
  refine adDone (by kernel_rfl) ?_
  (refine hK _ ?_; clear hK K; (simp only [nA, Nat.reduceBEq, Nat.reduceEqDiff, ↓reduceIte, Nat.reduceAdd, Nat.reduceSub]))
  refine AW.block ?_
  refine AW.gh (Gh.drop 3) ?_; (simp only [nA, Nat.reduceBEq, Nat.reduceEqDiff, ↓reduceIte, Nat.reduceAdd, Nat.reduceSub]); refine AW.loopI (fun (q : Nat × Nat) => [(6, .ptr 1 2 0 0), (9, .ptr 2 3 0 0), (89, .ro (([raw, (devV (l.take 2000) (rawN (l.take 2000) 0)).2, ((spoiltV (l.take 2000) (devV (l.take 2000) (rawN (l.take 2000) 0)).1 (devV (l.take 2000) (rawN (l.take 2000) 0)).2)).2, ((spoiltV (l.take 2000) ((spoiltV (l.take 2000) ((spoiltV (l.take 2000) (devV (l.take 2000) (rawN (l.take 2000) 0)).1 (devV (l.take 2000) (rawN (l.take 2000) 0)).2)).1 (devV (l.take 2000) (rawN (l.take 2000) 0)).2)).1 ((spoiltV (l.take 2000) ((spoiltV (l.take 2000) (devV (l.take 2000) (rawN (l.take 2000) 0)).1 (devV (l.take 2000) (rawN (l.take 2000) 0)).2)).1 (devV (l.take 2000) (rawN (l.take 2000) 0)).2)).2)).2] : List Hand).map Hand.av)), (90, .v (.int .i64 (4 : Nat))), (91, .v (.int .i64 (q.1 : Nat)))]) (fun q => ⟨[(1, .own 26 [raw.av]), (2, .own 33 [o.av]), (3, .own 81 [srcRow (l.take 2000) ((spoiltV (l.take 2000) ((spoiltV (l.take 2000) ((spoiltV (l.take 2000) (devV (l.take 2000) (rawN (l.take 2000) 0)).1 (devV (l.take 2000) (rawN (l.take 2000) 0)).2)).1 (devV (l.take 2000) (rawN (l.take 2000) 0)).2)).1 ((spoiltV (l.take 2000) ((spoiltV (l.take 2000) (devV (l.take 2000) (rawN (l.take 2000) 0)).1 (devV (l.take 2000) (rawN (l.take 2000) 0)).2)).1 (devV (l.take 2000) (rawN (l.take 2000) 0)).2)).2)).1])], q.2⟩) (fun q => q.1 ≤ 4) (fun q => 4 - q.1) (0, _) (by simp) ⟨rfl, rfl, rfl, rfl, rfl, trivial⟩ rfl ?_; rintro ⟨i, ep⟩ ρ hi; dsimp only at hi ⊢; simp only [updL]; (simp only [nA, Nat.reduceBEq, Nat.reduceEqDiff, ↓reduceIte, Nat.reduceAdd, Nat.reduceSub])
  (refine AW.seq_k ?_; intro K hK)
  refine AW.region ?_
  refine awP (op_lss rfl rfl rfl) ?_
  refine AWL.nil ?_
  (refine hK _ ?_; clear hK K; (simp only [nA, Nat.reduceBEq, Nat.reduceEqDiff, ↓reduceIte, Nat.reduceAdd, Nat.reduceSub]))
  (refine AW.seq_k ?_; intro K hK)
  refine AW.cond rfl rfl rfl (fun hc => ?_) (fun hc => ?_)
  ·
   have hc6 := hc; have hi4 : i < 4 := (by have h : (i : Int) < ((4 : Nat) : Int) := of_decide_eq_true hc6; omega); obtain ⟨h, hm, hgi⟩ := at_map Hand.av (xs := ([raw, (devV (l.take 2000) (rawN (l.take 2000) 0)).2, ((spoiltV (l.take 2000) (devV (l.take 2000) (rawN (l.take 2000) 0)).1 (devV (l.take 2000) (rawN (l.take 2000) 0)).2)).2, ((spoiltV (l.take 2000) ((spoiltV (l.take 2000) ((spoiltV (l.take 2000) (devV (l.take 2000) (rawN (l.take 2000) 0)).1 (devV (l.take 2000) (rawN (l.take 2000) 0)).2)).1 (devV (l.take 2000) (rawN (l.take 2000) 0)).2)).1 ((spoiltV (l.take 2000) ((spoiltV (l.take 2000) (devV (l.take 2000) (rawN (l.take 2000) 0)).1 (devV (l.take 2000) (rawN (l.take 2000) 0)).2)).1 (devV (l.take 2000) (rawN (l.take 2000) 0)).2)).2)).2] : List Hand)) hi4; have hsm : h.Sm := (by simp only [List.mem_cons, List.not_mem_nil, or_false] at hm; rcases hm with rfl | rfl | rfl | rfl; exact hsr; exact (devV_I _ _).s; exact spoilt_sm _ _ (devV_I _ _); exact spoilt_sm2 _ _ _ (devV_I _ _)); clear hm; have hsl := hsm.l
   refine AW.skip ?_
   (refine hK _ ?_; clear hK K; (skip))
   (refine AW.seq_k ?_; intro K hK)
   refine AW.block ?_
   (refine AW.seq_k ?_; intro K hK)
   refine AW.region ?_
   refine awP (op_ia_ro i rfl (.inl rfl) rfl Try.underlying38 rfl hgi (by exact sz26) (bl rfl)) ?_
   (refine awR (op_load_rop rfl rfl ag26 sz26 (bl rfl) (by decide) rfl) ?_)
   refine awJ (op_alloc rfl ze26 rfl) ?_; (simp only [nA, Nat.reduceBEq, Nat.reduceEqDiff, ↓reduceIte])
   refine awJ (op_store rfl rfl rfl rfl rfl rfl sz26 rfl (bl rfl) rfl) ?_; (simp only [nA, Nat.reduceBEq, Nat.reduceEqDiff, ↓reduceIte])
   refine AWL.nil ?_
   (refine hK _ ?_; clear hK K; (skip))
   (refine AW.seq_k ?_; intro K hK)
   (refine AW.seq_k ?_; intro K hK)
   refine AW.quiet mix (by kernel_rfl) ?_
   (refine aqR (op_load_ptr rfl rfl rfl rfl ag26 sz26 (bl rfl) rfl) ?_)
   refine aqQ (op_callQ (b := true) rfl en18 (C18 (h := h) hsm) (RL.cons (by exact View.same rfl) (RL.nil)) rfl) ?_; (simp only [nA, Nat.reduceBEq, Nat.reduceEqDiff, ↓reduceIte, Nat.reduceAdd, Nat.reduceSub])
   (refine aqR (op_load_ptr rfl rfl rfl rfl ag26 sz26 (bl rfl) rfl) ?_)
   refine aqQ (op_callQ (b := true) rfl en19 (C19 (h := h) hsm) (RL.cons (by exact View.same rfl) (RL.nil)) rfl) ?_; (simp only [nA, Nat.reduceBEq, Nat.reduceEqDiff, ↓reduceIte, Nat.reduceAdd, Nat.reduceSub])
   (refine aqP (op_neq rfl rfl rfl) ?_)
   refine AQ.nil ?_
   (refine hK _ ?_; clear hK K; (simp only [nA, Nat.reduceBEq, Nat.reduceEqDiff, ↓reduceIte, Nat.reduceAdd, Nat.reduceSub]))
   refine AW.cond rfl rfl rfl (fun hc => ?_) (fun hc => ?_)
   · (cases hc; done)
   have hc7 := hc
   refine AW.skip ?_
   (refine hK _ ?_; clear hK K; (skip))
   (refine AW.seq_k ?_; intro K hK)
   refine AW.region ?_
   (refine awR (op_load_ptr rfl rfl rfl rfl ag33 sz33 (bl rfl) rfl) ?_)
   refine awJ (op_buildSlice rfl [(0, o.av)] [o.av] Try.underlying24 ze33 rfl (by simp) rfl (by simp) rfl (bl rfl) (by simp [maxLen])) ?_; (simp only [nA, Nat.reduceBEq, Nat.reduceEqDiff, ↓reduceIte])
   (refine awP (op_fa_ptr rfl rfl rfl fl26_6 (by exact sz24) (by decide) rfl) ?_)
   (refine awR (op_load_ptr1 rfl rfl rfl rfl ag24 rfl rfl) ?_)
   refine awJ (op_app (es := [o.av]) (rows := h.log.map Op.av) rfl rfl rfl rfl rfl .ro Try.underlying24 ze33 (by decide) (opv_len _) (by simp; omega) (by decide) (es' := ((o :: h.log)).map Op.av) rfl (n := ((o :: h.log)).length) (by simp; omega)) ?_; (simp only [nA, Nat.reduceBEq, Nat.reduceEqDiff, ↓reduceIte, Nat.reduceAdd, Nat.reduceSub]); refine AWL.gh (Gh.freeze 104 (bl rfl) rfl rfl (opv_flat (o :: h.log)) (es' := ((o :: h.log)).map Op.av) (List.take_of_length_le (by simp))) ?_; (simp only [nA, Nat.reduceBEq, Nat.reduceEqDiff, ↓reduceIte, Nat.reduceAdd, Nat.reduceSub])
   refine awP (op_len_ro (n := ((o :: h.log)).length) rfl rfl Try.underlying24 (.inr (.inl ⟨_, rfl, by simp⟩))) ?_
   refine awP (op_move rfl rfl) ?_
   refine AWL.nil ?_
   (refine hK _ ?_; clear hK K; (simp only [nA, Nat.reduceBEq, Nat.reduceEqDiff, ↓reduceIte, Nat.reduceAdd, Nat.reduceSub]))
   refine AW.block ?_
   refine AW.gh (Gh.drop 3) ?_; (simp only [nA, Nat.reduceBEq, Nat.reduceEqDiff, ↓reduceIte, Nat.reduceAdd, Nat.reduceSub]); refine AW.loopI (fun (q : Nat × Nat) => [(6, .ptr 1 2 0 0), (9, .ptr 2 3 0 0), (89, .ro (([raw, (devV (l.take 2000) (rawN (l.take 2000) 0)).2, ((spoiltV (l.take 2000) (devV (l.take 2000) (rawN (l.take 2000) 0)).1 (devV (l.take 2000) (rawN (l.take 2000) 0)).2)).2, ((spoiltV (l.take 2000) ((spoiltV (l.take 2000) ((spoiltV (l.take 2000) (devV (l.take 2000) (rawN (l.take 2000) 0)).1 (devV (l.take 2000) (rawN (l.take 2000) 0)).2)).1 (devV (l.take 2000) (rawN (l.take 2000) 0)).2)).1 ((spoiltV (l.take 2000) ((spoiltV (l.take 2000) (devV (l.take 2000) (rawN (l.take 2000) 0)).1 (devV (l.take 2000) (rawN (l.take 2000) 0)).2)).1 (devV (l.take 2000) (rawN (l.take 2000) 0)).2)).2)).2] : List Hand).map Hand.av)), (90, .v (.int .i64 (4 : Nat))), (91, .v (.int .i64 (i : Nat))), (104, .ro (((o :: h.log)).map Op.av)), (105, .v (.int .i64 (((o :: h.log)).length : Nat))), (106, .v (.int .i64 (q.1 : Nat)))]) (fun q => ⟨[(1, .own 26 [raw.av]), (2, .own 33 [o.av]), (3, .own 81 [srcRow (l.take 2000) ((spoiltV (l.take 2000) ((spoiltV (l.take 2000) ((spoiltV (l.take 2000) (devV (l.take 2000) (rawN (l.take 2000) 0)).1 (devV (l.take 2000) (rawN (l.take 2000) 0)).2)).1 (devV (l.take 2000) (rawN (l.take 2000) 0)).2)).1 ((spoiltV (l.take 2000) ((spoiltV (l.take 2000) (devV (l.take 2000) (rawN (l.take 2000) 0)).1 (devV (l.take 2000) (rawN (l.take 2000) 0)).2)).1 (devV (l.take 2000) (rawN (l.take 2000) 0)).2)).2)).1])], q.2⟩) (fun q => q.1 ≤ ((o :: h.log)).length) (fun q => ((o :: h.log)).length - q.1) (0, _) (by simp) ⟨rfl, rfl, rfl, rfl, rfl, rfl, rfl, rfl, trivial⟩ rfl ?_; rintro ⟨j, e4⟩ ρ hj; dsimp only at hj ⊢; simp only [updL]; (simp only [nA, Nat.reduceBEq, Nat.reduceEqDiff, ↓reduceIte, Nat.reduceAdd, Nat.reduceSub])
   (refine AW.seq_k ?_; intro K hK)
   refine AW.region ?_
   refine awP (op_lss rfl rfl rfl) ?_
   refine AWL.nil ?_
   (refine hK _ ?_; clear hK K; (simp only [nA, Nat.reduceBEq, Nat.reduceEqDiff, ↓reduceIte, Nat.reduceAdd, Nat.reduceSub]))
   (refine AW.seq_k ?_; intro K hK)
   refine AW.cond rfl rfl rfl (fun hc => ?_) (fun hc => ?_)
   ·
    have hc8 := hc; have hjl : j < ((o :: h.log)).length := (by have h : (j : Int) < ((((o :: h.log)).length : Nat) : Int) := of_decide_eq_true hc8; omega); have hoe : ((o :: h.log)).length = h.log.length + 1 := rfl; obtain ⟨x, -, hgx⟩ := at_map Op.av hjl
    refine AW.skip ?_
    (refine hK _ ?_; clear hK K; (skip))
    (refine AW.seq_k ?_; intro K hK)
    refine AW.block ?_
    (refine AW.seq_k ?_; intro K hK)
    refine AW.region ?_
    refine awP (op_ia_ro j rfl (.inl rfl) rfl Try.underlying24 rfl hgx (by exact sz33) (bl rfl)) ?_
    (refine awR (op_load_rop rfl rfl ag33 sz33 (bl rfl) (by decide) rfl) ?_)
    refine awJ (op_alloc rfl ze33 rfl) ?_; (simp only [nA, Nat.reduceBEq, Nat.reduceEqDiff, ↓reduceIte])
    refine awJ (op_store rfl rfl rfl rfl rfl rfl sz33 rfl (bl rfl) rfl) ?_; (simp only [nA, Nat.reduceBEq, Nat.reduceEqDiff, ↓reduceIte])
    refine AWL.nil ?_
    (refine hK _ ?_; clear hK K; (skip))
    (refine AW.seq_k ?_; intro K hK)
    refine AW.quiet mix (by kernel_rfl) ?_
    (refine aqR (op_load_ptr rfl rfl rfl rfl ag33 sz33 (bl rfl) rfl) ?_)
    refine aqQ (op_callQ (b := true) rfl en20 (C20 (o := x)) (RL.cons (by exact View.same rfl) (RL.nil)) rfl) ?_; (simp only [nA, Nat.reduceBEq, Nat.reduceEqDiff, ↓reduceIte, Nat.reduceAdd, Nat.reduceSub])
    (refine aqR (op_load_ptr rfl rfl rfl rfl ag33 sz33 (bl rfl) rfl) ?_)
    refine aqQ (op_callQ (b := true) rfl en21 (C21 (o := x)) (RL.cons (by exact View.same rfl) (RL.nil)) rfl) ?_; (simp only [nA, Nat.reduceBEq, Nat.reduceEqDiff, ↓reduceIte, Nat.reduceAdd, Nat.reduceSub])
    (refine aqP (op_bneq rfl rfl rfl Try.underlying4) ?_)
    refine AQ.nil ?_
    (refine hK _ ?_; clear hK K; (simp only [nA, Nat.reduceBEq, Nat.reduceEqDiff, ↓reduceIte, Nat.reduceAdd, Nat.reduceSub]))
    refine AW.cond rfl rfl rfl (fun hc => ?_) (fun hc => ?_)
    · (simp at hc; done)
    have hc9 := hc
    refine AW.skip ?_
    simp only [thenE, inBlk, Nat.reduceEqDiff, ↓reduceIte]
    (refine hK _ ?_; clear hK K; (skip))
    refine AW.region ?_
    (refine awP (op_addi rfl rfl rfl (by omega)) ?_)
    refine awP (op_move rfl rfl) ?_
    refine AWL.gh (Gh.drop 3) ?_; (simp only [nA])
    refine AWL.nil ?_
    refine ⟨(j + 1, _), by dsimp only; omega, by dsimp only; omega, ⟨rfl, rfl, rfl, rfl, rfl, rfl, rfl, rfl, trivial⟩, (by rfl), (by rfl)⟩
   have hc8 := hc
   refine AW.exit ?_; (simp only [thenE, inBlk, Nat.reduceEqDiff, ↓reduceIte])
   clear hK K
   (refine hK _ ?_; clear hK K; (skip))
   refine AW.region ?_
   (refine awP (op_addi rfl rfl rfl (by omega)) ?_)
   refine awP (op_move rfl rfl) ?_
   skip
   refine AWL.nil ?_
   refine ⟨(i + 1, _), by dsimp only; omega, by dsimp only; omega, ⟨rfl, rfl, rfl, rfl, rfl, trivial⟩, (by rfl), (by rfl)⟩
  have hc6 := hc
  refine AW.exit ?_; (simp only [thenE, inBlk, Nat.reduceEqDiff, ↓reduceIte])
  clear hK K
  (refine hK _ ?_; clear hK K; (skip))
  (refine AW.seq_k ?_; intro K hK)
  (refine AW.seq_k ?_; intro K hK)
  refine AW.region ?_
  refine awJ (OpJ.frz (op_buildSlice rfl [(0, iv (-1)), (1, iv 0), (2, iv 1), (3, iv 2), (4, iv 3)] (([-1, 0, 1, 2, 3] : List Int).map iv) Try.underlying27 ze3 rfl (by simp) (fold_dense 1 (([-1, 0, 1, 2, 3] : List Int).map iv) (iv_len _)) (iv_len _) rfl (bl rfl) (by simp [maxLen])) (iv_flat [-1, 0, 1, 2, 3]) rfl) ?_; (simp only [nA, Nat.reduceBEq, Nat.reduceEqDiff, ↓reduceIte, Nat.reduceAdd, Nat.reduceSub])
  refine awP (op_len_ro (n := 5) rfl rfl Try.underlying27 (.inr (.inl ⟨_, rfl, rfl⟩))) ?_
  refine awP (op_move rfl rfl) ?_
  refine AWL.nil ?_
  (refine hK _ ?_; clear hK K; (simp only [nA, Nat.reduceBEq, Nat.reduceEqDiff, ↓reduceIte, Nat.reduceAdd, Nat.reduceSub]))
  refine AW.block ?_
  refine AW.loopI (fun (q : Nat × Nat × Nat) => [(9, .ptr 2 3 0 0), (117, .ro (([-1, 0, 1, 2, 3] : List Int).map iv)), (118, .v (.int .i64 (5 : Nat))), (119, .v (.int .i64 (q.1 : Nat)))]) (fun q => ⟨[(1, .own 26 [raw.av]), (2, .own 33 [o.av]), (3, .own 81 [srcRow (l.take 2000) q.2.1])], q.2.2⟩) (fun q => q.1 ≤ 5) (fun q => 5 - q.1) (0, _, _) (by simp) ⟨rfl, rfl, rfl, rfl, trivial⟩ rfl ?_; rintro ⟨m, k, e5⟩ ρ hm5; dsimp only at hm5 ⊢; simp only [updL]; (simp only [nA, Nat.reduceBEq, Nat.reduceEqDiff, ↓reduceIte, Nat.reduceAdd, Nat.reduceSub])
  (refine AW.seq_k ?_; intro K hK)
  refine AW.region ?_
  refine awP (op_lss rfl rfl rfl) ?_
  refine AWL.nil ?_
  (refine hK _ ?_; clear hK K; (simp only [nA, Nat.reduceBEq, Nat.reduceEqDiff, ↓reduceIte, Nat.reduceAdd, Nat.reduceSub]))
  (refine AW.seq_k ?_; intro K hK)
  refine AW.cond rfl rfl rfl (fun hc => ?_) (fun hc => ?_)
  ·
   have hc10 := hc; have hm : m < 5 := (by have h : (m : Int) < ((5 : Nat) : Int) := of_decide_eq_true hc10; omega); obtain ⟨kd, -, hkd⟩ := at_map iv (xs := [-1, 0, 1, 2, 3]) hm
   refine AW.skip ?_
   (refine hK _ ?_; clear hK K; (skip))
   (refine AW.seq_k ?_; intro K hK)
   refine AW.block ?_
   (refine AW.seq_k ?_; intro K hK)
   refine AW.region ?_
   refine awP (op_ia_ro m rfl (.inl rfl) rfl Try.underlying27 rfl hkd (by exact sz3) (bl rfl)) ?_
   (refine awR (op_load_rop1 rfl rfl ag3) ?_)
   refine awP (op_assign rfl rfl) ?_
   refine AWL.nil ?_
   (refine hK _ ?_; clear hK K; (simp only [nA]))
   (refine AW.seq_k ?_; intro K hK)
   refine AW.region ?_
   refine awP (op_move rfl rfl) ?_
   refine awJ (OpJ.frz (op_buildSlice rfl [(0, iv (-1)), (1, iv 0), (2, iv 1048576), (3, iv 1048577)] (([-1, 0, 1048576, 1048577] : List Int).map iv) Try.underlying27 ze3 rfl (by simp) (fold_dense 1 (([-1, 0, 1048576, 1048577] : List Int).map iv) (iv_len _)) (iv_len _) rfl (bl rfl) (by simp [maxLen])) (iv_flat [-1, 0, 1048576, 1048577]) rfl) ?_; (simp only [nA, ↓reduceIte])
   refine awJ (op_call1 rfl en22 (C22 (l := (l.take 2000)) (xs := [-1, 0, 1048576, 1048577]) (hl20 l) (by decide) (by decide)) (by exact rfl) (RL.cons .ptr (RL.cons (.base (by exact View.same rfl)) (RL.nil))) (by exact ⟨_, _, _, rfl, rfl, rfl⟩) (by exact rfl) (by exact rfl) (by exact rfl)) ?_; (simp only [nA, Nat.reduceBEq, Nat.reduceEqDiff, ↓reduceIte, Nat.reduceAdd, Nat.reduceSub])
   refine awP (op_move rfl rfl) ?_
   refine awJ (op_call1 rfl en12 (C12 (n := 8) (hl20 l) (by decide)) (by exact rfl) (RL.cons .ptr (RL.cons (.base (by exact View.same rfl)) (RL.nil))) (by exact ⟨_, _, _, rfl, rfl, rfl⟩) (by exact rfl) (by exact rfl) (by exact rfl)) ?_; (simp only [nA, ↓reduceIte])
   refine awP (op_move rfl rfl) ?_
   refine awJ (op_call1 rfl en12 (C12 (n := 3) (hl20 l) (by decide)) (by exact rfl) (RL.cons .ptr (RL.cons (.base (by exact View.same rfl)) (RL.nil))) (by exact ⟨_, _, _, rfl, rfl, rfl⟩) (by exact rfl) (by exact rfl) (by exact rfl)) ?_; (simp only [nA, ↓reduceIte])
   refine awP (op_move rfl rfl) ?_
   refine awP (op_move rfl rfl) ?_
   refine awJ (OpJ.frz (op_buildSlice rfl [(0, iv 0), (1, iv 1), (2, iv 999), (3, iv 1000)] (([0, 1, 999, 1000] : List Int).map iv) Try.underlying27 ze3 rfl (by simp) (fold_dense 1 (([0, 1, 999, 1000] : List Int).map iv) (iv_len _)) (iv_len _) rfl (bl rfl) (by simp [maxLen])) (iv_flat [0, 1, 999, 1000]) rfl) ?_; (simp only [nA, ↓reduceIte])
   refine awJ (op_call1 rfl en22 (C22 (l := (l.take 2000)) (xs := [0, 1, 999, 1000]) (hl20 l) (by decide) (by decide)) (by exact rfl) (RL.cons .ptr (RL.cons (.base (by exact View.same rfl)) (RL.nil))) (by exact ⟨_, _, _, rfl, rfl, rfl⟩) (by exact rfl) (by exact rfl) (by exact rfl)) ?_; (simp only [nA, Nat.reduceBEq, Nat.reduceEqDiff, ↓reduceIte, Nat.reduceAdd, Nat.reduceSub])
   refine awP (op_move rfl rfl) ?_
   refine awJ (op_call1 rfl en23 (C23 (l := (l.take 2000)) (n := 5) (hl20 l) (by decide)) (by exact rfl) (RL.cons .ptr (RL.cons (.base (by exact View.same rfl)) (RL.nil))) (by exact ⟨_, _, _, rfl, rfl, rfl⟩) (by exact rfl) (by exact rfl) (by exact rfl)) ?_; (simp only [nA, ↓reduceIte])
   refine awP (op_build2 (xs := [_, _, _, _, _, _, _, _, _, _]) rfl pl33 ze33 [(0, [_]), (1, [_]), (2, [_]), (3, [_]), (4, [_]), (5, [_, _, _, _, _])] rfl rfl rfl) ?_
   refine awJ (op_alloc rfl ze33 rfl) ?_; (simp only [nA, Nat.reduceBEq, Nat.reduceEqDiff, ↓reduceIte])
   refine awJ (op_store rfl rfl rfl rfl rfl rfl sz33 rfl (bl rfl) rfl) ?_; (simp only [nA, Nat.reduceBEq, Nat.reduceEqDiff, ↓reduceIte])
   refine AWL.nil ?_
   (refine hK _ ?_; clear hK K; (skip))
   (refine AW.seq_k ?_; intro K hK)
   refine AW.quiet mix (by kernel_rfl) ?_
   (refine aqR (op_load_ptr rfl rfl rfl rfl ag33 sz33 (bl rfl) rfl) ?_)
   refine aqQ (op_callQ (b := true) rfl en20 (C20 (o := (⟨pickV (l.take 2000) k [-1, 0, 1048576, 1048577], gmod (rawV (l.take 2000) (rawN (l.take 2000) k)) 8, gmod (rawV (l.take 2000) (rawN (l.take 2000) (rawN (l.take 2000) k))) 3, kd, pickV (l.take 2000) (rawN (l.take 2000) (rawN (l.take 2000) (rawN (l.take 2000) k))) [0, 1, 999, 1000], pieceV (l.take 2000) (rawN (l.take 2000) (rawN (l.take 2000) (rawN (l.take 2000) (rawN (l.take 2000) k)))) 5⟩ : Op))) (RL.cons (by exact View.same rfl) (RL.nil)) rfl) ?_; (simp only [nA, Nat.reduceBEq, Nat.reduceEqDiff, ↓reduceIte, Nat.reduceAdd, Nat.reduceSub])
   (refine aqR (op_load_ptr rfl rfl rfl rfl ag33 sz33 (bl rfl) rfl) ?_)
   refine aqQ (op_callQ (b := true) rfl en21 (C21 (o := (⟨pickV (l.take 2000) k [-1, 0, 1048576, 1048577], gmod (rawV (l.take 2000) (rawN (l.take 2000) k)) 8, gmod (rawV (l.take 2000) (rawN (l.take 2000) (rawN (l.take 2000) k))) 3, kd, pickV (l.take 2000) (rawN (l.take 2000) (rawN (l.take 2000) (rawN (l.take 2000) k))) [0, 1, 999, 1000], pieceV (l.take 2000) (rawN (l.take 2000) (rawN (l.take 2000) (rawN (l.take 2000) (rawN (l.take 2000) k)))) 5⟩ : Op))) (RL.cons (by exact View.same rfl) (RL.nil)) rfl) ?_; (simp only [nA, Nat.reduceBEq, Nat.reduceEqDiff, ↓reduceIte, Nat.reduceAdd, Nat.reduceSub])
   (refine aqP (op_bneq rfl rfl rfl Try.underlying4) ?_)
   refine AQ.nil ?_
   (refine hK _ ?_; clear hK K; (simp only [nA, Nat.reduceBEq, Nat.reduceEqDiff, ↓reduceIte, Nat.reduceAdd, Nat.reduceSub]))
   refine AW.cond rfl rfl rfl (fun hc => ?_) (fun hc => ?_)
   · (simp at hc; done)
   have hc11 := hc
   refine AW.skip ?_
   simp only [thenE, inBlk, Nat.reduceEqDiff, ↓reduceIte]
   (refine hK _ ?_; clear hK K; (skip))
   refine AW.region ?_
   (refine awP (op_addi rfl rfl rfl (by omega)) ?_)
   refine awP (op_move rfl rfl) ?_
   refine AWL.gh (Gh.drop 3) ?_; (simp only [nA])
   refine AWL.nil ?_
   refine ⟨(m + 1, _, _), by dsimp only; omega, by dsimp only; omega, ⟨rfl, rfl, rfl, rfl, trivial⟩, (by rfl), (by rfl)⟩
  have hc10 := hc
  refine AW.exit ?_; (simp only [thenE, inBlk, Nat.reduceEqDiff, ↓reduceIte])
  clear hK K
  (refine hK _ ?_; clear hK K; (skip))
  (refine AW.seq_k ?_; intro K hK)
  refine AW.region ?_
  refine awJ (OpQ.j (op_callQ (b := true) rfl en24 (C24) (RL.nil) rfl)) ?_; (simp only [nA, Nat.reduceBEq, Nat.reduceEqDiff, ↓reduceIte, Nat.reduceAdd, Nat.reduceSub])
  refine awP (op_assign rfl rfl) ?_
  refine AWL.nil ?_
  (refine hK _ ?_; clear hK K; (simp only [nA]))
  skip
  refine AW.ret ?_; exact RQ.of0 rfl (.tmp (bl rfl) rfl rfl .nil)
end Go.Proofs.Ytdnofpggdddimaa
namespace Go.Proofs.Ytdnofpggdddimaa
open Go.RowKit
set_option linter.unusedSimpArgs false
set_option linter.unusedVariables false
set_option maxRecDepth 100000
abbrev decIntSh : List Sh := [.int .i64]
theorem decInt {xs : List AV} (h : RL Mt xs decIntSh) : ∃ c : Int, xs = iv c := by
  obtain ⟨x0, xs, rfl, h0, h⟩ := h.cons_inv
  obtain rfl := h.nil_inv
  obtain ⟨v0, rfl⟩ := Mt.i64 h0
  exact ⟨v0, rfl⟩
abbrev decIntsSh : Sh := .sl decIntSh
theorem decInts {x : AV} (h : Mt x decIntsSh) : ∃ l : List Int, x = .ro (l.map iv) := by
  obtain ⟨es, rfl⟩ := h.sl_
  obtain ⟨l, rfl⟩ := rows_of fun e he => decInt (h.rows e he)
  exact ⟨l, rfl⟩
abbrev decPieceSh : List Sh := [.int .i64, .int .i64, .int .i64, .int .i64, .int .i64]
theorem decPiece {xs : List AV} (h : RL Mt xs decPieceSh) : ∃ c : Piece, xs = Piece.av c := by
  obtain ⟨x0, xs, rfl, h0, h⟩ := h.cons_inv
  obtain ⟨x1, xs, rfl, h1, h⟩ := h.cons_inv
  obtain ⟨x2, xs, rfl, h2, h⟩ := h.cons_inv
  obtain ⟨x3, xs, rfl, h3, h⟩ := h.cons_inv
  obtain ⟨x4, xs, rfl, h4, h⟩ := h.cons_inv
  obtain rfl := h.nil_inv
  obtain ⟨v0, rfl⟩ := Mt.i64 h0
  obtain ⟨v1, rfl⟩ := Mt.i64 h1
  obtain ⟨v2, rfl⟩ := Mt.i64 h2
  obtain ⟨v3, rfl⟩ := Mt.i64 h3
  obtain ⟨v4, rfl⟩ := Mt.i64 h4
  exact ⟨⟨⟨v0, v1, v2⟩, v3, v4⟩, rfl⟩
abbrev decPlateSh : List Sh := [.int .i64, .int .i64, .int .i64]
abbrev decContSh : List Sh := [.int .i64, .str, .int .i64, .str, .int .i64, .int .i64, .int .i64, .int .i64, .int .i64, .int .i64, .sl decPieceSh]
theorem decCont {xs : List AV} (h : RL Mt xs decContSh) : ∃ c : Container, xs = Container.av c := by
  obtain ⟨x0, xs, rfl, h0, h⟩ := h.cons_inv
  obtain ⟨x1, xs, rfl, h1, h⟩ := h.cons_inv
  obtain ⟨x2, xs, rfl, h2, h⟩ := h.cons_inv
  obtain ⟨x3, xs, rfl, h3, h⟩ := h.cons_inv
  obtain ⟨x4, xs, rfl, h4, h⟩ := h.cons_inv
  obtain ⟨x5, xs, rfl, h5, h⟩ := h.cons_inv
  obtain ⟨x6, xs, rfl, h6, h⟩ := h.cons_inv
  obtain ⟨x7, xs, rfl, h7, h⟩ := h.cons_inv
  obtain ⟨x8, xs, rfl, h8, h⟩ := h.cons_inv
  obtain ⟨x9, xs, rfl, h9, h⟩ := h.cons_inv
  obtain ⟨x10, xs, rfl, h10, h⟩ := h.cons_inv
  obtain rfl := h.nil_inv
  obtain ⟨v0, rfl⟩ := Mt.i64 h0
  obtain ⟨v1, rfl⟩ := Mt.s_ h1
  obtain ⟨v2, rfl⟩ := Mt.i64 h2
  obtain ⟨v3, rfl⟩ := Mt.s_ h3
  obtain ⟨v4, rfl⟩ := Mt.i64 h4
  obtain ⟨v5, rfl⟩ := Mt.i64 h5
  obtain ⟨v6, rfl⟩ := Mt.i64 h6
  obtain ⟨v7, rfl⟩ := Mt.i64 h7
  obtain ⟨v8, rfl⟩ := Mt.i64 h8
  obtain ⟨v9, rfl⟩ := Mt.i64 h9
  obtain ⟨e10, rfl⟩ := Mt.sl_ h10
  obtain ⟨v10, rfl⟩ := rows_of (fun e he => decPiece (h10.rows e he))
  exact ⟨⟨v0, ⟨v1, v2, v3, v4⟩, v5, v6, v7, v8, v9, v10⟩, rfl⟩
abbrev decContsSh : Sh := .sl decContSh
end Go.Proofs.Ytdnofpggdddimaa
namespace Go.Proofs.Ytdnofpggdddimaa
open Go.RowKit
set_option linter.unusedSimpArgs false
set_option linter.unusedVariables false
set_option maxRecDepth 100000
abbrev decISh : Sh := .int .i64
theorem decI {x : AV} (h : Mt x decISh) : ∃ n : Int, x = .v (.int .i64 n) := by
  obtain ⟨n, rfl⟩ := Mt.i64 h
  exact ⟨n, rfl⟩
abbrev decGrantSh : List Sh := [.int .i64, .int .i64, .int .i64, .int .i64, .int .i64, .str, .int .i64, .str, .int .i64]
theorem decGrant {xs : List AV} (h : RL Mt xs decGrantSh) : ∃ c : Grant, xs = Grant.av c := by
  obtain ⟨x0, xs, rfl, h0, h⟩ := h.cons_inv
  obtain ⟨x1, xs, rfl, h1, h⟩ := h.cons_inv
  obtain ⟨x2, xs, rfl, h2, h⟩ := h.cons_inv
  obtain ⟨x3, xs, rfl, h3, h⟩ := h.cons_inv
  obtain ⟨x4, xs, rfl, h4, h⟩ := h.cons_inv
  obtain ⟨x5, xs, rfl, h5, h⟩ := h.cons_inv
  obtain ⟨x6, xs, rfl, h6, h⟩ := h.cons_inv
  obtain ⟨x7, xs, rfl, h7, h⟩ := h.cons_inv
  obtain ⟨x8, xs, rfl, h8, h⟩ := h.cons_inv
  obtain rfl := h.nil_inv
  obtain ⟨v0, rfl⟩ := Mt.i64 h0
  obtain ⟨v1, rfl⟩ := Mt.i64 h1
  obtain ⟨v2, rfl⟩ := Mt.i64 h2
  obtain ⟨v3, rfl⟩ := Mt.i64 h3
  obtain ⟨v4, rfl⟩ := Mt.i64 h4
  obtain ⟨v5, rfl⟩ := Mt.s_ h5
  obtain ⟨v6, rfl⟩ := Mt.i64 h6
  obtain ⟨v7, rfl⟩ := Mt.s_ h7
  obtain ⟨v8, rfl⟩ := Mt.i64 h8
  exact ⟨⟨⟨⟨v0, v1, v2⟩, v3, v4⟩, ⟨v5, v6, v7, v8⟩⟩, rfl⟩
abbrev decOpSh : List Sh := [.int .i64, .int .i64, .int .i64, .int .i64, .int .i64, .int .i64, .int .i64, .int .i64, .int .i64, .int .i64]
theorem decOp {xs : List AV} (h : RL Mt xs decOpSh) : ∃ c : Op, xs = Op.av c := by
  obtain ⟨x0, xs, rfl, h0, h⟩ := h.cons_inv
  obtain ⟨x1, xs, rfl, h1, h⟩ := h.cons_inv
  obtain ⟨x2, xs, rfl, h2, h⟩ := h.cons_inv
  obtain ⟨x3, xs, rfl, h3, h⟩ := h.cons_inv
  obtain ⟨x4, xs, rfl, h4, h⟩ := h.cons_inv
  obtain ⟨x5, xs, rfl, h5, h⟩ := h.cons_inv
  obtain ⟨x6, xs, rfl, h6, h⟩ := h.cons_inv
  obtain ⟨x7, xs, rfl, h7, h⟩ := h.cons_inv
  obtain ⟨x8, xs, rfl, h8, h⟩ := h.cons_inv
  obtain ⟨x9, xs, rfl, h9, h⟩ := h.cons_inv
  obtain rfl := h.nil_inv
  obtain ⟨v0, rfl⟩ := Mt.i64 h0
  obtain ⟨v1, rfl⟩ := Mt.i64 h1
  obtain ⟨v2, rfl⟩ := Mt.i64 h2
  obtain ⟨v3, rfl⟩ := Mt.i64 h3
  obtain ⟨v4, rfl⟩ := Mt.i64 h4
  obtain ⟨v5, rfl⟩ := Mt.i64 h5
  obtain ⟨v6, rfl⟩ := Mt.i64 h6
  obtain ⟨v7, rfl⟩ := Mt.i64 h7
  obtain ⟨v8, rfl⟩ := Mt.i64 h8
  obtain ⟨v9, rfl⟩ := Mt.i64 h9
  exact ⟨⟨v0, v1, v2, v3, v4, ⟨⟨v5, v6, v7⟩, v8, v9⟩⟩, rfl⟩
abbrev decHandSh : List Sh := [.int .i64, .int .i64, .int .i64, .bool, .sl decGrantSh, .sl decContSh, .sl decOpSh]
theorem decHand {xs : List AV} (h : RL Mt xs decHandSh) : ∃ c : Hand, xs = Hand.av c := by
  obtain ⟨x0, xs, rfl, h0, h⟩ := h.cons_inv
  obtain ⟨x1, xs, rfl, h1, h⟩ := h.cons_inv
  obtain ⟨x2, xs, rfl, h2, h⟩ := h.cons_inv
  obtain ⟨x3, xs, rfl, h3, h⟩ := h.cons_inv
  obtain ⟨x4, xs, rfl, h4, h⟩ := h.cons_inv
  obtain ⟨x5, xs, rfl, h5, h⟩ := h.cons_inv
  obtain ⟨x6, xs, rfl, h6, h⟩ := h.cons_inv
  obtain rfl := h.nil_inv
  obtain ⟨v0, rfl⟩ := Mt.i64 h0
  obtain ⟨v1, rfl⟩ := Mt.i64 h1
  obtain ⟨v2, rfl⟩ := Mt.i64 h2
  obtain ⟨v3, rfl⟩ := Mt.b_ h3
  obtain ⟨e4, rfl⟩ := Mt.sl_ h4
  obtain ⟨v4, rfl⟩ := rows_of (fun e he => decGrant (h4.rows e he))
  obtain ⟨e5, rfl⟩ := Mt.sl_ h5
  obtain ⟨v5, rfl⟩ := rows_of (fun e he => decCont (h5.rows e he))
  obtain ⟨e6, rfl⟩ := Mt.sl_ h6
  obtain ⟨v6, rfl⟩ := rows_of (fun e he => decOp (h6.rows e he))
  exact ⟨⟨v0, v1, v2, v3, v4, v5, v6⟩, rfl⟩
end Go.Proofs.Ytdnofpggdddimaa
