import Derived.Test.YtmdohphcolffmaaBaf
import Derived.Deep.Slices
import Derived.OpenShut
import Derived.WalkKit
import Derived.ProofKit
namespace Go.Proofs.Ytmdohphcolffmaa
open Go.RowKit
set_option linter.unusedSimpArgs false
set_option linter.unusedVariables false
set_option maxRecDepth 100000
set_option maxHeartbeats 8000000 in
theorem C5 {l : List Int} : Fn Try.prog 5 [] [.ro (l.map iv)] [.v (.bool true)] [] := by
  obtain ⟨k1, x, hC8, hInv, hxl⟩ := conts21 (l.take 2000) 0 8 10 (hl20 l) (by decide) (by decide)
  have hG := hInv.good
  have hsm := hG.sml (by omega)
  have hck := hG.chk (by omega)
  have hpi := balP_ok (l.take 2000) k1
  have hfi : (findL x (balP (l.take 2000) k1).plate).2 = false := find_no (hInv.no_bag (by show (platesP 300).airline ≠ 117; decide))
  have hg3 := gmod_bd (x := rawV (l.take 2000) (rawN (l.take 2000) (rawN (l.take 2000) (rawN (l.take 2000) k1)))) (n := 3) (by decide)
  have hC10 := C10 _ hg3
  generalize flightN (gmod (rawV (l.take 2000) (rawN (l.take 2000) (rawN (l.take 2000) (rawN (l.take 2000) k1)))) 3) = f at *
  have h29 : Fn Try.prog 29 [] [.ro (x.map Container.av), .agg f.av] [.v (.int .i64 (mom x f))] [] := by
    have h := C29 (l := x) (f := f) hsm
    rwa [show momV x f = mom x f by unfold momV; rw [if_neg (by simp [hck])]] at h
  have hf := (InvO.of hck).fit
  have hm := hf.mom f
  obtain ⟨P, hP⟩ : ∃ P, balP (l.take 2000) k1 = P := ⟨_, rfl⟩
  rw [hP] at hpi hfi
  have hcho := choV_at (f := f) hck hpi hfi
  have hpb := piB_inv hpi
  refine Spec.body Try.func5 rfl Try.ntmps5 (by simp) rfl ?_; intro S0 own0 v0 w0
  (refine AW.seq_k ?_; intro K hK)
  refine AW.region ?_
  refine awP (op_assign rfl rfl) ?_
  refine AWL.nil ?_
  (refine hK _ ?_; clear hK K; (try simp only [nA, Nat.reduceBEq, Nat.reduceEqDiff, ↓reduceIte, Nat.reduceAdd, Nat.reduceSub]))
  (refine AW.seq_k ?_; intro K hK)
  refine AW.region ?_
  refine awP (op_move rfl rfl) ?_
  refine awJ (op_callB rfl en7 (C7) (RL.cons (by exact View.same rfl) (RL.nil))) ?_; (simp only [nA, Nat.reduceBEq, Nat.reduceEqDiff, ↓reduceIte])
  refine awP (op_assign rfl rfl) ?_
  refine AWL.nil ?_
  (refine hK _ ?_; clear hK K; (simp only [nA]))
  (refine AW.seq_k ?_; intro K hK)
  refine AW.region ?_
  refine awP (op_move rfl rfl) ?_
  refine awJ (op_call1 rfl en8 hC8 (by exact rfl) (RL.cons .ptr (RL.cons (.base (by exact View.same rfl)) (RL.cons (.base (by exact View.same rfl)) (RL.nil)))) (by exact ⟨_, _, _, rfl, rfl, rfl⟩) (by exact rfl) (by exact rfl) (by exact rfl)) ?_; (simp only [nA, Nat.reduceBEq, Nat.reduceEqDiff, ↓reduceIte]); refine AWL.gh (Gh.freezeN 18 (bl rfl) rfl rfl (by simpa using flat2_cons x []) (es' := x.map Container.av) (by rw [List.take_of_length_le (by simp)]; simpa using fz_cons x [])) ?_; (try simp only [nA, Nat.reduceBEq, Nat.reduceEqDiff, ↓reduceIte, Nat.reduceAdd, Nat.reduceSub])
  refine awP (op_assign rfl rfl) ?_
  refine AWL.nil ?_
  (refine hK _ ?_; clear hK K; (simp only [nA]))
  (refine AW.seq_k ?_; intro K hK)
  refine AW.region ?_
  refine awP (op_move rfl rfl) ?_
  refine awJ (op_call1 rfl en26 (C26 (l := (l.take 2000)) (k := k1) (n := 1) (hl20 l) (by decide)) (by exact rfl) (RL.cons .ptr (RL.cons (.base (by exact View.same rfl)) (RL.nil))) (by exact ⟨_, _, _, rfl, rfl, rfl⟩) (by exact rfl) (by exact rfl) (by exact rfl)) ?_; (simp only [nA, ↓reduceIte])
  refine awP (op_move rfl rfl) ?_
  refine awJ (op_call1 rfl en11 (C11 (l := (l.take 2000)) (k := rawN (l.take 2000) (rawN (l.take 2000) (rawN (l.take 2000) k1))) (n := 3) (hl20 l) (by decide)) (by exact rfl) (RL.cons .ptr (RL.cons (.base (by exact View.same rfl)) (RL.nil))) (by exact ⟨_, _, _, rfl, rfl, rfl⟩) (by exact rfl) (by exact rfl) (by exact rfl)) ?_; (simp only [nA, ↓reduceIte])
  refine awJ (op_call (b := false) rfl en10 hC10 (RL.cons (by exact View.same rfl) (RL.nil)) rfl (fun h => by cases h) rfl rfl) ?_; (try simp only [nA, Nat.reduceBEq, Nat.reduceEqDiff, ↓reduceIte, Nat.reduceAdd, Nat.reduceSub])
  refine awJ (op_alloc rfl ze41 rfl) ?_; (simp only [nA, Nat.reduceBEq, Nat.reduceEqDiff, ↓reduceIte])
  refine awJ (op_alloc rfl ze30 rfl) ?_; (simp only [nA, Nat.reduceBEq, Nat.reduceEqDiff, ↓reduceIte])
  refine awJ (op_store rfl rfl rfl rfl rfl rfl sz41 rfl (bl rfl) rfl) ?_; (simp only [nA, Nat.reduceBEq, Nat.reduceEqDiff, ↓reduceIte])
  refine awJ (op_store rfl rfl rfl rfl rfl rfl sz30 rfl (bl rfl) rfl) ?_; (simp only [nA, Nat.reduceBEq, Nat.reduceEqDiff, ↓reduceIte])
  refine AWL.nil ?_
  (refine hK _ ?_; clear hK K; (skip))
  (refine AW.seq_k ?_; intro K hK)
  refine AW.region ?_
  refine awJ (op_call (b := false) rfl en27 (C27 (i := 300)) (RL.cons (by exact View.same rfl) (RL.nil)) rfl (fun h => by cases h) rfl rfl) ?_; (try simp only [nA, Nat.reduceBEq, Nat.reduceEqDiff, ↓reduceIte, Nat.reduceAdd, Nat.reduceSub])
  (refine awP (op_fa_ptr rfl rfl rfl fl41_0 (by exact sz39) (by decide) rfl) ?_)
  refine awJ (op_store rfl rfl rfl rfl rfl rfl sz39 rfl (bl rfl) rfl) ?_; (try simp only [nA, Nat.reduceBEq, Nat.reduceEqDiff, ↓reduceIte, Nat.reduceAdd, Nat.reduceSub])
  refine AWL.nil ?_
  (refine hK _ ?_; clear hK K; (skip))
  (refine AW.seq_k ?_; intro K hK)
  refine AW.region ?_
  refine awP (op_move rfl rfl) ?_
  (refine awR (op_load_ptr rfl rfl rfl rfl ag30 sz30 (bl rfl) rfl) ?_)
  (refine awR (op_load_ptr rfl rfl rfl rfl ag41 sz41 (bl rfl) rfl) ?_)
  refine awJ (op_call (b := false) rfl en15 (C15 (l := x) (f := f) (p := (balP (l.take 2000) k1)) hsm) (RL.cons (by exact View.same rfl) (RL.cons (by exact View.same rfl) (RL.cons (by exact View.same rfl) (RL.nil)))) rfl (fun h => by cases h) rfl rfl) ?_; (simp only [nA, ↓reduceIte])
  refine awP (op_move rfl rfl) ?_
  refine awP (op_extract rfl rfl rfl) ?_
  refine awP (op_extract rfl rfl rfl) ?_
  refine awP (op_assign rfl rfl) ?_
  refine awP (op_assign rfl rfl) ?_
  refine AWL.nil ?_
  (refine hK _ ?_; clear hK K; (simp only [nA, ↓reduceIte]))
  (refine AW.seq_k ?_; intro K hK)
  refine AW.region ?_
  refine awP (op_assign rfl rfl) ?_
  refine awP (op_assign rfl rfl) ?_
  refine AWL.nil ?_
  (refine hK _ ?_; clear hK K; (try simp only [nA, Nat.reduceBEq, Nat.reduceEqDiff, ↓reduceIte, Nat.reduceAdd, Nat.reduceSub]))
  (refine AW.seq_k ?_; intro K hK)
  (refine AW.seq_k ?_; intro K hK)
  refine AW.region ?_
  refine awP (op_move rfl rfl) ?_
  refine awP (op_len_ro (n := x.length) rfl rfl Try.underlying25 (.inr (.inl ⟨_, rfl, by simp⟩))) ?_
  refine awP (op_move rfl rfl) ?_
  refine AWL.nil ?_
  (refine hK _ ?_; clear hK K; (simp only [nA, ↓reduceIte]))
  refine AW.block ?_
  rw [hP]; refine AW.loopI (fun (i : Nat) => [(4, .ro (x.map Container.av)), (5, .ptr 2 3 0 0), (6, .ptr 3 4 0 0), (7, .v (.int .i64 (choV x f P).1)), (8, .v (.int .i64 (choV x f P).2)), (9, .v (.bool (admU x f P i))), (10, .v (.int .i64 (lastN x (choV x f P).1 i))), (34, .v (.int .i64 (x.length : Nat))), (35, .v (.int .i64 (i : Nat)))]) (fun _ => ⟨[(1, .own 65 [srcRow (l.take 2000) (rawN (l.take 2000) (rawN (l.take 2000) (rawN (l.take 2000) (rawN (l.take 2000) k1))))]), (2, .any), (3, .own 41 [P.av]), (4, .own 30 [f.av])], 5⟩) (fun i => i ≤ x.length) (fun i => x.length - i) 0 (by simp) ⟨rfl, rfl, rfl, rfl, rfl, rfl, rfl, rfl, rfl, trivial⟩ (by rw [← hP]; rfl) ?_; intro i ρ hi; simp only [updL]
  (refine AW.seq_k ?_; intro K hK)
  refine AW.region ?_
  refine awP (op_lss rfl rfl rfl) ?_
  refine AWL.nil ?_
  (refine hK _ ?_; clear hK K; (try simp only [nA, Nat.reduceBEq, Nat.reduceEqDiff, ↓reduceIte, Nat.reduceAdd, Nat.reduceSub]))
  (refine AW.seq_k ?_; intro K hK)
  refine AW.cond rfl rfl rfl (fun hc => ?_) (fun hc => ?_)
  ·
   have hc1 := hc; have hlt : i < x.length := (by simpa using hc1); have hU := admU_s x f P i
   refine AW.skip ?_
   (refine hK _ ?_; clear hK K; (skip))
   (refine AW.seq_k ?_; intro K hK)
   refine AW.block ?_
   (refine AW.seq_k ?_; intro K hK)
   refine AW.region ?_
   refine awP (op_move rfl rfl) ?_
   refine awP (op_assign rfl rfl) ?_
   refine AWL.nil ?_
   (refine hK _ ?_; clear hK K; (simp only [nA, ↓reduceIte]))
   (refine AW.seq_k ?_; intro K hK)
   (refine AW.seq_k ?_; intro K hK)
   refine AW.quiet mix (by kernel_rfl) ?_
   refine aqP (op_move rfl rfl) ?_
   refine aqP (op_move rfl rfl) ?_
   refine aqP (op_ia_ro i rfl (.inl rfl) rfl Try.underlying25 rfl (get_mapD hlt) (by exact sz45) (bl rfl)) ?_
   (refine aqP (op_fa_rop rfl rfl fl45_1 (by exact sz30) (by decide) (bl rfl) rfl) ?_)
   (refine aqR (op_load_rop rfl rfl ag30 sz30 (bl rfl) (by decide) rfl) ?_)
   (refine aqR (op_load_ptr rfl rfl rfl rfl ag30 sz30 (bl rfl) rfl) ?_)
   refine aqP (op_eq30 (p := (x.getD i default).flight) (q := f) rfl rfl rfl) ?_; (simp only [nA, ↓reduceIte])
   refine aqP (op_move rfl rfl) ?_
   refine' aqAnd' [_, _, _, _, _, _] [46,47,48,49,50,51] rfl rfl rfl rfl rfl rfl rfl rfl rfl rfl rfl rfl (fun hb => ?_) ?_; rotate_left
   ·
    (try simp only [hcS] at hb)
    refine aqP (op_move rfl rfl) ?_
    refine aqP (op_move rfl rfl) ?_
    refine aqP (op_ia_ro i rfl (.inl rfl) rfl Try.underlying25 rfl (get_mapD hlt) (by exact sz45) (bl rfl)) ?_
    (refine aqR (op_load_rop rfl rfl ag45 sz45 (bl rfl) (by decide) rfl) ?_)
    (refine aqR (op_load_ptr rfl rfl rfl rfl ag41 sz41 (bl rfl) rfl) ?_)
    refine aqQ (op_callQ (b := true) rfl en24 (C24 (c := (x.getD i default)) (p := P)) (RL.cons (by exact View.same rfl) (RL.cons (by exact View.same rfl) (RL.nil))) rfl) ?_; (simp only [nA, ↓reduceIte])
    (refine aqSeg rfl rfl rfl ?_; repeat (first | exact fun _ _ => rfl | refine upd_out rfl ?_))
   simp only [nA]
   refine AQ.nil ?_
   (refine hK _ ?_; clear hK K; (skip))
   refine AW.cond rfl rfl rfl (fun hc => ?_) (fun hc => ?_)
   ·
    have hc2 := hc; have hu : (flEq (x.getD i default).flight f && admB (x.getD i default) P) = true := hc2; rw [hu, Bool.or_true] at hU
    refine AW.region ?_
    refine awP (op_assign rfl rfl) ?_
    refine AWL.nil ?_
    (refine hK _ ?_; clear hK K; (try simp only [nA, Nat.reduceBEq, Nat.reduceEqDiff, ↓reduceIte, Nat.reduceAdd, Nat.reduceSub]))
    (refine AW.seq_k ?_; intro K hK)
    refine AW.region ?_
    refine awP (op_move rfl rfl) ?_
    refine awP (op_move rfl rfl) ?_
    refine awP (op_ia_ro i rfl (.inl rfl) rfl Try.underlying25 rfl (get_mapD hlt) (by exact sz45) (bl rfl)) ?_
    (refine awP (op_fa_rop rfl rfl fl45_0 (by exact sz3) (by decide) (bl rfl) rfl) ?_)
    (refine awR (op_load_rop1 rfl rfl ag3) ?_)
    refine awP (op_move rfl rfl) ?_
    (refine awP (op_eql rfl rfl rfl) ?_)
    refine AWL.nil ?_
    (refine hK _ ?_; clear hK K; (simp only [nA, Nat.reduceEqDiff, ↓reduceIte]))
    refine AW.cond rfl rfl rfl (fun hc => ?_) (fun hc => ?_)
    ·
     have hc3 := hc; have hL : lastN x (choV x f P).1 (i + 1) = (i : Nat) := (by unfold lastN; rw [if_pos (of_decide_eq_true hc3)])
     refine AW.region ?_
     refine awP (op_move rfl rfl) ?_
     refine awP (op_assign rfl rfl) ?_
     refine AWL.nil ?_
     (try simp only [thenE, inBlk, Nat.reduceEqDiff, ↓reduceIte])
     (refine hK _ ?_; clear hK K; (simp only [nA, Nat.reduceEqDiff, ↓reduceIte]))
     refine AW.region ?_
     (refine awP (op_addi rfl rfl rfl (by omega)) ?_)
     refine awP (op_move rfl rfl) ?_
     skip
     refine AWL.nil ?_
     refine ⟨i + 1, by omega, by omega, ⟨rfl, rfl, rfl, rfl, rfl, (by rw [hU]; rfl), (by rw [hL]; rfl), rfl, rfl, trivial⟩, (by rfl), (by rfl)⟩
    have hc3 := hc; have hL : lastN x (choV x f P).1 (i + 1) = lastN x (choV x f P).1 i := (by rw [lastN, if_neg (of_decide_eq_false hc3)])
    refine AW.skip ?_
    (try simp only [thenE, inBlk, Nat.reduceEqDiff, ↓reduceIte])
    (refine hK _ ?_; clear hK K; (skip))
    refine AW.region ?_
    (refine awP (op_addi rfl rfl rfl (by omega)) ?_)
    refine awP (op_move rfl rfl) ?_
    skip
    refine AWL.nil ?_
    refine ⟨i + 1, by omega, by omega, ⟨rfl, rfl, rfl, rfl, rfl, (by rw [hU]; rfl), (by rw [hL]; rfl), rfl, rfl, trivial⟩, (by rfl), (by rfl)⟩
   have hc2 := hc; have hu : (flEq (x.getD i default).flight f && admB (x.getD i default) P) = false := hc2; rw [hu, Bool.or_false] at hU
   refine AW.skip ?_
   (refine hK _ ?_; clear hK K; (skip))
   (refine AW.seq_k ?_; intro K hK)
   refine AW.region ?_
   refine awP (op_move rfl rfl) ?_
   refine awP (op_move rfl rfl) ?_
   refine awP (op_ia_ro i rfl (.inl rfl) rfl Try.underlying25 rfl (get_mapD hlt) (by exact sz45) (bl rfl)) ?_
   (refine awP (op_fa_rop rfl rfl fl45_0 (by exact sz3) (by decide) (bl rfl) rfl) ?_)
   (refine awR (op_load_rop1 rfl rfl ag3) ?_)
   refine awP (op_move rfl rfl) ?_
   (refine awP (op_eql rfl rfl rfl) ?_)
   refine AWL.nil ?_
   (refine hK _ ?_; clear hK K; (simp only [nA, Nat.reduceEqDiff, ↓reduceIte]))
   refine AW.cond rfl rfl rfl (fun hc => ?_) (fun hc => ?_)
   ·
    have hc4 := hc; have hL : lastN x (choV x f P).1 (i + 1) = (i : Nat) := (by unfold lastN; rw [if_pos (of_decide_eq_true hc4)])
    refine AW.region ?_
    refine awP (op_move rfl rfl) ?_
    refine awP (op_assign rfl rfl) ?_
    refine AWL.nil ?_
    (try simp only [thenE, inBlk, Nat.reduceEqDiff, ↓reduceIte])
    (refine hK _ ?_; clear hK K; (simp only [nA, Nat.reduceEqDiff, ↓reduceIte]))
    refine AW.region ?_
    (refine awP (op_addi rfl rfl rfl (by omega)) ?_)
    refine awP (op_move rfl rfl) ?_
    skip
    refine AWL.nil ?_
    refine ⟨i + 1, by omega, by omega, ⟨rfl, rfl, rfl, rfl, rfl, (by rw [hU]; rfl), (by rw [hL]; rfl), rfl, rfl, trivial⟩, (by rfl), (by rfl)⟩
   have hc4 := hc; have hL : lastN x (choV x f P).1 (i + 1) = lastN x (choV x f P).1 i := (by rw [lastN, if_neg (of_decide_eq_false hc4)])
   refine AW.skip ?_
   (try simp only [thenE, inBlk, Nat.reduceEqDiff, ↓reduceIte])
   (refine hK _ ?_; clear hK K; (skip))
   refine AW.region ?_
   (refine awP (op_addi rfl rfl rfl (by omega)) ?_)
   refine awP (op_move rfl rfl) ?_
   skip
   refine AWL.nil ?_
   refine ⟨i + 1, by omega, by omega, ⟨rfl, rfl, rfl, rfl, rfl, (by rw [hU]; rfl), (by rw [hL]; rfl), rfl, rfl, trivial⟩, (by rfl), (by rfl)⟩
  have hc1 := hc; have hnl : i = x.length := (by have : ¬ i < x.length := (by simpa using hc1); omega)
  refine AW.exit ?_; (try simp only [thenE, inBlk, Nat.reduceEqDiff, ↓reduceIte])
  clear hK K
  (refine hK _ ?_; clear hK K; (skip))
  (refine AW.seq_k ?_; intro K hK)
  (refine AW.seq_k ?_; intro K hK)
  refine AW.region ?_
  refine awP (op_move rfl rfl) ?_
  (refine awP (op_neq rfl rfl rfl) ?_)
  refine AWL.nil ?_
  (refine hK _ ?_; clear hK K; (simp only [nA, ↓reduceIte]))
  refine AW.cond rfl rfl rfl (fun hc => ?_) (fun hc => ?_)
  ·
   have hc5 := hc; obtain ⟨hor, hbn⟩ : ((choV x f P) = (0, 6) ∨ (choV x f P) = (0, 8)) ∧ bestV x f P = none := (by rcases hcho with ⟨h1, h2⟩ | ⟨h1, h2⟩ | ⟨j, h1, h2⟩; (exact ⟨.inl h1, h2⟩); (exact ⟨.inr h1, h2⟩); (exfalso; rw [h2] at hc5; simp at hc5)); have hU : admU x f P i = false := (by rw [hnl]; exact admU_no hbn)
   (refine AW.seq_k ?_; intro K hK)
   refine AW.region (AWL.quiet ?_)
   refine aqP (op_move rfl rfl) ?_
   (refine aqP (op_eql rfl rfl rfl) ?_)
   refine aqP (op_move rfl rfl) ?_
   refine' aqOr' [_, _] [67,68] rfl rfl rfl rfl rfl rfl rfl rfl rfl rfl rfl rfl (fun hb => ?_) ?_; rotate_left
   ·
    (try simp only [hcS] at hb)
    refine aqP (op_move rfl rfl) ?_
    (refine aqP (op_eql rfl rfl rfl) ?_)
    (refine aqSeg rfl rfl rfl ?_; repeat (first | exact fun _ _ => rfl | refine upd_out rfl ?_))
   simp only [nA, ↓reduceIte]
   refine aqP (op_move rfl rfl) ?_
   refine' aqAnd' [_, _] [71,72] rfl rfl rfl rfl rfl rfl rfl rfl rfl rfl rfl rfl (fun hb => ?_) ?_; rotate_left
   ·
    (try simp only [hcS] at hb)
    refine aqP (op_move rfl rfl) ?_
    (refine aqP (op_eql rfl rfl rfl) ?_)
    (refine aqSeg rfl rfl rfl ?_; repeat (first | exact fun _ _ => rfl | refine upd_out rfl ?_))
   simp only [nA]
   refine aqP (op_move rfl rfl) ?_
   refine' aqAnd' [_, _] [75,76] rfl rfl rfl rfl rfl rfl rfl rfl rfl rfl rfl rfl (fun hb => ?_) ?_; rotate_left
   ·
    (try simp only [hcS] at hb)
    refine aqP (op_move rfl rfl) ?_
    refine aqP (op_not rfl rfl rfl) ?_
    (refine aqSeg rfl rfl rfl ?_; repeat (first | exact fun _ _ => rfl | refine upd_out rfl ?_))
   simp only [nA]
   refine aqP (op_move rfl rfl) ?_
   refine' aqAnd' [_] [79] rfl rfl rfl rfl rfl rfl rfl rfl rfl rfl rfl rfl (fun hb => ?_) ?_; rotate_left
   ·
    (try simp only [hcS] at hb)
    refine aqQ (op_callQ (b := true) rfl en19 (C19) (RL.nil) rfl) ?_; (simp only [nA])
    (refine aqSeg rfl rfl rfl ?_; repeat (first | exact fun _ _ => rfl | refine upd_out rfl ?_))
   simp only [nA]
   refine aqP (op_assign rfl rfl) ?_
   refine AQ.nil ?_
   (refine hK _ ?_; clear hK K; (simp only [nA]))
   skip
   refine AW.ret ?_; (try simp only [thenE, inBlk, Nat.reduceEqDiff, ↓reduceIte]); refine RQ.of0 rfl (.tmp (bl rfl) ?_ rfl .nil); rw [hU]; rcases hor with h | h <;> rw [h] <;> rfl
  have hc5 := hc; obtain ⟨j, hbi, hcv⟩ : ∃ j, bestV x f P = some j ∧ (choV x f P) = ((x.getD j default).number, 0) := (by rcases hcho with ⟨h1, h2⟩ | ⟨h1, h2⟩ | ⟨j, h1, h2⟩ <;> first | exact ⟨j, h1, h2⟩ | (rw [h1] at hc5; simp at hc5)); obtain ⟨hjl, hfl, hadm⟩ := bestV_some hbi; have had := adm_iff.2 hadm; have hLj : lastN x (choV x f P).1 i = (j : Int) := (by rw [hcv, hnl, lastN_at hG hjl _ (Nat.le_refl _), if_pos hjl]); rw [hLj, hcv]; have ha2 := hf.arm hjl; have hw2 := mul_bd (a := P.weight) (b := (x.getD j default).arm) (m := 999) (n := 50) (by omega) (by omega) ha2.1 ha2.2 (by decide)
  refine AW.skip ?_
  (refine hK _ ?_; clear hK K; (try simp only [nA, Nat.reduceBEq, Nat.reduceEqDiff, ↓reduceIte, Nat.reduceAdd, Nat.reduceSub]))
  (refine AW.seq_k ?_; intro K hK)
  (refine AW.seq_k ?_; intro K hK)
  refine AW.quiet mix (by kernel_rfl) ?_
  refine aqP (op_move rfl rfl) ?_
  refine aqP (op_lss rfl rfl rfl) ?_
  refine aqP (op_move rfl rfl) ?_
  refine' aqOr' [_, _, _, _, _, _, _] [84,85,86,87,88,89,90] rfl rfl rfl rfl rfl rfl rfl rfl rfl rfl rfl rfl (fun hb => ?_) ?_; rotate_left
  ·
   (try simp only [hcS] at hb)
   refine aqP (op_move rfl rfl) ?_
   refine aqP (op_move rfl rfl) ?_
   refine aqP (op_ia_ro j rfl (.inl rfl) rfl Try.underlying25 rfl (get_mapD hjl) (by exact sz45) (bl rfl)) ?_
   (refine aqP (op_fa_rop rfl rfl fl45_1 (by exact sz30) (by decide) (bl rfl) rfl) ?_)
   (refine aqR (op_load_rop rfl rfl ag30 sz30 (bl rfl) (by decide) rfl) ?_)
   (refine aqR (op_load_ptr rfl rfl rfl rfl ag30 sz30 (bl rfl) rfl) ?_)
   refine aqP (op_neq30 (p := (x.getD j default).flight) (q := f) rfl rfl rfl) ?_
   (refine aqSeg rfl rfl rfl ?_; repeat (first | exact fun _ _ => rfl | refine upd_out rfl ?_))
  simp only [nA, ↓reduceIte]
  refine aqP (op_move rfl rfl) ?_
  refine' aqOr' [_, _, _, _, _, _, _] [93,94,95,96,97,98,99] rfl rfl rfl rfl rfl rfl rfl rfl rfl rfl rfl rfl (fun hb => ?_) ?_; rotate_left
  ·
   (try simp only [hcS] at hb)
   refine aqP (op_move rfl rfl) ?_
   refine aqP (op_move rfl rfl) ?_
   refine aqP (op_ia_ro j rfl (.inl rfl) rfl Try.underlying25 rfl (get_mapD hjl) (by exact sz45) (bl rfl)) ?_
   (refine aqR (op_load_rop rfl rfl ag45 sz45 (bl rfl) (by decide) rfl) ?_)
   (refine aqR (op_load_ptr rfl rfl rfl rfl ag41 sz41 (bl rfl) rfl) ?_)
   refine aqQ (op_callQ (b := true) rfl en24 (C24 (c := (x.getD j default)) (p := P)) (RL.cons (by exact View.same rfl) (RL.cons (by exact View.same rfl) (RL.nil))) rfl) ?_; (simp only [nA, Nat.reduceEqDiff, ↓reduceIte])
   refine aqP (op_not rfl rfl rfl) ?_
   (refine aqSeg rfl rfl rfl ?_; repeat (first | exact fun _ _ => rfl | refine upd_out rfl ?_))
  simp only [nA]
  refine AQ.nil ?_
  (refine hK _ ?_; clear hK K; (skip))
  refine AW.cond rfl rfl rfl (fun hc => ?_) (fun hc => ?_)
  · (rw [hfl, had] at hc; simp at hc; try omega)
  have hc6 := hc
  refine AW.skip ?_
  (refine hK _ ?_; clear hK K; (skip))
  (refine AW.seq_k ?_; intro K hK)
  refine AW.quiet mix (by kernel_rfl) ?_
  refine aqP (op_move rfl rfl) ?_
  (refine aqR (op_load_ptr rfl rfl rfl rfl ag30 sz30 (bl rfl) rfl) ?_)
  refine aqQ (op_callQ (b := true) rfl en29 h29 (RL.cons (by exact View.same rfl) (RL.cons (by exact View.same rfl) (RL.nil))) rfl) ?_; (simp only [nA, Nat.reduceEqDiff, ↓reduceIte])
  (refine aqP (op_fa_ptr rfl rfl rfl fl41_1 (by exact sz3) (by decide) rfl) ?_)
  (refine aqR (op_load_ptr1 rfl rfl rfl rfl ag3 rfl rfl) ?_)
  refine aqP (op_move rfl rfl) ?_
  refine aqP (op_move rfl rfl) ?_
  refine aqP (op_ia_ro j rfl (.inl rfl) rfl Try.underlying25 rfl (get_mapD hjl) (by exact sz45) (bl rfl)) ?_
  (refine aqP (op_fa_rop rfl rfl fl45_6 (by exact sz3) (by decide) (bl rfl) rfl) ?_)
  (refine aqR (op_load_rop1 rfl rfl ag3) ?_)
  (refine aqP (op_muli rfl rfl rfl (by omega)) ?_)
  (refine aqP (op_addi rfl rfl rfl (by omega)) ?_)
  refine aqQ (op_callQ (b := true) rfl en28 (C28 (n := mom x f + P.weight * (x.getD j default).arm) (by omega)) (RL.cons (by exact View.same rfl) (RL.nil)) rfl) ?_; (simp only [nA, Nat.reduceEqDiff, ↓reduceIte])
  refine aqP (op_assign rfl rfl) ?_
  refine AQ.nil ?_
  (refine hK _ ?_; clear hK K; (simp only [nA]))
  (refine AW.seq_k ?_; intro K hK)
  (refine AW.seq_k ?_; intro K hK)
  refine AW.region ?_
  refine awP (op_move rfl rfl) ?_
  refine awP (op_len_ro (n := x.length) rfl rfl Try.underlying25 (.inr (.inl ⟨_, rfl, by simp⟩))) ?_
  refine awP (op_move rfl rfl) ?_
  refine AWL.nil ?_
  (refine hK _ ?_; clear hK K; (simp only [nA, Nat.reduceEqDiff, ↓reduceIte]))
  refine AW.block ?_
  refine AW.loopI (fun (i : Nat) => [(4, .ro (x.map Container.av)), (5, .ptr 2 3 0 0), (6, .ptr 3 4 0 0), (7, .v (.int .i64 (x.getD j default).number)), (12, .v (.int .i64 (absI (mom x f + P.weight * (x.getD j default).arm)))), (115, .v (.int .i64 (x.length : Nat))), (116, .v (.int .i64 (i : Nat)))]) (fun _ => ⟨[(1, .own 65 [srcRow (l.take 2000) (rawN (l.take 2000) (rawN (l.take 2000) (rawN (l.take 2000) (rawN (l.take 2000) k1))))]), (2, .any), (3, .own 41 [P.av]), (4, .own 30 [f.av])], 5⟩) (fun i => i ≤ x.length) (fun i => x.length - i) 0 (by simp) ⟨rfl, rfl, rfl, rfl, rfl, rfl, rfl, trivial⟩ rfl ?_; intro i ρ2 hi; simp only [updL]
  (refine AW.seq_k ?_; intro K hK)
  refine AW.region ?_
  refine awP (op_lss rfl rfl rfl) ?_
  refine AWL.nil ?_
  (refine hK _ ?_; clear hK K; (try simp only [nA, Nat.reduceBEq, Nat.reduceEqDiff, ↓reduceIte, Nat.reduceAdd, Nat.reduceSub]))
  (refine AW.seq_k ?_; intro K hK)
  refine AW.cond rfl rfl rfl (fun hc => ?_) (fun hc => ?_)
  ·
   have hc7 := hc; have hlt : i < x.length := (by simpa using hc7); have ha1 := hf.arm hlt; have hw1 := mul_bd (a := P.weight) (b := (x.getD i default).arm) (m := 999) (n := 50) (by omega) (by omega) ha1.1 ha1.2 (by decide)
   refine AW.skip ?_
   (refine hK _ ?_; clear hK K; (skip))
   (refine AW.seq_k ?_; intro K hK)
   refine AW.block ?_
   (refine AW.seq_k ?_; intro K hK)
   refine AW.region ?_
   refine awP (op_move rfl rfl) ?_
   refine awP (op_assign rfl rfl) ?_
   refine AWL.nil ?_
   (refine hK _ ?_; clear hK K; (simp only [nA, ↓reduceIte]))
   (refine AW.seq_k ?_; intro K hK)
   (refine AW.seq_k ?_; intro K hK)
   refine AW.quiet mix (by kernel_rfl) ?_
   refine aqP (op_move rfl rfl) ?_
   refine aqP (op_move rfl rfl) ?_
   refine aqP (op_ia_ro i rfl (.inl rfl) rfl Try.underlying25 rfl (get_mapD hlt) (by exact sz45) (bl rfl)) ?_
   (refine aqP (op_fa_rop rfl rfl fl45_1 (by exact sz30) (by decide) (bl rfl) rfl) ?_)
   (refine aqR (op_load_rop rfl rfl ag30 sz30 (bl rfl) (by decide) rfl) ?_)
   (refine aqR (op_load_ptr rfl rfl rfl rfl ag30 sz30 (bl rfl) rfl) ?_)
   refine aqP (op_neq30 (p := (x.getD i default).flight) (q := f) rfl rfl rfl) ?_
   refine aqP (op_move rfl rfl) ?_
   refine' aqOr' [_, _, _, _, _, _, _] [127,128,129,130,131,132,133] rfl rfl rfl rfl rfl rfl rfl rfl rfl rfl rfl rfl (fun hb => ?_) ?_; rotate_left
   ·
    (try simp only [hcS] at hb)
    refine aqP (op_move rfl rfl) ?_
    refine aqP (op_move rfl rfl) ?_
    refine aqP (op_ia_ro i rfl (.inl rfl) rfl Try.underlying25 rfl (get_mapD hlt) (by exact sz45) (bl rfl)) ?_
    (refine aqR (op_load_rop rfl rfl ag45 sz45 (bl rfl) (by decide) rfl) ?_)
    (refine aqR (op_load_ptr rfl rfl rfl rfl ag41 sz41 (bl rfl) rfl) ?_)
    refine aqQ (op_callQ (b := true) rfl en24 (C24 (c := (x.getD i default)) (p := P)) (RL.cons (by exact View.same rfl) (RL.cons (by exact View.same rfl) (RL.nil))) rfl) ?_; (simp only [nA, ↓reduceIte])
    refine aqP (op_not rfl rfl rfl) ?_
    (refine aqSeg rfl rfl rfl ?_; repeat (first | exact fun _ _ => rfl | refine upd_out rfl ?_))
   simp only [nA, ↓reduceIte]
   refine AQ.nil ?_
   (refine hK _ ?_; clear hK K; (skip))
   refine AW.cond rfl rfl rfl (fun hc => ?_) (fun hc => ?_)
   ·
    have hc8 := hc
    refine AW.exit ?_; (try simp only [thenE, inBlk, Nat.reduceEqDiff, ↓reduceIte])
    clear hK K
    (refine hK _ ?_; clear hK K; (skip))
    refine AW.region ?_
    (refine awP (op_addi rfl rfl rfl (by omega)) ?_)
    refine awP (op_move rfl rfl) ?_
    skip
    refine AWL.nil ?_
    refine ⟨i + 1, by omega, by omega, ⟨rfl, rfl, rfl, rfl, rfl, rfl, rfl, trivial⟩, (by rfl), (by rfl)⟩
   have hc8 := hc; have hu : (flEq (x.getD i default).flight f && admB (x.getD i default) P) = true := (by have h : (!flEq (x.getD i default).flight f || !admB (x.getD i default) P) = false := hc8; cases h1 : flEq (x.getD i default).flight f <;> cases h2 : admB (x.getD i default) P <;> rw [h1, h2] at h <;> first | rfl | cases h); have hmin := bestI_min hbi i hlt hu
   refine AW.skip ?_
   (refine hK _ ?_; clear hK K; (skip))
   (refine AW.seq_k ?_; intro K hK)
   refine AW.quiet mix (by kernel_rfl) ?_
   refine aqP (op_move rfl rfl) ?_
   (refine aqR (op_load_ptr rfl rfl rfl rfl ag30 sz30 (bl rfl) rfl) ?_)
   refine aqQ (op_callQ (b := true) rfl en29 h29 (RL.cons (by exact View.same rfl) (RL.cons (by exact View.same rfl) (RL.nil))) rfl) ?_; (simp only [nA, Nat.reduceEqDiff, ↓reduceIte])
   (refine aqP (op_fa_ptr rfl rfl rfl fl41_1 (by exact sz3) (by decide) rfl) ?_)
   (refine aqR (op_load_ptr1 rfl rfl rfl rfl ag3 rfl rfl) ?_)
   refine aqP (op_move rfl rfl) ?_
   refine aqP (op_move rfl rfl) ?_
   refine aqP (op_ia_ro i rfl (.inl rfl) rfl Try.underlying25 rfl (get_mapD hlt) (by exact sz45) (bl rfl)) ?_
   (refine aqP (op_fa_rop rfl rfl fl45_6 (by exact sz3) (by decide) (bl rfl) rfl) ?_)
   (refine aqR (op_load_rop1 rfl rfl ag3) ?_)
   (refine aqP (op_muli rfl rfl rfl (by omega)) ?_)
   (refine aqP (op_addi rfl rfl rfl (by omega)) ?_)
   refine aqQ (op_callQ (b := true) rfl en28 (C28 (n := mom x f + P.weight * (x.getD i default).arm) (by omega)) (RL.cons (by exact View.same rfl) (RL.nil)) rfl) ?_; (simp only [nA, Nat.reduceEqDiff, ↓reduceIte])
   refine aqP (op_assign rfl rfl) ?_
   refine AQ.nil ?_
   (refine hK _ ?_; clear hK K; (simp only [nA]))
   (refine AW.seq_k ?_; intro K hK)
   refine AW.region (AWL.quiet ?_)
   refine aqP (op_move rfl rfl) ?_
   refine aqP (op_move rfl rfl) ?_
   refine aqP (op_lss rfl rfl rfl) ?_
   refine aqP (op_move rfl rfl) ?_
   refine' aqOrN' [_, _, _, _, _, _, _, _, _, _, _, _] [152,153,154,155,156,157,158,159,160,161,162,163] rfl rfl rfl rfl rfl rfl rfl rfl rfl rfl rfl rfl (fun hb => ?_) ?_; rotate_left
   ·
    (try simp only [hcS] at hb)
    refine aqP (op_move rfl rfl) ?_
    refine aqP (op_move rfl rfl) ?_
    (refine aqP (op_eql rfl rfl rfl) ?_)
    refine aqP (op_move rfl rfl) ?_
    refine' aqAnd' [_, _, _, _, _, _, _] [156,157,158,159,160,161,162] rfl rfl rfl rfl rfl rfl rfl rfl rfl rfl rfl rfl (fun hb => ?_) ?_; rotate_left
    ·
     (try simp only [hcS] at hb)
     refine aqP (op_move rfl rfl) ?_
     refine aqP (op_move rfl rfl) ?_
     refine aqP (op_ia_ro i rfl (.inl rfl) rfl Try.underlying25 rfl (get_mapD hlt) (by exact sz45) (bl rfl)) ?_
     (refine aqP (op_fa_rop rfl rfl fl45_0 (by exact sz3) (by decide) (bl rfl) rfl) ?_)
     (refine aqR (op_load_rop1 rfl rfl ag3) ?_)
     refine aqP (op_move rfl rfl) ?_
     refine aqP (op_lss rfl rfl rfl) ?_
     (refine aqSeg rfl rfl rfl ?_; repeat (first | exact fun _ _ => rfl | refine upd_out rfl ?_))
    simp only [nA, Nat.reduceEqDiff, ↓reduceIte]
    (refine aqSeg rfl rfl rfl ?_; repeat (first | exact fun _ _ => rfl | refine upd_out rfl ?_ | refine era_out rfl ?_))
   simp only [nA, Nat.reduceEqDiff, ↓reduceIte]
   refine AQ.nil ?_
   (refine hK _ ?_; clear hK K; (skip))
   refine AW.cond rfl rfl rfl (fun hc => ?_) (fun hc => ?_)
   · (exfalso; simp only [Bool.or_eq_true, Bool.and_eq_true, decide_eq_true_eq] at hc; rcases hc with h | ⟨h, h2⟩; (have := hmin.1; omega); (have := hG.num_le (hmin.2 h) hlt; omega))
   have hc9 := hc
   refine AW.skip ?_
   (try simp only [thenE, inBlk, Nat.reduceEqDiff, ↓reduceIte])
   (refine hK _ ?_; clear hK K; (skip))
   refine AW.region ?_
   (refine awP (op_addi rfl rfl rfl (by omega)) ?_)
   refine awP (op_move rfl rfl) ?_
   skip
   refine AWL.nil ?_
   refine ⟨i + 1, by omega, by omega, ⟨rfl, rfl, rfl, rfl, rfl, rfl, rfl, trivial⟩, (by rfl), (by rfl)⟩
  have hc7 := hc
  refine AW.exit ?_; (try simp only [thenE, inBlk, Nat.reduceEqDiff, ↓reduceIte])
  clear hK K
  (refine hK _ ?_; clear hK K; (skip))
  (refine AW.seq_k ?_; intro K hK)
  refine AW.region ?_
  refine awJ (OpQ.j (op_callQ (b := true) rfl en19 (C19) (RL.nil) rfl)) ?_; (try simp only [nA, Nat.reduceBEq, Nat.reduceEqDiff, ↓reduceIte, Nat.reduceAdd, Nat.reduceSub])
  refine awP (op_assign rfl rfl) ?_
  refine AWL.nil ?_
  (refine hK _ ?_; clear hK K; (simp only [nA]))
  skip
  refine AW.ret ?_; (try simp only [thenE, inBlk, Nat.reduceEqDiff, ↓reduceIte]); exact RQ.of0 rfl (.tmp (bl rfl) rfl rfl .nil)
end Go.Proofs.Ytmdohphcolffmaa
namespace Go.Proofs.Ytmdohphcolffmaa
open Go.RowKit
set_option linter.unusedSimpArgs false
set_option linter.unusedVariables false
inductive Sh where
  | int (k : IntKind)
  | str
  | bool
  | sl (row : List Sh)
inductive Mt : AV → Sh → Prop
  | int {k : IntKind} {n : Int} (h : (Lit.int k n).wf = true) : Mt (.v (.int k n)) (.int k)
  | str {s : ByteArray} (h : s.size ≤ maxLen) : Mt (.v (.string s)) .str
  | bool {b : Bool} : Mt (.v (.bool b)) .bool
  | sl {row : List Sh} {es : List (List AV)} (hs : es.length ≤ maxLen) (h : ∀ e ∈ es, e.length = row.length) (hc : ∀ e ∈ es, ∀ (i : Nat) (x : AV) (s : Sh), e[i]? = some x → row[i]? = some s → Mt x s) : Mt (.ro es) (.sl row)
theorem Mt.rows {es : List (List AV)} {row : List Sh} (h : Mt (.ro es) (.sl row)) : ∀ e ∈ es, RL Mt e row := by
  cases h with
  | sl hs h hc => exact fun e he => ⟨h e he, hc e he⟩
theorem rows_of {α : Type} {f : α → List AV} : ∀ {es : List (List AV)}, (∀ e ∈ es, ∃ p, e = f p) → ∃ ps : List α, es = ps.map f
  | [], _ => ⟨[], rfl⟩
  | e :: es, h => by
    obtain ⟨p, rfl⟩ := h e (by simp)
    obtain ⟨ps, rfl⟩ := rows_of (es := es) fun e he => h e (by simp [he])
    exact ⟨p :: ps, rfl⟩
def fieldsSh (sh : TypeId → Option (List Sh)) (P : Program) : Nat → List Field → Option (List Sh)
  | _, [] => some []
  | o, f :: fs => if f.offset = o then (sh f.type).bind fun r => if r.length = P.cellsOf f.type then (fieldsSh sh P (o + r.length) fs).map (r ++ ·) else none else none
def copies (r : List Sh) : Nat → List Sh
  | 0 => []
  | n + 1 => r ++ copies r n
def shOf (P : Program) : Nat → TypeId → Option (List Sh)
  | 0, _ => none
  | n + 1, t => match P.underlying t with
    | some (.int k) => some [.int k]
    | some .string => some [.str]
    | some .bool => some [.bool]
    | some (.slice e) => (shOf P n e).map fun r => [.sl r]
    | some (.struct fs) => (fieldsSh (shOf P n) P 0 fs.toList).bind fun r => if r.length = P.cellsOf t then some r else none
    | some (.array k e) => (shOf P n e).bind fun r => if r.length = P.cellsOf e ∧ P.cellsOf t = k * P.cellsOf e then some (copies r k) else none
    | _ => none
theorem RL.cons' {α β : Type} {R : α → β → Prop} {us : List α} {xs : List β} {u : α} (h : RL R (u :: us) xs) : ∃ x xs', xs = x :: xs' ∧ R u x ∧ RL R us xs' := by
  cases xs with
  | nil => have := h.1; simp at this
  | cons x xs => exact ⟨x, xs, rfl, h.2 0 u x rfl rfl, by have := h.1; simpa using this, fun i a b ha hb => h.2 (i + 1) a b (by simpa using ha) (by simpa using hb)⟩
theorem take_split {α : Type} (l : List α) (o m n : Nat) : (l.drop o).take (m + n) = (l.drop o).take m ++ (l.drop (o + m)).take n := by
  rw [List.take_add, List.drop_drop]
theorem flat_idx {α : Type} {sz : Nat} : ∀ {es : List (List α)}, (∀ e ∈ es, e.length = sz) → ∀ {j : Nat}, j < es.flatten.length → ∃ e u, es[j / sz]? = some e ∧ e[j % sz]? = some u ∧ es.flatten[j]? = some u
  | [], _, j, h => by simp at h
  | e :: es, hs, j, h => by
    have he : e.length = sz := hs e (by simp)
    have hs' : ∀ e ∈ es, e.length = sz := fun e he => hs e (by simp [he])
    rw [List.flatten_cons] at h ⊢
    by_cases hj : j < sz
    · rw [List.getElem?_append_left (by omega), Nat.div_eq_of_lt hj, Nat.mod_eq_of_lt hj]
      exact ⟨e, e[j]'(by omega), rfl, List.getElem?_eq_getElem _, List.getElem?_eq_getElem _⟩
    rw [List.length_append] at h
    obtain ⟨e1, u, h1, h2, h3⟩ := flat_idx hs' (j := j - sz) (by omega)
    have h0 : 0 < sz := by
      rcases Nat.eq_zero_or_pos sz with h0 | h0
      · subst h0
        have : es.flatten = [] := List.flatten_eq_nil_iff.2 fun e he => List.eq_nil_of_length_eq_zero (hs' e he)
        rw [this] at h
        simp at h
        omega
      exact h0
    rw [List.getElem?_append_right (by omega), he, Nat.div_eq_sub_div h0 (by omega), Nat.mod_eq_sub_mod (by omega)]
    exact ⟨e1, u, by simpa using h1, h2, h3⟩
section
variable {H : Type} {enc : TypeId × Value → H} {P : Program} {w : World} {base : Nat} {spare : Nat → Bool} {held : Bool}
theorem fields_open {S : Nat → Prop} {sh : TypeId → Option (List Sh)} {n : Nat} {cs : List Value} (ih : ∀ t cs x r, sh t = some r → DataW.trod enc P w base spare held n t cs = some x → ∃ xs, RL (Rep P S w []) cs xs ∧ RL Mt xs r) :
    ∀ (fs : List Field) (o : Nat) (r : List Sh), fieldsSh sh P o fs = some r → (∀ f ∈ fs, ∃ y, DataW.trod enc P w base spare held n f.type ((cs.drop f.offset).take (P.cellsOf f.type)) = some y) →
      ∃ xs, RL (Rep P S w []) ((cs.drop o).take r.length) xs ∧ RL Mt xs r
  | [], o, r, h, _ => by
    simp only [fieldsSh, Option.some.injEq] at h
    subst h
    exact ⟨[], by simpa using RL.nil, RL.nil⟩
  | f :: fs, o, r, h, hf => by
    unfold fieldsSh at h
    split at h
    · rename_i ho
      obtain ⟨r1, h1, h2⟩ := Option.bind_eq_some_iff.1 h
      split at h2
      · rename_i hl
        obtain ⟨r2, h3, h4⟩ := Option.map_eq_some_iff.1 h2
        subst h4
        obtain ⟨y, hy⟩ := hf f (by simp)
        obtain ⟨xs1, a1, a2⟩ := ih _ _ _ _ h1 hy
        obtain ⟨xs2, b1, b2⟩ := fields_open ih fs (o + r1.length) r2 h3 fun f hf' => hf f (by simp [hf'])
        refine ⟨xs1 ++ xs2, ?_, a2.append b2⟩
        rw [List.length_append, take_split]
        rw [ho, ← hl] at a1
        exact a1.append b1
      cases h2
    cases h
theorem copies_open {S : Nat → Prop} {r : List Sh} {n c : Nat} {e : TypeId} {cs : List Value} (hr : r.length = c) (ih : ∀ cs x, DataW.trod enc P w base spare held n e cs = some x → ∃ xs, RL (Rep P S w []) cs xs ∧ RL Mt xs r) :
    ∀ (m o : Nat), (∀ i, i < m → ∃ y, DataW.trod enc P w base spare held n e ((cs.drop (o + i * c)).take c) = some y) → ∃ xs, RL (Rep P S w []) ((cs.drop o).take (m * c)) xs ∧ RL Mt xs (copies r m)
  | 0, o, _ => ⟨[], by simpa using RL.nil, RL.nil⟩
  | m + 1, o, h => by
    obtain ⟨y, hy⟩ := h 0 (by omega)
    rw [Nat.zero_mul, Nat.add_zero] at hy
    obtain ⟨xs1, a1, a2⟩ := ih _ _ hy
    obtain ⟨xs2, b1, b2⟩ := copies_open hr ih m (o + c) fun i hi => by
      have := h (i + 1) (by omega)
      rw [show o + (i + 1) * c = o + c + i * c by rw [Nat.succ_mul]; omega] at this
      exact this
    refine ⟨xs1 ++ xs2, ?_, a2.append b2⟩
    rw [Nat.succ_mul, Nat.add_comm (m * c) c, take_split]
    exact a1.append b1
theorem Rep.small {S : Nat → Prop} {A : Option Addr} {len c : Nat} {es : List (List AV)} (h : Rep P S w [] (.slice A len c) (.ro es)) : es.length ≤ maxLen := by
  obtain ⟨-, A', c', sz, us, e, h1, h2, -⟩ := h.ro_inv
  exact Nat.le_trans h1 h2
theorem open_sh : ∀ (m fuel : Nat) (t : TypeId) (cs : List Value) (x : DataW H × List MemPlace) (r : List Sh), shOf P m t = some r → DataW.trod enc P w base spare held fuel t cs = some x → ∃ xs, RL (Rep P (fun k => k < w.heap.size) w []) cs xs ∧ RL Mt xs r
  | 0, _, _, _, _, _, h, _ => by simp [shOf] at h
  | m + 1, fuel, t, cs, x, r, h, hx => by
    unfold shOf at h
    split at h
    · rename_i k ht
      injection h with h; subst h
      obtain ⟨n, rfl, _, hw⟩ := DataW.trod_int ht hx
      exact ⟨_, .cons (.v rfl) .nil, .cons (.int hw) .nil⟩
    · rename_i ht
      injection h with h; subst h
      obtain ⟨s, rfl, _, hw⟩ := DataW.trod_string ht hx
      exact ⟨_, .cons (.v rfl) .nil, .cons (.str hw) .nil⟩
    · rename_i ht
      injection h with h; subst h
      obtain ⟨b, rfl, _⟩ := DataW.trod_bool ht hx
      exact ⟨_, .cons (.v rfl) .nil, .cons .bool .nil⟩
    · rename_i e ht
      obtain ⟨row, h1, h2⟩ := Option.map_eq_some_iff.1 h
      subst h2
      rcases Go.Deep.open_slice ht hx with ⟨rfl, _⟩ | ⟨a, len, cap, mm, n, D, Pl, rfl, hb, hl, hm, hmm, _, hel⟩
      · exact ⟨_, .cons rep_ro_nil .nil, .cons (.sl (Nat.zero_le _) (by simp) (by simp)) .nil⟩
      have hlm : len ≤ mm := by rw [hmm]; split <;> omega
      have key : ∀ i, i < len → ∃ p : List Value × List AV, w.cells? base (a.add (i * P.cellsOf e)) (P.cellsOf e) = some p.1 ∧ RL (Rep P (fun k => k < w.heap.size) w []) p.1 p.2 ∧ RL Mt p.2 row := fun i hi => by
        obtain ⟨cs', c1, c2⟩ := hel i (by omega)
        obtain ⟨xs, c3, c4⟩ := open_sh m _ _ _ _ _ h1 c2
        exact ⟨(cs', xs), c1, c3, c4⟩
      obtain ⟨F, hF⟩ := Go.Deep.choose_lt key
      have lv : ∀ l ∈ (List.range len).map (fun i => (F i).1), l.length = P.cellsOf e := fun l hl' => by
        obtain ⟨i, hi, rfl⟩ := List.mem_map.1 hl'
        exact (World.cells?_some (hF i (List.mem_range.1 hi)).1).2.1
      have lx : ∀ l ∈ (List.range len).map (fun i => (F i).2), l.length = P.cellsOf e := fun l hl' => by
        obtain ⟨i, hi, rfl⟩ := List.mem_map.1 hl'
        rw [← (hF i (List.mem_range.1 hi)).2.1.1]
        exact (World.cells?_some (hF i (List.mem_range.1 hi)).1).2.1
      have hlen : ((List.range len).map fun i => (F i).2).length = len := by simp
      have hfl : ((List.range len).map fun i => (F i).1).flatten.length = ((List.range len).map fun i => (F i).2).flatten.length := by
        rw [List.length_flatten, List.length_flatten]
        congr 1
        rw [List.map_map, List.map_map]
        exact List.map_congr_left fun i hi => (hF i (List.mem_range.1 hi)).2.1.1
      have hrep : Rep P (fun k => k < w.heap.size) w [] (.slice (some a) ((List.range len).map fun i => (F i).2).length cap) (.ro ((List.range len).map fun i => (F i).2)) := by
        refine Rep.ro (sz := P.cellsOf e) (us := ((List.range len).map fun i => (F i).1).flatten) (by rw [hlen]; exact hl) hm lx (fun hn => ?_) hfl fun i u x hu hx' => ?_
        · have hget : ∀ j u, ((List.range len).map fun i => (F i).1).flatten[j]? = some u → w.cell? (a.add j) = some u := fun j u hu => by
            obtain ⟨l, u', q1, q2, q3⟩ := flat_idx lv (j := j) (List.getElem?_eq_some_iff.1 hu).1
            rw [q3] at hu
            injection hu with hu; subst hu
            rw [List.getElem?_map] at q1
            have hq : j / P.cellsOf e < len := by
              have := (List.getElem?_eq_some_iff.1 (show ((List.range len).map fun i => (F i).1)[j / P.cellsOf e]? = some l by rw [List.getElem?_map]; exact q1)).1
              simpa using this
            rw [List.getElem?_range hq] at q1
            injection q1 with q1; subst q1
            have hc := (World.cells?_some (hF _ hq).1)
            have hp : 0 < P.cellsOf e := by
              have := (List.getElem?_eq_some_iff.1 q2).1
              rw [hc.2.1] at this; omega
            have hcell := hc.2.2 (j % P.cellsOf e) (Nat.mod_lt _ hp)
            rw [q2, Go.Deep.add_add, Nat.mul_comm, Nat.div_add_mod] at hcell
            exact hcell
          have h0 := hget 0 _ (List.getElem?_eq_getElem hn)
          obtain ⟨g, o, sp⟩ := a
          have : sp = none := by simpa [Addr.add] using World.cell?_spot h0
          subst this
          refine ⟨g, o, rfl, World.block_lt_of_cell? w _ h0, fun j u hu => ?_⟩
          have := hget j u hu
          rw [add_off] at this
          exact this
        obtain ⟨l, u', q1, q2, q3⟩ := flat_idx lv (j := i) (List.getElem?_eq_some_iff.1 hu).1
        obtain ⟨l2, u2, p1, p2, p3⟩ := flat_idx lx (j := i) (List.getElem?_eq_some_iff.1 hx').1
        rw [q3] at hu
        injection hu with hu; subst hu
        rw [p3] at hx'
        injection hx' with hx'; subst hx'
        rw [List.getElem?_map] at q1 p1
        have hq : i / P.cellsOf e < len := by
          have := (List.getElem?_eq_some_iff.1 (show ((List.range len).map fun i => (F i).1)[i / P.cellsOf e]? = some l by rw [List.getElem?_map]; exact q1)).1
          simpa using this
        rw [List.getElem?_range hq] at q1 p1
        injection q1 with q1; subst q1
        injection p1 with p1; subst p1
        exact (hF _ hq).2.1.2 _ _ _ q2 p2
      rw [hlen] at hrep
      refine ⟨_, .cons hrep .nil, .cons (.sl hrep.small (fun l hl' => ?_) fun l hl' => ?_) .nil⟩
      · obtain ⟨i, hi, rfl⟩ := List.mem_map.1 hl'
        exact (hF i (List.mem_range.1 hi)).2.2.1
      obtain ⟨i, hi, rfl⟩ := List.mem_map.1 hl'
      exact (hF i (List.mem_range.1 hi)).2.2.2
    · rename_i fs ht
      obtain ⟨r1, h1, h2⟩ := Option.bind_eq_some_iff.1 h
      split at h2
      · rename_i hl
        injection h2 with h2; subst h2
        obtain ⟨ys, n, _, _, hcl, hyl, hf⟩ := DataW.trod_struct ht hx
        obtain ⟨xs, a1, a2⟩ := fields_open (fun t cs x r => open_sh m n t cs x r) fs.toList 0 r1 h1 (cs := cs) fun f hf' => by
          obtain ⟨i, hi, rfl⟩ := List.getElem_of_mem hf'
          have := hf i fs.toList[i] (by simp at hi; simp [hi])
          exact ⟨_, this.trans (List.getElem?_eq_getElem (by rw [hyl]; simpa using hi))⟩
        rw [List.drop_zero, hl, ← hcl, List.take_length] at a1
        exact ⟨xs, a1, a2⟩
      cases h2
    · rename_i k e ht
      obtain ⟨r1, h1, h2⟩ := Option.bind_eq_some_iff.1 h
      split at h2
      · rename_i hl
        injection h2 with h2; subst h2
        obtain ⟨ys, n, _, _, hcl, hyl, hf⟩ := DataW.trod_array ht hx
        obtain ⟨xs, a1, a2⟩ := copies_open (cs := cs) hl.1 (fun cs x hx => open_sh m n e cs x r1 h1 hx) k 0 fun i hi => by
          have := hf i hi
          rw [Nat.zero_add]
          exact ⟨_, this.trans (List.getElem?_eq_getElem (by omega))⟩
        rw [List.drop_zero, ← hl.2, ← hcl, List.take_length] at a1
        exact ⟨xs, a1, a2⟩
      cases h2
    cases h
/-- A datum of one cell. -/
theorem open_one {m : Nat} {t : TypeId} {v : Value} {s : Sh} {d : DataW H} {ps : List MemPlace} (hs : shOf P m t = some [s]) (hv : v.cells = #[v]) (h : DataW.Trod enc P w base spare held t v d ps) : ∃ x, AggOK P (fun k => k < w.heap.size) w (insT []) [] v x ∧ Mt x s := by
  obtain ⟨fuel, hf⟩ := h
  rw [hv] at hf
  obtain ⟨xs, a1, a2⟩ := open_sh m fuel t [v] _ [s] hs hf
  obtain ⟨x, xs', rfl, b1, b2⟩ := a1.cons'
  obtain ⟨x2, xs2, q, c1, -⟩ := a2.cons'
  injection q with q _
  subst q
  refine ⟨x, ?_, c1⟩
  have hr := b1.ref (T := insT []) (vals := [])
  cases c1 <;> exact hr
end
theorem Spec.small {P : Program} {f : FuncId} {ins xs : List AV} {Q : List AV → List AV → Prop} {es : List (List AV)} (k : Nat) (hk : xs[k]? = some (.ro es)) (h : es.length ≤ 9223372036854775807 → Spec P f ins xs Q) : Spec P f ins xs Q := fun w S vals bss vs c => by
  obtain ⟨u, hu, hr⟩ := c.args.at_ hk
  have hr : Rep P S w [] u (.ro es) := hr
  obtain ⟨-, A, cc, sz, us, e, h1, h2, -⟩ := hr.ro_inv
  exact h (Nat.le_trans (Nat.le_trans h1 h2) (by decide)) w S vals bss vs c
/-- What a cell may hold, taken apart. -/
theorem Mt.i64 {x : AV} (h : Mt x (.int .i64)) : ∃ n, x = .v (.int .i64 n) := by cases h; exact ⟨_, rfl⟩
theorem Mt.u8 {x : AV} (h : Mt x (.int .u8)) : ∃ n, x = .v (.int .u8 n) := by cases h; exact ⟨_, rfl⟩
theorem Mt.sl_ {x : AV} {r : List Sh} (h : Mt x (.sl r)) : ∃ es, x = .ro es := by cases h; exact ⟨_, rfl⟩
end Go.Proofs.Ytmdohphcolffmaa
namespace Go.Proofs.Ytmdohphcolffmaa
open Go.RowKit
set_option linter.unusedSimpArgs false
set_option linter.unusedVariables false
set_option maxRecDepth 100000
abbrev decIntSh : List Sh := [.int .i64]
theorem decInt {xs : List AV} (h : RL Mt xs decIntSh) : ∃ c : Int, xs = iv c := by
  obtain ⟨x0, xs, rfl, h0, h⟩ := h.cons_inv
  obtain rfl := h.nil_inv
  obtain ⟨v0, rfl⟩ := Mt.i64 h0
  exact ⟨v0, rfl⟩
abbrev decIntsSh : Sh := .sl decIntSh
theorem decInts {x : AV} (h : Mt x decIntsSh) : ∃ l : List Int, x = .ro (l.map iv) := by
  obtain ⟨es, rfl⟩ := h.sl_
  obtain ⟨l, rfl⟩ := rows_of fun e he => decInt (h.rows e he)
  exact ⟨l, rfl⟩
abbrev decPieceSh : List Sh := [.int .i64, .int .i64, .int .i64, .int .i64, .int .i64]
abbrev decPlateSh : List Sh := [.int .i64, .int .i64, .int .i64]
abbrev decContSh : List Sh := [.int .i64, .str, .int .i64, .str, .int .i64, .int .i64, .int .i64, .int .i64, .int .i64, .int .i64, .sl decPieceSh]
abbrev decContsSh : Sh := .sl decContSh
end Go.Proofs.Ytmdohphcolffmaa
