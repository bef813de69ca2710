import Derived.Test.YtmdohphcolffmaaSpf
import Derived.Deep.Slices
import Derived.OpenShut
import Derived.WalkKit
import Derived.ProofKit
namespace Go.Proofs.Ytmdohphcolffmaa
open Go.RowKit
set_option linter.unusedSimpArgs false
set_option linter.unusedVariables false
set_option maxRecDepth 100000
theorem getD_memP {l : List Piece} {i : Nat} (h : i < l.length) : l.getD i default ∈ l := by rw [getD_el h]; exact List.getElem_mem h
theorem set_C {l : List Container} {j : Nat} (c : Container) (h : j < l.length) : (l.map Container.av).set j (splice (l.getD j default).av 0 c.av) = (l.set j c).map Container.av := by
  rw [List.map_set]
  rfl
theorem flatC (l : List Container) : ∀ r ∈ l.map Container.av, ∀ c ∈ r, flatA c = true := fun r hr c hc => by
  obtain ⟨x, _, rfl⟩ := List.mem_map.1 hr
  simp only [Container.av, Flight.av, List.mem_cons, List.mem_append, List.not_mem_nil, or_false, List.cons_append, List.nil_append] at hc
  rcases hc with rfl | rfl | rfl | rfl | rfl | rfl | rfl | rfl | rfl | rfl | rfl <;> rfl
theorem rowsC (l : List Container) : (((l.map Container.av).drop 0).take l.length).map (·.map ldc) = l.map Container.av := by
  rw [List.drop_zero, List.take_of_length_le (by simp), List.map_map]
  exact List.map_congr_left fun c _ => rfl
theorem pl71 : plIs Try.prog 71 [] := ⟨_, Try.underlying71, by kernel_rfl⟩
set_option maxHeartbeats 8000000 in
theorem C12 {l : List Container} {f : Flight} {bags : List Piece} (hs : Sml l) (hb : bags.length ≤ 49) : Fn Try.prog 12 [] [.ro (l.map Container.av), .agg f.av, .ro (bags.map Piece.av)] [.ro ((asgV l f bags).1.map Container.av), .ro ((asgV l f bags).2.1.map Piece.av), .v (.int .i64 (asgV l f bags).2.2)] [] := by
  refine Spec.body Try.func12 rfl Try.ntmps12 (by simp) rfl ?_; intro S0 own0 v0 w0
  (refine AW.seq_k ?_; intro K hK)
  refine AW.region ?_
  refine awJ (op_box rfl rfl rfl sz30 rfl) ?_; (simp only [nA, Nat.reduceBEq, Nat.reduceEqDiff, ↓reduceIte])
  refine awP (op_assign rfl rfl) ?_
  refine awP (op_assign rfl rfl) ?_
  refine awP (op_assign rfl rfl) ?_
  refine AWL.nil ?_
  (refine hK _ ?_; clear hK K; (try simp only [nA, Nat.reduceBEq, Nat.reduceEqDiff, ↓reduceIte, Nat.reduceAdd, Nat.reduceSub]))
  (refine AW.seq_k ?_; intro K hK)
  (refine AW.seq_k ?_; intro K hK)
  refine AW.region ?_
  refine awP (op_move rfl rfl) ?_
  refine awJ (OpQ.j (op_callQ (b := true) rfl en20 (C20 (xs := l) hs.len) (RL.cons (by exact View.same rfl) (RL.nil)) rfl)) ?_; (simp only [nA, ↓reduceIte])
  refine awP (op_assign rfl rfl) ?_
  refine AWL.nil ?_
  (refine hK _ ?_; clear hK K; (simp only [nA]))
  (refine AW.seq_k ?_; intro K hK)
  refine AW.region ?_
  refine awP (op_move rfl rfl) ?_
  (refine awP (op_neq rfl rfl rfl) ?_)
  refine AWL.nil ?_
  (refine hK _ ?_; clear hK K; (simp only [nA]))
  refine AW.cond rfl rfl rfl (fun hc => ?_) (fun hc => ?_)
  ·
   have hc1 := hc; have g1 : chkL l ≠ 0 := (by simpa using hc1)
   (refine AW.seq_k ?_; intro K hK)
   refine AW.region ?_
   refine awP (op_move rfl rfl) ?_
   refine awP (op_assign rfl rfl) ?_
   refine awP (op_assign rfl rfl) ?_
   refine awP (op_assign rfl rfl) ?_
   refine AWL.nil ?_
   (refine hK _ ?_; clear hK K; (simp only [nA, ↓reduceIte]))
   refine AW.gh (Gh.nil (e := 45) 6 (bl rfl) rfl sz45) ?_; (simp only [nA, Nat.reduceBEq, Nat.reduceEqDiff, ↓reduceIte]); refine AW.gh (Gh.freeze 6 (bl rfl) rfl rfl (by simp) (es' := ([] : List Container).map Container.av) rfl) ?_; (try simp only [nA, Nat.reduceBEq, Nat.reduceEqDiff, ↓reduceIte, Nat.reduceAdd, Nat.reduceSub]); refine AW.gh (Gh.nil (e := 41) 7 (bl rfl) rfl sz41) ?_; (simp only [nA, Nat.reduceBEq, Nat.reduceEqDiff, ↓reduceIte]); refine AW.gh (Gh.freeze 7 (bl rfl) rfl rfl (by simp) (es' := ([] : List Piece).map Piece.av) rfl) ?_; (try simp only [nA, Nat.reduceBEq, Nat.reduceEqDiff, ↓reduceIte, Nat.reduceAdd, Nat.reduceSub])
   refine AW.ret ?_; (try simp only [thenE, inBlk, Nat.reduceEqDiff, ↓reduceIte]); rw [asgV_chk g1]; exact RQ.of0 rfl (.tmp (bl rfl) rfl rfl (.tmp (bl rfl) rfl rfl (.tmp (bl rfl) rfl rfl .nil)))
  have hc1 := hc; have g1 : chkL l = 0 := (by simpa using hc1)
  refine AW.skip ?_
  (refine hK _ ?_; clear hK K; (skip))
  (refine AW.seq_k ?_; intro K hK)
  refine AW.region ?_
  refine awP (op_move rfl rfl) ?_
  (refine awP (op_len_ro rfl rfl Try.underlying27 (by exact .inr (.inl ⟨_, rfl, rfl⟩))) ?_)
  refine awJ (op_makeMapU rfl rfl Try.underlying69 kd39) ?_; (simp only [nA, Nat.reduceBEq, Nat.reduceEqDiff, ↓reduceIte])
  refine awP (op_assign rfl rfl) ?_
  refine AWL.nil ?_
  (refine hK _ ?_; clear hK K; (simp only [nA]))
  (refine AW.seq_k ?_; intro K hK)
  (refine AW.seq_k ?_; intro K hK)
  refine AW.region ?_
  refine awP (op_move rfl rfl) ?_
  (refine awP (op_len_ro rfl rfl Try.underlying27 (by exact .inr (.inl ⟨_, rfl, rfl⟩))) ?_)
  refine awP (op_move rfl rfl) ?_
  refine AWL.nil ?_
  (refine hK _ ?_; clear hK K; (simp only [nA, ↓reduceIte]))
  refine AW.block ?_
  refine AW.loopI (fun (q : Nat × Nat) => [(0, .ro (l.map Container.av)), (2, .ro (bags.map Piece.av)), (4, .ptr 0 1 0 0), (10, .mp 1 2), (34, .ro (bags.map Piece.av)), (35, .v (.int .i64 (bags.length : Nat))), (36, .v (.int .i64 (q.1 : Nat)))]) (fun q => ⟨[(1, .own 30 [f.av]), (2, .om 69 ((seenP bags q.1).map plV))], q.2⟩) (fun q => q.1 ≤ bags.length ∧ ∀ j, j < q.1 → errB l bags j = 0) (fun q => bags.length - q.1) (0, _) ⟨by simp, fun j h => by dsimp only at h; omega⟩ ⟨rfl, rfl, rfl, rfl, rfl, (by dsimp only; simp; rfl), rfl, trivial⟩ rfl ?_; rintro ⟨i, ep⟩ ρ hI; dsimp only at hI ⊢; simp only [updL]
  (refine AW.seq_k ?_; intro K hK)
  refine AW.region ?_
  refine awP (op_lss rfl rfl rfl) ?_
  refine AWL.nil ?_
  (refine hK _ ?_; clear hK K; (try simp only [nA, Nat.reduceBEq, Nat.reduceEqDiff, ↓reduceIte, Nat.reduceAdd, Nat.reduceSub]))
  (refine AW.seq_k ?_; intro K hK)
  refine AW.cond rfl rfl rfl (fun hc => ?_) (fun hc => ?_)
  ·
   have hc2 := hc; have hlt : i < bags.length := (by simpa using hc2)
   refine AW.skip ?_
   (refine hK _ ?_; clear hK K; (skip))
   (refine AW.seq_k ?_; intro K hK)
   refine AW.block ?_
   (refine AW.seq_k ?_; intro K hK)
   refine AW.region ?_
   refine awP (op_ia_ro i rfl (.inl rfl) rfl Try.underlying27 rfl (get_mapD hlt) (by exact sz41) (bl rfl)) ?_
   (refine awR (op_load_rop rfl rfl ag41 sz41 (bl rfl) (by decide) rfl) ?_)
   refine awJ (op_alloc rfl ze41 rfl) ?_; (simp only [nA, Nat.reduceBEq, Nat.reduceEqDiff, ↓reduceIte])
   refine awJ (op_store rfl rfl rfl rfl rfl rfl sz41 rfl (bl rfl) rfl) ?_; (simp only [nA, Nat.reduceBEq, Nat.reduceEqDiff, ↓reduceIte])
   refine AWL.nil ?_
   (refine hK _ ?_; clear hK K; (skip))
   (refine AW.seq_k ?_; intro K hK)
   (refine AW.seq_k ?_; intro K hK)
   refine AW.region ?_
   (refine awR (op_load_ptr rfl rfl rfl rfl ag41 sz41 (bl rfl) rfl) ?_)
   refine awJ (OpQ.j (op_callQ (b := true) rfl en33 (C33 (p := (bags.getD i default))) (RL.cons (by exact View.same rfl) (RL.nil)) rfl)) ?_; (try simp only [nA, Nat.reduceBEq, Nat.reduceEqDiff, ↓reduceIte, Nat.reduceAdd, Nat.reduceSub])
   refine awP (op_not rfl rfl rfl) ?_
   refine AWL.nil ?_
   (refine hK _ ?_; clear hK K; (try simp only [nA, Nat.reduceBEq, Nat.reduceEqDiff, ↓reduceIte, Nat.reduceAdd, Nat.reduceSub]))
   refine AW.cond rfl rfl rfl (fun hc => ?_) (fun hc => ?_)
   ·
    have hc3 := hc; have g3 : piB (bags.getD i default) = false := (by simpa using hc3)
    (refine AW.seq_k ?_; intro K hK)
    refine AW.region ?_
    refine awP (op_assign rfl rfl) ?_
    refine awP (op_assign rfl rfl) ?_
    refine awP (op_assign rfl rfl) ?_
    refine AWL.nil ?_
    (refine hK _ ?_; clear hK K; (try simp only [nA, Nat.reduceBEq, Nat.reduceEqDiff, ↓reduceIte, Nat.reduceAdd, Nat.reduceSub]))
    refine AW.gh (Gh.nil (e := 45) 6 (bl rfl) rfl sz45) ?_; (simp only [nA, Nat.reduceBEq, Nat.reduceEqDiff, ↓reduceIte]); refine AW.gh (Gh.freeze 6 (bl rfl) rfl rfl (by simp) (es' := ([] : List Container).map Container.av) rfl) ?_; (try simp only [nA, Nat.reduceBEq, Nat.reduceEqDiff, ↓reduceIte, Nat.reduceAdd, Nat.reduceSub]); refine AW.gh (Gh.nil (e := 41) 7 (bl rfl) rfl sz41) ?_; (simp only [nA, Nat.reduceBEq, Nat.reduceEqDiff, ↓reduceIte]); refine AW.gh (Gh.freeze 7 (bl rfl) rfl rfl (by simp) (es' := ([] : List Piece).map Piece.av) rfl) ?_; (try simp only [nA, Nat.reduceBEq, Nat.reduceEqDiff, ↓reduceIte, Nat.reduceAdd, Nat.reduceSub])
    refine AW.ret ?_; (try simp only [thenE, inBlk, Nat.reduceEqDiff, ↓reduceIte]); rw [asgV_err g1 (e := 1) (by rw [asgE_at hlt hI.2 (by rw [errB_1 g3]; decide), errB_1 g3]) (by decide)]; exact RQ.of0 rfl (.tmp (bl rfl) rfl rfl (.tmp (bl rfl) rfl rfl (.tmp (bl rfl) rfl rfl .nil)))
   have hc3 := hc; have g3 : piB (bags.getD i default) = true := (by simpa using hc3); have hpr := pl_range (piB_inv g3).1
   refine AW.skip ?_
   (refine hK _ ?_; clear hK K; (skip))
   (refine AW.seq_k ?_; intro K hK)
   refine AW.region ?_
   refine awP (op_move rfl rfl) ?_
   (refine awP (op_fa_ptr rfl rfl rfl fl41_0 (by exact sz39) (by decide) rfl) ?_)
   (refine awR (op_load_ptr rfl rfl rfl rfl ag39 sz39 (bl rfl) rfl) ?_)
   refine awJ (op_call (b := false) rfl en25 (C25 (xs := l) (p := (bags.getD i default).plate) hs.len hs.p) (RL.cons (by exact View.same rfl) (RL.cons (by exact View.same rfl) (RL.nil))) rfl (fun h => by cases h) rfl rfl) ?_; (simp only [nA, ↓reduceIte])
   refine awP (op_move rfl rfl) ?_
   refine awP (op_extract rfl rfl rfl) ?_
   refine awP (op_extract rfl rfl rfl) ?_
   refine awP (op_assign rfl rfl) ?_
   refine awP (op_assign rfl rfl) ?_
   refine AWL.nil ?_
   (refine hK _ ?_; clear hK K; (simp only [nA, ↓reduceIte]))
   (refine AW.seq_k ?_; intro K hK)
   (refine AW.seq_k ?_; intro K hK)
   refine AW.region ?_
   refine awP (op_move rfl rfl) ?_
   (refine awP (op_fa_ptr rfl rfl rfl fl41_0 (by exact sz39) (by decide) rfl) ?_)
   (refine awR (op_load_ptr rfl rfl rfl rfl ag39 sz39 (bl rfl) rfl) ?_)
   refine awR (op_lookupU (r := 1) (b := decide ((bags.getD i default).plate ∈ seenP bags i)) (ks := (seenP bags i).map plV) (xs := [.int .i64 (bags.getD i default).plate.lead, .int .i64 (bags.getD i default).plate.airline, .int .i64 (bags.getD i default).plate.serial]) rfl rfl rfl rfl Try.underlying69 Try.underlying71 zf71 (key39 hpr.1 hpr.2.1 hpr.2.2) plV_mem) ?_; (simp only [nA, ↓reduceIte])
   refine awP (op_move rfl rfl) ?_
   refine awP (op_extract rfl rfl rfl) ?_
   refine awP (op_extract rfl rfl rfl) ?_
   refine awJ (op_alloc rfl ze71 rfl) ?_; (simp only [nA, Nat.reduceBEq, Nat.reduceEqDiff, ↓reduceIte])
   refine awJ (op_store rfl rfl rfl rfl rfl rfl sz71 rfl (bl rfl) rfl) ?_; (try simp only [nA, Nat.reduceBEq, Nat.reduceEqDiff, ↓reduceIte, Nat.reduceAdd, Nat.reduceSub])
   refine awP (op_assign rfl rfl) ?_
   refine AWL.nil ?_
   (refine hK _ ?_; clear hK K; (simp only [nA, ↓reduceIte]))
   (refine AW.seq_k ?_; intro K hK)
   refine AW.region (AWL.quiet ?_)
   refine aqP (op_move rfl rfl) ?_
   refine aqP (op_move rfl rfl) ?_
   refine' aqOr' [_] [59] rfl rfl rfl rfl rfl rfl rfl rfl rfl rfl rfl rfl (fun hb => ?_) ?_; rotate_left
   ·
    (try simp only [hcS] at hb)
    refine aqP (op_move rfl rfl) ?_
    (refine aqSeg rfl rfl rfl ?_; repeat (first | exact fun _ _ => rfl | refine upd_out rfl ?_))
   simp only [nA, ↓reduceIte]
   refine AQ.nil ?_
   (refine hK _ ?_; clear hK K; (skip))
   refine AW.cond rfl rfl rfl (fun hc => ?_) (fun hc => ?_)
   ·
    have hc4 := hc; have g4 : ((findL l (bags.getD i default).plate).2 || decide ((bags.getD i default).plate ∈ seenP bags i)) = true := hc4; rw [seen_mem] at g4
    (refine AW.seq_k ?_; intro K hK)
    refine AW.region ?_
    refine awP (op_assign rfl rfl) ?_
    refine awP (op_assign rfl rfl) ?_
    refine awP (op_assign rfl rfl) ?_
    refine AWL.nil ?_
    (refine hK _ ?_; clear hK K; (try simp only [nA, Nat.reduceBEq, Nat.reduceEqDiff, ↓reduceIte, Nat.reduceAdd, Nat.reduceSub]))
    refine AW.gh (Gh.nil (e := 45) 6 (bl rfl) rfl sz45) ?_; (simp only [nA, Nat.reduceBEq, Nat.reduceEqDiff, ↓reduceIte]); refine AW.gh (Gh.freeze 6 (bl rfl) rfl rfl (by simp) (es' := ([] : List Container).map Container.av) rfl) ?_; (try simp only [nA, Nat.reduceBEq, Nat.reduceEqDiff, ↓reduceIte, Nat.reduceAdd, Nat.reduceSub]); refine AW.gh (Gh.nil (e := 41) 7 (bl rfl) rfl sz41) ?_; (simp only [nA, Nat.reduceBEq, Nat.reduceEqDiff, ↓reduceIte]); refine AW.gh (Gh.freeze 7 (bl rfl) rfl rfl (by simp) (es' := ([] : List Piece).map Piece.av) rfl) ?_; (try simp only [nA, Nat.reduceBEq, Nat.reduceEqDiff, ↓reduceIte, Nat.reduceAdd, Nat.reduceSub])
    refine AW.ret ?_; (try simp only [thenE, inBlk, Nat.reduceEqDiff, ↓reduceIte]); rw [asgV_err g1 (e := 5) (by rw [asgE_at hlt hI.2 (by rw [errB_5 g3 g4]; decide), errB_5 g3 g4]) (by decide)]; exact RQ.of0 rfl (.tmp (bl rfl) rfl rfl (.tmp (bl rfl) rfl rfl (.tmp (bl rfl) rfl rfl .nil)))
   have hc4 := hc; have g4 : ((findL l (bags.getD i default).plate).2 || decide ((bags.getD i default).plate ∈ seenP bags i)) = false := hc4; rw [seen_mem] at g4
   refine AW.skip ?_
   (refine hK _ ?_; clear hK K; (skip))
   refine AW.region ?_
   refine awP (op_move rfl rfl) ?_
   (refine awP (op_fa_ptr rfl rfl rfl fl41_0 (by exact sz39) (by decide) rfl) ?_)
   (refine awR (op_load_ptr rfl rfl rfl rfl ag39 sz39 (bl rfl) rfl) ?_)
   refine awP (op_build2 (xs := []) rfl pl71 ze71 [] rfl rfl rfl) ?_
   refine awJ (op_mapUpdateU (r := 1) (ks := (seenP bags i).map plV) (xs := [.int .i64 (bags.getD i default).plate.lead, .int .i64 (bags.getD i default).plate.airline, .int .i64 (bags.getD i default).plate.serial]) rfl rfl rfl rfl rfl Try.underlying69 Try.underlying71 (key39 hpr.1 hpr.2.1 hpr.2.2) (by simp [seen_len hI.1, maxLen]; omega)) ?_; (simp only [nA, Nat.reduceEqDiff, ↓reduceIte])
   refine AWL.nil ?_
   (try simp only [thenE, inBlk, Nat.reduceEqDiff, ↓reduceIte])
   (refine hK _ ?_; clear hK K; (skip))
   refine AW.region ?_
   (refine awP (op_addi rfl rfl rfl (by omega)) ?_)
   refine awP (op_move rfl rfl) ?_
   refine AWL.gh (Gh.drop 2) ?_; (simp only [nA])
   refine AWL.nil ?_
   refine ⟨(i + 1, _), ⟨by dsimp only; omega, fun j hj => ?_⟩, by dsimp only; omega, ⟨rfl, rfl, rfl, rfl, rfl, rfl, rfl, trivial⟩, (by dsimp only; rw [seen_succ hlt]; rfl), (by rfl)⟩; dsimp only at hj; rcases Nat.lt_or_ge j i with h | h <;> first | exact hI.2 j h | (obtain rfl : j = i := (by omega); exact errB_00 g3 g4)
  have hc2 := hc; obtain hil : i = bags.length := (by have : ¬ i < bags.length := (by simpa using hc2); omega); have hE : asgE l bags = 0 := asgE_no (fun j hj => hI.2 j (by omega)); have hD := asgE_dis hE; have hPi := asgE_pi hE; have hInv := InvO.of g1; have hO := ordV_len bags; have hlen := hInv.len
  refine AW.exit ?_; (try simp only [thenE, inBlk, Nat.reduceEqDiff, ↓reduceIte])
  clear hK K
  (refine hK _ ?_; clear hK K; (skip))
  (refine AW.seq_k ?_; intro K hK)
  refine AW.region ?_
  refine awP (op_move rfl rfl) ?_
  refine awJ (op_app_nil (rows := bags.map Piece.av) rfl rfl rfl .ro Try.underlying27 ze41 (by decide) (av_len _) (by simp; omega) (by decide) (n := bags.length) (by simp)) ?_; (simp only [nA, Nat.reduceBEq, Nat.reduceEqDiff, ↓reduceIte])
  refine awJ (op_alloc rfl ze27 rfl) ?_; (simp only [nA, Nat.reduceBEq, Nat.reduceEqDiff, ↓reduceIte])
  refine awJ (op_store_nest (r := 3) (q := 2) rfl rfl rfl rfl (row := [_]) rfl sz27 rfl (by decide) (by simp) (by simp) (es2 := [[.own 41 (bags.map Piece.av)]]) rfl) ?_; (try simp only [nA, Nat.reduceBEq, Nat.reduceEqDiff, ↓reduceIte, Nat.reduceAdd, Nat.reduceSub])
  refine AWL.nil ?_
  (refine hK _ ?_; clear hK K; (skip))
  refine AW.ghE (GhE.unnest (r := 3) 0 0 rfl rfl rfl) fun u hu => ?_
  (try simp only [nA, Nat.reduceBEq, Nat.reduceEqDiff, ↓reduceIte, Nat.reduceAdd, Nat.reduceSub])
  refine AW.gh (Gh.freezeP 17 (bl rfl) rfl rfl (by simp [flatA])) ?_; (try simp only [nA, Nat.reduceBEq, Nat.reduceEqDiff, ↓reduceIte, Nat.reduceAdd, Nat.reduceSub])
  (refine AW.seq_k ?_; intro K hK)
  refine AW.region ?_
  (refine awR (op_load_rop1 rfl rfl ag27) ?_)
  refine awP (op_mkiface rfl rfl (by kernel_rfl)) ?_
  refine awP (op_makeFunc rfl rfl rfl) ?_
  refine awJ (op_callN (r := 4) rfl en34 (S34 (u := u) hb hD) (by exact rfl) (RL.cons (.base (.same (by exact rfl))) (RL.cons (.base (.same (by exact rfl))) RL.nil)) (by exact ⟨_, _, _, _, rfl, rfl⟩) (by exact rfl) (by exact rfl) (by exact rfl)) ?_; (simp only [nA, ↓reduceIte])
  refine AWL.nil ?_
  (refine hK _ ?_; clear hK K; (skip))
  (refine AW.seq_k ?_; intro K hK)
  refine AW.region ?_
  refine awP (op_move rfl rfl) ?_
  refine awJ (op_call (b := false) rfl en37 (C37 (l := l) (by omega) (fun c hc => by have := (val_inv (hInv.val c hc)).2.1; omega)) (RL.cons (by exact View.same rfl) (RL.nil)) rfl (fun h => by cases h) rfl rfl) ?_; (simp only [nA, Nat.reduceBEq, Nat.reduceEqDiff, ↓reduceIte])
  refine awP (op_assign rfl rfl) ?_
  refine AWL.nil ?_
  (refine hK _ ?_; clear hK K; (simp only [nA]))
  (refine AW.seq_k ?_; intro K hK)
  refine AW.region ?_
  refine awP (op_assign rfl rfl) ?_
  refine AWL.nil ?_
  (refine hK _ ?_; clear hK K; (try simp only [nA, Nat.reduceBEq, Nat.reduceEqDiff, ↓reduceIte, Nat.reduceAdd, Nat.reduceSub]))
  (refine AW.seq_k ?_; intro K hK)
  (refine AW.seq_k ?_; intro K hK)
  refine AW.region ?_
  refine awR (op_load_rop1 rfl rfl ag27) ?_; (try simp only [nA, Nat.reduceBEq, Nat.reduceEqDiff, ↓reduceIte, Nat.reduceAdd, Nat.reduceSub]); refine AWL.gh (Gh.openN (r := 4) 74 (bl rfl) rfl rfl) ?_; (try simp only [nA, Nat.reduceBEq, Nat.reduceEqDiff, ↓reduceIte, Nat.reduceAdd, Nat.reduceSub]); refine AWL.gh (Gh.freeze 74 (bl rfl) rfl rfl (av_flatP _) (es' := (ordV bags).map Piece.av) (List.take_of_length_le (by simp))) ?_
  (refine awP (op_len_ro rfl rfl Try.underlying27 (by exact .inr (.inl ⟨_, rfl, rfl⟩))) ?_)
  refine awP (op_move rfl rfl) ?_
  refine AWL.nil ?_
  (refine hK _ ?_; clear hK K; (try simp only [nA, Nat.reduceBEq, Nat.reduceEqDiff, ↓reduceIte, Nat.reduceAdd, Nat.reduceSub]))
  refine AW.block ?_
  refine AW.gh (Gh.nil (e := 41) 19 (bl rfl) rfl sz41) ?_; (simp only [nA, Nat.reduceBEq, Nat.reduceEqDiff, ↓reduceIte]); refine AW.loopI (fun (q : Nat × Nat × Nat) => [(4, .ptr 0 1 0 0), (18, .sl 5 (ep + 1 + 1 + 1) 0 (asgF f (l, []) ((ordV bags).take q.1)).1.length), (19, .sl 6 q.2.1 0 (asgF f (l, []) ((ordV bags).take q.1)).2.length), (74, .ro ((ordV bags).map Piece.av)), (75, .v (.int .i64 ((ordV bags).length : Nat))), (76, .v (.int .i64 (q.1 : Nat)))]) (fun q => ⟨[(1, .own 30 [f.av]), (2, .om 69 ((seenP bags i).map plV)), (ep, .any), (ep + 1, .any), (ep + 1 + 1 + 1 + 1, .any), (ep + 1 + 1 + 1, .own 45 ((asgF f (l, []) ((ordV bags).take q.1)).1.map Container.av)), (q.2.1, .own 41 ((asgF f (l, []) ((ordV bags).take q.1)).2.map Piece.av))], q.2.2⟩) (fun q => q.1 ≤ (ordV bags).length) (fun q => (ordV bags).length - q.1) (0, _, _) (by simp) ⟨rfl, rfl, rfl, rfl, rfl, rfl, trivial⟩ rfl ?_; clear hI hc2 hil; generalize seenP bags i = sn; rintro ⟨i, v, ep2⟩ ρ2 hI; dsimp only at hI ⊢; simp only [updL]
  (refine AW.seq_k ?_; intro K hK)
  refine AW.region ?_
  refine awP (op_lss rfl rfl rfl) ?_
  refine AWL.nil ?_
  (refine hK _ ?_; clear hK K; (try simp only [nA, Nat.reduceBEq, Nat.reduceEqDiff, ↓reduceIte, Nat.reduceAdd, Nat.reduceSub]))
  (refine AW.seq_k ?_; intro K hK)
  refine AW.cond rfl rfl rfl (fun hc => ?_) (fun hc => ?_)
  ·
   have hc5 := hc; have hlt5 : i < (ordV bags).length := (by simpa using hc5); have hI2 : InvO (asgF f (l, []) ((ordV bags).take i)).1 := InvO.fold _ hInv; have hln := asgF_len (f := f) ((ordV bags).take i) (l, []); have hpi : piB ((ordV bags).getD i default) = true := (hPi _ ((ordV_perm bags).subset (getD_memP hlt5))).1; have hstp := asgF_take (f := f) (s := (l, [])) hlt5; rw [List.length_take, List.length_nil] at hln
   refine AW.skip ?_
   (refine hK _ ?_; clear hK K; (skip))
   (refine AW.seq_k ?_; intro K hK)
   refine AW.block ?_
   (refine AW.seq_k ?_; intro K hK)
   refine AW.region ?_
   refine awP (op_ia_ro i rfl (.inl rfl) rfl Try.underlying27 rfl (get_mapD hlt5) (by exact sz41) (bl rfl)) ?_
   (refine awR (op_load_rop rfl rfl ag41 sz41 (bl rfl) (by decide) rfl) ?_)
   refine awJ (op_alloc rfl ze41 rfl) ?_; (simp only [nA, Nat.reduceBEq, Nat.reduceEqDiff, ↓reduceIte])
   refine awJ (op_store rfl rfl rfl rfl rfl rfl sz41 rfl (bl rfl) rfl) ?_; (simp only [nA, Nat.reduceBEq, Nat.reduceEqDiff, ↓reduceIte])
   refine AWL.nil ?_
   (refine hK _ ?_; clear hK K; (skip))
   (refine AW.seq_k ?_; intro K hK)
   refine AW.region ?_
   refine awP (op_move rfl rfl) ?_
   (refine awR (op_load_ptr rfl rfl rfl rfl ag30 sz30 (bl rfl) rfl) ?_)
   (refine awR (op_load_ptr rfl rfl rfl rfl ag41 sz41 (bl rfl) rfl) ?_)
   refine awJ (op_call (b := true) rfl en38 (C38 (l := (asgF f (l, []) ((ordV bags).take i)).1) (f := f) (p := ((ordV bags).getD i default)) hI2.fit hpi) (RL.cons (View.src (.sl rfl (rowsC _))) (RL.cons (by exact View.same rfl) (RL.cons (by exact View.same rfl) RL.nil))) rfl (fun _ => sol2) rfl rfl) ?_; (simp only [nA, ↓reduceIte])
   refine awP (op_move rfl rfl) ?_
   refine awP (op_extract rfl rfl rfl) ?_
   refine awP (op_extract rfl rfl rfl) ?_
   refine awP (op_assign rfl rfl) ?_
   refine awP (op_assign rfl rfl) ?_
   refine AWL.nil ?_
   (refine hK _ ?_; clear hK K; (simp only [nA, ↓reduceIte]))
   (refine AW.seq_k ?_; intro K hK)
   (refine AW.seq_k ?_; intro K hK)
   refine AW.region ?_
   refine awP (op_move rfl rfl) ?_
   refine awP (op_lss rfl rfl rfl) ?_
   refine AWL.nil ?_
   (refine hK _ ?_; clear hK K; (simp only [nA, ↓reduceIte]))
   refine AW.cond rfl rfl rfl (fun hc => ?_) (fun hc => ?_)
   ·
    have hc6 := hc; have g6 : bestV (asgF f (l, []) ((ordV bags).take i)).1 f ((ordV bags).getD i default) = none := (by cases hb : bestV (asgF f (l, []) ((ordV bags).take i)).1 f ((ordV bags).getD i default) with | none => rfl | some i => rw [hb] at hc6; exact absurd (of_decide_eq_true hc6) (by show ¬ ((i : Nat) : Int) < 0; omega)); rw [stepA_none g6] at hstp
    (refine AW.seq_k ?_; intro K hK)
    refine AW.region ?_
    refine awP (op_move rfl rfl) ?_
    (refine awR (op_load_ptr rfl rfl rfl rfl ag41 sz41 (bl rfl) rfl) ?_)
    refine awJ (OpJ.frz (op_buildSlice rfl [(0, (((ordV bags).getD i default)).av)] [(((ordV bags).getD i default)).av] Try.underlying27 ze41 rfl (by simp) rfl (by simp) rfl (bl rfl) (by simp [maxLen])) (by simp [flatA]) rfl) ?_; (simp only [nA, ↓reduceIte])
    refine awJ (op_app (r := 6) (rows := [(((ordV bags).getD i default)).av]) rfl rfl rfl rfl (by simp) .ro Try.underlying27 ze41 (by decide) (av_len [((ordV bags).getD i default)]) (by simp; omega) (by decide) (es' := ((asgF f (l, []) ((ordV bags).take i)).2 ++ [((ordV bags).getD i default)]).map Piece.av) (by simp) (n := ((asgF f (l, []) ((ordV bags).take i)).2 ++ [((ordV bags).getD i default)]).length) (by simp)) ?_; (try simp only [nA, Nat.reduceBEq, Nat.reduceEqDiff, ↓reduceIte, Nat.reduceAdd, Nat.reduceSub])
    refine awP (op_assign rfl rfl) ?_
    refine AWL.nil ?_
    (refine hK _ ?_; clear hK K; (simp only [nA]))
    refine AW.exit ?_; (try simp only [thenE, inBlk, Nat.reduceEqDiff, ↓reduceIte])
    clear hK K
    (refine hK _ ?_; clear hK K; (skip))
    refine AW.region ?_
    (refine awP (op_addi rfl rfl rfl (by omega)) ?_)
    refine awP (op_move rfl rfl) ?_
    refine AWL.gh (Gh.drop 7) ?_; (simp only [nA])
    refine AWL.nil ?_
    refine ⟨(i + 1, _, _), by dsimp only; omega, by dsimp only; omega, ⟨rfl, (by dsimp only; rw [hstp]; rfl), (by dsimp only; rw [hstp]; rfl), rfl, rfl, rfl, trivial⟩, (by dsimp only; rw [hstp]), (by rfl)⟩
   have hc6 := hc; obtain ⟨j, hbi⟩ : ∃ j, bestV (asgF f (l, []) ((ordV bags).take i)).1 f ((ordV bags).getD i default) = some j := (by cases hb : bestV (asgF f (l, []) ((ordV bags).take i)).1 f ((ordV bags).getD i default) with | some j => exact ⟨j, rfl⟩ | none => rw [hb] at hc6; exact absurd (of_decide_eq_false hc6) (by show ¬ ¬ (-1 : Int) < 0; decide)); obtain ⟨hjl, _, hadm⟩ := bestV_some hbi; rw [stepA_some hbi] at hstp; have hput := hadm.put; rw [hbi]; have h16 : Fn Try.prog 16 [] [.agg ((asgF f (l, []) ((ordV bags).take i)).1.getD j default).av, .agg ((ordV bags).getD i default).av] [.agg (insC ((asgF f (l, []) ((ordV bags).take i)).1.getD j default) ((ordV bags).getD i default)).av, .v (.int .i64 0)] [] := (by have h := C16 (c := ((asgF f (l, []) ((ordV bags).take i)).1.getD j default)) (p := ((ordV bags).getD i default)); rwa [hput] at h)
   refine AW.skip ?_
   (refine hK _ ?_; clear hK K; (skip))
   (refine AW.seq_k ?_; intro K hK)
   refine AW.ad [(5, ep + 1 + 1 + 1, .own 45 ((asgF f (l, []) ((ordV bags).take i)).1.map Container.av)), (7, ep2, .own 41 [(((ordV bags).getD i default)).av])] mix rfl ?_
   refine adP 0 rfl (fun T' ok => op_move rfl rfl) (by exact ⟨rfl, rfl, trivial⟩) (by kernel_rfl) (by kernel_rfl) ?_
   refine adP 1 rfl (fun T' ok => op_move rfl rfl) (by exact ⟨rfl, rfl, trivial⟩) (by kernel_rfl) (by kernel_rfl) ?_
   refine adP 2 rfl (fun T' ok => op_ia_sl j 11 rfl rfl rfl (by exact ok.1) Try.underlying25 rfl hjl (by exact sz45) (Nat.zero_add _)) (by exact ⟨rfl, rfl, trivial⟩) (by kernel_rfl) (by kernel_rfl) ?_
   refine adR 3 rfl (fun T' ok => op_load_ptr (row := (((asgF f (l, []) ((ordV bags).take i)).1.getD j default)).av) rfl rfl (by exact ok.1) (get_mapD hjl) ag45 sz45 (bl rfl) rfl) (by exact ⟨rfl, rfl, trivial⟩) (by kernel_rfl) (by kernel_rfl) ?_
   (refine adR 4 rfl (fun T' ok => op_load_ptr rfl rfl (by exact ok.2.1) rfl ag41 sz41 (bl rfl) rfl) (by exact ⟨rfl, rfl, trivial⟩) (by kernel_rfl) (by kernel_rfl) ?_)
   refine adF 5 rfl (fun T' ok => op_callS rfl en16 h16 (RL.cons (by exact View.same rfl) (RL.cons (by exact View.same rfl) (RL.nil))) rfl rfl rfl) (by exact ⟨rfl, rfl, trivial⟩) (by kernel_rfl) (by kernel_rfl) ?_; (simp only [nA, Nat.reduceBEq, Nat.reduceEqDiff, ↓reduceIte])
   refine adP 6 rfl (fun T' ok => op_move rfl rfl) (by exact ⟨rfl, rfl, trivial⟩) (by kernel_rfl) (by kernel_rfl) ?_
   refine adP 7 rfl (fun T' ok => op_extract rfl rfl rfl) (by exact ⟨rfl, rfl, trivial⟩) (by kernel_rfl) (by kernel_rfl) ?_
   refine adP 8 rfl (fun T' ok => op_extract rfl rfl rfl) (by exact ⟨rfl, rfl, trivial⟩) (by kernel_rfl) (by kernel_rfl) ?_
   refine adJ 9 rfl (op_alloc rfl ze45 rfl) (by kernel_rfl) (by exact ⟨rfl, rfl, trivial⟩) ?_; (simp only [nA, Nat.reduceBEq, Nat.reduceEqDiff, ↓reduceIte])
   refine adJ 10 rfl (op_store rfl rfl rfl rfl rfl rfl sz45 rfl (bl rfl) rfl) (by kernel_rfl) (by exact ⟨rfl, rfl, trivial⟩) ?_; (simp only [nA, Nat.reduceBEq, Nat.reduceEqDiff, ↓reduceIte])
   refine adP 11 rfl (fun T' ok => op_assign rfl rfl) (by exact ⟨rfl, rfl, trivial⟩) (by kernel_rfl) (by kernel_rfl) ?_
   refine adDone (by kernel_rfl) ?_
   (refine hK _ ?_; clear hK K; (simp only [nA, ↓reduceIte]))
   (refine AW.seq_k ?_; intro K hK)
   refine AW.region ?_
   refine awP (op_move rfl rfl) ?_
   (refine awP (op_eql rfl rfl rfl) ?_)
   refine AWL.nil ?_
   (refine hK _ ?_; clear hK K; (simp only [nA]))
   refine AW.cond rfl rfl rfl (fun hc => ?_) (fun hc => ?_)
   ·
    have hc7 := hc
    refine AW.region ?_
    refine awP (op_move rfl rfl) ?_
    refine awP (op_move rfl rfl) ?_
    (refine awR (op_load_ptr rfl rfl rfl rfl ag45 sz45 (bl rfl) rfl) ?_)
    refine awP (op_ia_sl j 11 rfl rfl rfl rfl Try.underlying25 rfl hjl (by exact sz45) (Nat.zero_add _)) ?_
    refine awJ (op_store rfl rfl rfl rfl (get_mapD hjl) rfl sz45 rfl (bl rfl) (es' := ((asgF f (l, []) ((ordV bags).take i)).1.set j (insC ((asgF f (l, []) ((ordV bags).take i)).1.getD j default) ((ordV bags).getD i default))).map Container.av) (set_C _ hjl)) ?_; (simp only [nA, ↓reduceIte])
    refine AWL.nil ?_
    (try simp only [thenE, inBlk, Nat.reduceEqDiff, ↓reduceIte])
    (refine hK _ ?_; clear hK K; (skip))
    refine AW.region ?_
    (refine awP (op_addi rfl rfl rfl (by omega)) ?_)
    refine awP (op_move rfl rfl) ?_
    refine AWL.gh (Gh.drop 7) ?_; (simp only [nA])
    refine AWL.nil ?_
    refine ⟨(i + 1, _, _), by dsimp only; omega, by dsimp only; omega, ⟨rfl, (by dsimp only; rw [hstp, List.length_set]; rfl), (by dsimp only; rw [hstp]; rfl), rfl, rfl, rfl, trivial⟩, (by dsimp only; rw [hstp]), (by rfl)⟩
   (cases hc; done)
  have hc5 := hc; have hie : i = (ordV bags).length := (by have : ¬ i < (ordV bags).length := (by simpa using hc5); omega); rw [hie, List.take_length]
  refine AW.exit ?_; (try simp only [thenE, inBlk, Nat.reduceEqDiff, ↓reduceIte])
  clear hK K
  (refine hK _ ?_; clear hK K; (skip))
  (refine AW.seq_k ?_; intro K hK)
  refine AW.region ?_
  refine awP (op_move rfl rfl) ?_
  refine awP (op_move rfl rfl) ?_
  refine awP (op_assign rfl rfl) ?_
  refine awP (op_assign rfl rfl) ?_
  refine awP (op_assign rfl rfl) ?_
  refine AWL.nil ?_
  (refine hK _ ?_; clear hK K; (simp only [nA, ↓reduceIte]))
  refine AW.gh (Gh.freeze 6 (bl rfl) rfl rfl (flatC _) (es' := (asgF f (l, []) (ordV bags)).1.map Container.av) (List.take_of_length_le (by simp))) ?_; (try simp only [nA, Nat.reduceBEq, Nat.reduceEqDiff, ↓reduceIte, Nat.reduceAdd, Nat.reduceSub]); refine AW.gh (Gh.freeze 7 (bl rfl) rfl rfl (av_flatP _) (es' := (asgF f (l, []) (ordV bags)).2.map Piece.av) (List.take_of_length_le (by simp))) ?_; (try simp only [nA, Nat.reduceBEq, Nat.reduceEqDiff, ↓reduceIte, Nat.reduceAdd, Nat.reduceSub])
  refine AW.ret ?_; (try simp only [thenE, inBlk, Nat.reduceEqDiff, ↓reduceIte]); rw [asgV_yes g1 hE]; exact RQ.of0 rfl (.tmp (bl rfl) rfl rfl (.tmp (bl rfl) rfl rfl (.tmp (bl rfl) rfl rfl .nil)))
end Go.Proofs.Ytmdohphcolffmaa
namespace Go.Proofs.Ytmdohphcolffmaa
open Go.RowKit
set_option linter.unusedSimpArgs false
set_option linter.unusedVariables false
set_option maxRecDepth 100000
abbrev awBag : List AV := [.v (.int .i64 0), .v (.int .i64 0), .v (.int .i64 0), .v (.string ⟨#[]⟩), .v (.int .i64 0), .v (.string ⟨#[]⟩), .v (.int .i64 0), .v (.string ⟨#[]⟩), .v (.string ⟨#[]⟩), .v (.string ⟨#[]⟩), .v (.int .i64 0), .v (.string ⟨#[]⟩), .v (.int .i64 0), .v (.string ⟨#[]⟩), .v (.string ⟨#[]⟩), .v (.slice none 0 0), .v (.int .i64 0), .v (.int .i64 0), .v (.int .i64 0), .v (.bool false), .v (.string ⟨#[]⟩), .v (.string ⟨#[]⟩), .v (.int .i64 2), .v (.string ⟨#[]⟩), .v (.bool false)]
set_option maxHeartbeats 8000000 in
theorem C42 : Fn Try.prog 42 [] [.agg awBag] [.v (.int .i64 3)] [] := by
  refine Spec.body Try.func42 rfl Try.ntmps42 (by simp) rfl ?_; intro S0 own0 v0 w0
  (refine AW.seq_k ?_; intro K hK)
  refine AW.region ?_
  refine awJ (op_box rfl rfl rfl sz85 rfl) ?_; (simp only [nA, Nat.reduceBEq, Nat.reduceEqDiff, ↓reduceIte])
  refine awP (op_assign rfl rfl) ?_; (try simp only [nA, Nat.reduceBEq, Nat.reduceEqDiff, ↓reduceIte, Nat.reduceAdd, Nat.reduceSub])
  refine AWL.nil ?_
  (refine hK _ ?_; clear hK K; (try simp only [nA, Nat.reduceBEq, Nat.reduceEqDiff, ↓reduceIte, Nat.reduceAdd, Nat.reduceSub]))
  (refine AW.seq_k ?_; intro K hK)
  refine AW.block ?_
  (refine AW.seq_k ?_; intro K hK)
  refine AW.region ?_
  (refine awP (op_fa_ptr rfl rfl rfl fl85_10 (by exact sz3) (by decide) rfl) ?_); (try simp only [nA, Nat.reduceBEq, Nat.reduceEqDiff, ↓reduceIte, Nat.reduceAdd, Nat.reduceSub])
  (refine awR (op_load_ptr1 rfl rfl rfl rfl ag3 rfl rfl) ?_); (try simp only [nA, Nat.reduceBEq, Nat.reduceEqDiff, ↓reduceIte, Nat.reduceAdd, Nat.reduceSub])
  (refine awP (op_eql rfl rfl rfl) ?_); (try simp only [nA, Nat.reduceBEq, Nat.reduceEqDiff, ↓reduceIte, Nat.reduceAdd, Nat.reduceSub])
  refine awP (op_assign rfl rfl) ?_; (simp only [nA])
  refine AWL.nil ?_
  (refine hK _ ?_; clear hK K; (skip))
  refine AW.cond rfl rfl rfl (fun hc => ?_) (fun hc => ?_)
  · (cases hc; done)
  (try simp only [hcS] at hc); have hc1 := hc
  (refine AW.seq_k ?_; intro K hK)
  refine AW.region ?_
  (refine awP (op_fa_ptr rfl rfl rfl fl85_10 (by exact sz3) (by decide) rfl) ?_); (try simp only [nA, Nat.reduceBEq, Nat.reduceEqDiff, ↓reduceIte, Nat.reduceAdd, Nat.reduceSub])
  (refine awR (op_load_ptr1 rfl rfl rfl rfl ag3 rfl rfl) ?_); (try simp only [nA, Nat.reduceBEq, Nat.reduceEqDiff, ↓reduceIte, Nat.reduceAdd, Nat.reduceSub])
  (refine awP (op_eql rfl rfl rfl) ?_); (try simp only [nA, Nat.reduceBEq, Nat.reduceEqDiff, ↓reduceIte, Nat.reduceAdd, Nat.reduceSub])
  refine awP (op_assign rfl rfl) ?_; (simp only [nA])
  refine AWL.nil ?_
  (refine hK _ ?_; clear hK K; (skip))
  refine AW.cond rfl rfl rfl (fun hc => ?_) (fun hc => ?_)
  ·
   (try simp only [hcS] at hc); have hc2 := hc
   (refine AW.seq_k ?_; intro K hK)
   refine AW.region ?_
   refine awP (op_assign rfl rfl) ?_; (try simp only [nA, Nat.reduceBEq, Nat.reduceEqDiff, ↓reduceIte, Nat.reduceAdd, Nat.reduceSub])
   refine AWL.nil ?_
   (refine hK _ ?_; clear hK K; (skip))
   skip
   refine AW.ret ?_; (try simp only [thenE, inBlk, Nat.reduceEqDiff, ↓reduceIte]); exact RQ.of0 rfl (.tmp (bl rfl) rfl rfl .nil)
  (cases hc; done)
abbrev pairC (i : Nat) : Container := ⟨(i : Nat) + 1, flightN 0, 31, 100, 9, 0, if i = 0 then -10 else 10, []⟩
abbrev pairL (i : Nat) : List Container := (List.range i).map pairC
theorem nilC_le : ∀ (l : List Container), (∀ c ∈ l, c.pieces = []) → RL (Le2 Try.prog) (l.map nilC).flatten (l.map Container.av).flatten
  | [], _ => RL.nil
  | c :: l, h => by
    rw [List.map_cons, List.map_cons, List.flatten_cons, List.flatten_cons]
    refine RL.append ?_ (nilC_le l fun x hx => h x (by simp [hx]))
    have hc := h c (by simp)
    unfold nilC Container.av
    rw [hc]
    exact RL.cons .same (RL.cons .same (RL.cons .same (RL.cons .same (RL.cons .same (RL.cons .same (RL.cons .same (RL.cons .same (RL.cons .same (RL.cons .same (RL.cons .nil RL.nil))))))))))
theorem nilC_lens (l : List Container) : (l.map Container.av).map List.length = (l.map nilC).map List.length := by simp
theorem nilC_len (l : List Container) : ∀ x ∈ l.map nilC, x.length = 11 := fun x hx => by obtain ⟨c, _, rfl⟩ := List.mem_map.1 hx; rfl
theorem flat_nilC (c : Container) : ∀ r ∈ [nilC c], ∀ x ∈ r, flatA x = true := fun r hr x hx => by
  simp only [List.mem_cons, List.not_mem_nil, or_false] at hr
  subst hr
  simp only [nilC, Container.av, List.set, List.mem_cons, List.not_mem_nil, or_false] at hx
  rcases hx with rfl | rfl | rfl | rfl | rfl | rfl | rfl | rfl | rfl | rfl | rfl <;> rfl
set_option maxHeartbeats 8000000 in
theorem C41 : Fn Try.prog 41 [] [] [.ro ((pairL 2).map Container.av)] [] := by
  refine Spec.body Try.func41 rfl Try.ntmps41 (by simp) rfl ?_; intro S0 own0 v0 w0
  (refine AW.seq_k ?_; intro K hK)
  refine AW.region ?_
  refine awP (op_assign rfl rfl) ?_; (try simp only [nA, Nat.reduceBEq, Nat.reduceEqDiff, ↓reduceIte, Nat.reduceAdd, Nat.reduceSub])
  refine AWL.nil ?_
  (refine hK _ ?_; clear hK K; (try simp only [nA, Nat.reduceBEq, Nat.reduceEqDiff, ↓reduceIte, Nat.reduceAdd, Nat.reduceSub]))
  (refine AW.seq_k ?_; intro K hK)
  refine AW.region ?_
  refine awP (op_assign rfl rfl) ?_; (try simp only [nA, Nat.reduceBEq, Nat.reduceEqDiff, ↓reduceIte, Nat.reduceAdd, Nat.reduceSub])
  refine AWL.nil ?_
  (refine hK _ ?_; clear hK K; (skip))
  (refine AW.seq_k ?_; intro K hK)
  (refine AW.seq_k ?_; intro K hK)
  refine AW.region ?_
  refine awJ (OpJ.frz (op_buildSlice rfl [(0, iv (-10)), (1, iv 10)] [iv (-10), iv 10] Try.underlying22 ze3 rfl (by simp) rfl (by simp) rfl (bl rfl) (by simp [maxLen])) (by simp [flatA]) rfl) ?_; (try simp only [nA, Nat.reduceBEq, Nat.reduceEqDiff, ↓reduceIte, Nat.reduceAdd, Nat.reduceSub])
  refine awP (op_len_ro (n := 2) rfl rfl Try.underlying22 (.inr (.inl ⟨_, rfl, rfl⟩))) ?_; (try simp only [nA, Nat.reduceBEq, Nat.reduceEqDiff, ↓reduceIte, Nat.reduceAdd, Nat.reduceSub])
  refine awP (op_move rfl rfl) ?_; (try simp only [nA, Nat.reduceBEq, Nat.reduceEqDiff, ↓reduceIte, Nat.reduceAdd, Nat.reduceSub])
  refine AWL.nil ?_
  (refine hK _ ?_; clear hK K; (skip))
  refine AW.block ?_
  refine AW.gh (Gh.nil (e := 45) 1 (bl rfl) rfl sz45) ?_; (simp only [nA, Nat.reduceBEq, Nat.reduceEqDiff, ↓reduceIte]); refine AW.loopI (fun (q : Nat × Nat × Nat) => [(1, .sl 0 q.2.1 0 q.1), (4, .ro [iv (-10), iv 10]), (5, .v (.int .i64 2)), (6, .v (.int .i64 (q.1 : Nat)))]) (fun q => ⟨[(q.2.1, .own 45 ((pairL q.1).map nilC))], q.2.2⟩) (fun q => q.1 ≤ 2) (fun q => 2 - q.1) (0, _, _) (by simp) ⟨rfl, rfl, rfl, rfl, trivial⟩ rfl ?_; rintro ⟨i, v, ep⟩ ρ hI; dsimp only at hI ⊢; simp only [updL]
  (refine AW.seq_k ?_; intro K hK)
  refine AW.region ?_
  refine awP (op_lss rfl rfl rfl) ?_; (try simp only [nA, Nat.reduceBEq, Nat.reduceEqDiff, ↓reduceIte, Nat.reduceAdd, Nat.reduceSub])
  refine AWL.nil ?_
  (refine hK _ ?_; clear hK K; (skip))
  (refine AW.seq_k ?_; intro K hK)
  refine AW.cond rfl rfl rfl (fun hc => ?_) (fun hc => ?_)
  ·
   (try simp only [hcS] at hc); have hc1 := hc; have hlt : i < 2 := (by omega); have hrow : [iv (-10), iv 10][i]? = some (iv (if i = 0 then -10 else 10)) := (by rcases (by omega : i = 0 ∨ i = 1) with rfl | rfl <;> rfl)
   refine AW.skip ?_
   (refine hK _ ?_; clear hK K; (skip))
   (refine AW.seq_k ?_; intro K hK)
   refine AW.block ?_
   (refine AW.seq_k ?_; intro K hK)
   refine AW.region ?_
   refine awP (op_move rfl rfl) ?_; (simp only [nA, ↓reduceIte])
   refine awP (op_ia_ro i rfl (.inl rfl) rfl Try.underlying22 rfl hrow (by exact sz3) (bl rfl)) ?_; (try simp only [nA, Nat.reduceBEq, Nat.reduceEqDiff, ↓reduceIte, Nat.reduceAdd, Nat.reduceSub])
   (refine awR (op_load_rop1 rfl rfl ag3) ?_); (try simp only [nA, Nat.reduceBEq, Nat.reduceEqDiff, ↓reduceIte, Nat.reduceAdd, Nat.reduceSub])
   refine awP (op_assign rfl rfl) ?_; (simp only [nA, ↓reduceIte])
   refine awP (op_assign rfl rfl) ?_; (simp only [nA, ↓reduceIte])
   refine AWL.nil ?_
   (refine hK _ ?_; clear hK K; (skip))
   refine AW.region ?_
   refine awP (op_move rfl rfl) ?_; (simp only [nA, ↓reduceIte])
   refine awP (op_move rfl rfl) ?_; (simp only [nA, ↓reduceIte])
   (refine awP (op_addi rfl rfl rfl (by omega)) ?_); (try simp only [nA, Nat.reduceBEq, Nat.reduceEqDiff, ↓reduceIte, Nat.reduceAdd, Nat.reduceSub])
   refine awJ (op_call (b := false) rfl en10 C10_0 (RL.cons (by exact View.same rfl) (RL.nil)) rfl (fun h => by cases h) rfl rfl) ?_; (try simp only [nA, Nat.reduceBEq, Nat.reduceEqDiff, ↓reduceIte, Nat.reduceAdd, Nat.reduceSub])
   refine awP (op_move rfl rfl) ?_; (simp only [nA, ↓reduceIte])
   refine awP (op_build2 (xs := [_, _, _, _, _, _, _, _, .v (.int .i64 0), _, .v (.slice none 0 0)]) rfl pl45 ze45 [(0, [_]), (1, [_, _, _, _]), (2, [_]), (3, [_]), (4, [_]), (6, [_])] rfl rfl rfl) ?_; (simp only [nA, ↓reduceIte])
   refine awJ (OpJ.frz (op_buildSlice rfl [(0, nilC (pairC i))] [nilC (pairC i)] Try.underlying25 ze45 rfl (by simp) rfl (by simp) rfl (bl rfl) (by simp [maxLen])) (flat_nilC _) rfl) ?_; (try simp only [nA, Nat.reduceBEq, Nat.reduceEqDiff, ↓reduceIte, Nat.reduceAdd, Nat.reduceSub])
   refine awJ (op_app (r := 0) (rows := [nilC (pairC i)]) rfl rfl rfl rfl (by simp) .ro Try.underlying25 ze45 (by decide) (nilC_len [pairC i]) (by simp; omega) (by decide) (es' := (pairL (i + 1)).map nilC) (by unfold pairL; rw [List.range_succ, List.map_append, List.map_append]; rfl) (n := i + 1) (by simp)) ?_; (try simp only [nA, Nat.reduceBEq, Nat.reduceEqDiff, ↓reduceIte, Nat.reduceAdd, Nat.reduceSub])
   refine awP (op_assign rfl rfl) ?_; (simp only [nA])
   refine AWL.nil ?_
   (try simp only [thenE, inBlk, Nat.reduceEqDiff, ↓reduceIte])
   (refine hK _ ?_; clear hK K; (skip))
   refine AW.region ?_
   (refine awP (op_addi rfl rfl rfl (by omega)) ?_); (try simp only [nA, Nat.reduceBEq, Nat.reduceEqDiff, ↓reduceIte, Nat.reduceAdd, Nat.reduceSub])
   refine awP (op_move rfl rfl) ?_; (simp only [nA])
   refine AWL.gh (Gh.drop 1) ?_; (try simp only [nA, Nat.reduceBEq, Nat.reduceEqDiff, ↓reduceIte, Nat.reduceAdd, Nat.reduceSub])
   refine AWL.nil ?_
   refine ⟨(i + 1, _, _), by dsimp only; omega, by dsimp only; omega, ⟨rfl, rfl, rfl, rfl, trivial⟩, (by rfl), (by rfl)⟩
  (try simp only [hcS] at hc); have hc1 := hc; obtain rfl : i = 2 := (by omega)
  refine AW.exit ?_; (try simp only [thenE, inBlk, Nat.reduceEqDiff, ↓reduceIte])
  clear hK K
  (refine hK _ ?_; clear hK K; (skip))
  (refine AW.seq_k ?_; intro K hK)
  refine AW.region ?_
  refine awP (op_move rfl rfl) ?_; (simp only [nA, ↓reduceIte])
  refine awP (op_assign rfl rfl) ?_; (simp only [nA])
  refine AWL.nil ?_
  (refine hK _ ?_; clear hK K; (skip))
  refine AW.gh (Gh.slot2 (r := 0) (es' := (pairL 2).map Container.av) rfl (nilC_lens _) (nilC_le _ (fun c hc => by obtain ⟨k, _, rfl⟩ := List.mem_map.1 hc; rfl))) ?_; (try simp only [nA, Nat.reduceBEq, Nat.reduceEqDiff, ↓reduceIte, Nat.reduceAdd, Nat.reduceSub]); refine AW.gh (Gh.freeze 0 (bl rfl) rfl rfl (flatC _) (es' := (pairL 2).map Container.av) rfl) ?_; (try simp only [nA, Nat.reduceBEq, Nat.reduceEqDiff, ↓reduceIte, Nat.reduceAdd, Nat.reduceSub])
  refine AW.ret ?_; (try simp only [thenE, inBlk, Nat.reduceEqDiff, ↓reduceIte]); exact RQ.of0 rfl (.tmp (bl rfl) rfl rfl .nil)
abbrev awB1 : Piece := ⟨platesP 1, 15, 0⟩
abbrev awB2 : Piece := ⟨platesP 2, 20, 0⟩
abbrev awB3 : Piece := ⟨platesP 1, 20, 0⟩
abbrev awOut : List Container := [⟨1, flightN 0, 31, 100, 9, 0, -10, [awB2]⟩, ⟨2, flightN 0, 31, 100, 9, 0, 10, [awB1]⟩]
theorem aw_asg : asgV (pairL 2) (flightN 0) [awB1, awB2] = (awOut, [], 0) := by kernel_rfl
theorem aw_cho : choV (pairL 2) (flightN 0) awB3 = (1, 0) := by kernel_rfl
theorem aw_mom : momV awOut (flightN 0) = -50 := by kernel_rfl
theorem aw_sml : Sml (pairL 2) := ⟨by simp, fun c hc => by obtain ⟨k, _, rfl⟩ := List.mem_map.1 hc; exact Nat.zero_le _⟩
theorem aw_sml2 : Sml awOut := ⟨by simp, fun c hc => by
  simp only [List.mem_cons, List.not_mem_nil, or_false] at hc
  rcases hc with rfl | rfl <;> decide⟩
theorem awC12 : Fn Try.prog 12 [] [.ro ((pairL 2).map Container.av), .agg (flightN 0).av, .ro ([awB1, awB2].map Piece.av)] [.ro (awOut.map Container.av), .ro ([] : List (List AV)), .v (.int .i64 0)] [] := by
  have h := C12 (l := pairL 2) (f := flightN 0) (bags := [awB1, awB2]) aw_sml (by decide)
  rw [aw_asg] at h
  exact h
theorem awC15 : Fn Try.prog 15 [] [.ro ((pairL 2).map Container.av), .agg (flightN 0).av, .agg awB3.av] [.v (.int .i64 1), .v (.int .i64 0)] [] := by
  have h := C15 (l := pairL 2) (f := flightN 0) (p := awB3) aw_sml
  rw [aw_cho] at h
  exact h
theorem awC29 : Fn Try.prog 29 [] [.ro (awOut.map Container.av), .agg (flightN 0).av] [.v (.int .i64 (-50))] [] := by
  have h := C29 (l := awOut) (f := flightN 0) aw_sml2
  rw [aw_mom] at h
  exact h
end Go.Proofs.Ytmdohphcolffmaa
namespace Go.Proofs.Ytmdohphcolffmaa
open Go.RowKit
set_option linter.unusedSimpArgs false
set_option linter.unusedVariables false
set_option maxRecDepth 100000
theorem pl85 : plIs Try.prog 85 [(0, 3), (3, 6), (9, 6), (15, 1), (16, 1), (17, 1), (18, 1), (19, 1), (20, 1), (21, 1), (22, 1), (23, 1), (24, 1)] := ⟨_, Try.underlying85, by kernel_rfl⟩
set_option maxHeartbeats 8000000 in
theorem C19 : Fn Try.prog 19 [] [] [.v (.bool true)] [] := by
  refine Spec.body Try.func19 rfl Try.ntmps19 (by simp) rfl ?_; intro S0 own0 v0 w0
  (refine AW.seq_k ?_; intro K hK)
  refine AW.region ?_
  refine awP (op_assign rfl rfl) ?_
  refine AWL.nil ?_
  (refine hK _ ?_; clear hK K; (try simp only [nA, Nat.reduceBEq, Nat.reduceEqDiff, ↓reduceIte, Nat.reduceAdd, Nat.reduceSub]))
  (refine AW.seq_k ?_; intro K hK)
  refine AW.region ?_
  refine awJ (op_call (b := false) rfl en10 C10_0 (RL.cons (by exact View.same rfl) (RL.nil)) rfl (fun h => by cases h) rfl rfl) ?_; (try simp only [nA, Nat.reduceBEq, Nat.reduceEqDiff, ↓reduceIte, Nat.reduceAdd, Nat.reduceSub])
  refine awJ (op_alloc rfl ze30 rfl) ?_; (simp only [nA, Nat.reduceBEq, Nat.reduceEqDiff, ↓reduceIte])
  refine awJ (op_store rfl rfl rfl rfl rfl rfl sz30 rfl (bl rfl) rfl) ?_; (simp only [nA, Nat.reduceBEq, Nat.reduceEqDiff, ↓reduceIte])
  refine AWL.nil ?_
  (refine hK _ ?_; clear hK K; (skip))
  (refine AW.seq_k ?_; intro K hK)
  refine AW.ad [(0, 1, .own 30 [(flightN 0).av])] mix rfl ?_
  (refine adR 1 rfl (fun T' ok => op_load_ptr rfl rfl (by exact ok.1) rfl ag30 sz30 (bl rfl) rfl) (by exact ⟨rfl, trivial⟩) (by kernel_rfl) (by kernel_rfl) ?_)
  refine adF 0 rfl (fun T' ok => op_callS rfl en41 (C41) (RL.nil) rfl rfl rfl) (by exact ⟨rfl, trivial⟩) (by kernel_rfl) (by kernel_rfl) ?_; (simp only [nA, Nat.reduceBEq, Nat.reduceEqDiff, ↓reduceIte])
  refine adF 2 rfl (fun T' ok => op_callS rfl en27 (C27 (i := 1)) (RL.cons (by exact View.same rfl) (RL.nil)) rfl rfl rfl) (by exact ⟨rfl, trivial⟩) (by kernel_rfl) (by kernel_rfl) ?_; (try simp only [nA, Nat.reduceBEq, Nat.reduceEqDiff, ↓reduceIte, Nat.reduceAdd, Nat.reduceSub])
  refine adP 3 rfl (fun T' ok => op_build2 (xs := [_, _, _, _, .v (.int .i64 0)]) rfl pl41 ze41 [(0, [_, _, _]), (1, [_])] rfl rfl rfl) (by exact ⟨rfl, trivial⟩) (by kernel_rfl) (by kernel_rfl) ?_
  refine adF 4 rfl (fun T' ok => op_callS rfl en27 (C27 (i := 2)) (RL.cons (by exact View.same rfl) (RL.nil)) rfl rfl rfl) (by exact ⟨rfl, trivial⟩) (by kernel_rfl) (by kernel_rfl) ?_; (try simp only [nA, Nat.reduceBEq, Nat.reduceEqDiff, ↓reduceIte, Nat.reduceAdd, Nat.reduceSub])
  refine adP 5 rfl (fun T' ok => op_build2 (xs := [_, _, _, _, .v (.int .i64 0)]) rfl pl41 ze41 [(0, [_, _, _]), (1, [_])] rfl rfl rfl) (by exact ⟨rfl, trivial⟩) (by kernel_rfl) (by kernel_rfl) ?_
  refine adF 6 rfl (fun T' ok => OpJ.frz (op_buildSlice rfl [(0, awB1.av), (1, awB2.av)] [awB1.av, awB2.av] Try.underlying27 ze41 rfl (by simp) rfl (by simp) rfl (bl rfl) (by simp [maxLen])) (av_flatP [awB1, awB2]) rfl) (by exact ⟨rfl, trivial⟩) (by kernel_rfl) (by kernel_rfl) ?_; (try simp only [nA, Nat.reduceBEq, Nat.reduceEqDiff, ↓reduceIte, Nat.reduceAdd, Nat.reduceSub])
  refine adF 7 rfl (fun T' ok => op_callS rfl en12 awC12 (RL.cons (by exact View.same rfl) (RL.cons (by exact View.same rfl) (RL.cons (by exact View.same rfl) (RL.nil)))) rfl rfl rfl) (by exact ⟨rfl, trivial⟩) (by kernel_rfl) (by kernel_rfl) ?_; (try simp only [nA, Nat.reduceBEq, Nat.reduceEqDiff, ↓reduceIte, Nat.reduceAdd, Nat.reduceSub])
  refine adP 8 rfl (fun T' ok => op_move rfl rfl) (by exact ⟨rfl, trivial⟩) (by kernel_rfl) (by kernel_rfl) ?_
  refine adP 9 rfl (fun T' ok => op_extract rfl rfl rfl) (by exact ⟨rfl, trivial⟩) (by kernel_rfl) (by kernel_rfl) ?_
  refine adP 10 rfl (fun T' ok => op_extract rfl rfl rfl) (by exact ⟨rfl, trivial⟩) (by kernel_rfl) (by kernel_rfl) ?_
  refine adP 11 rfl (fun T' ok => op_extract rfl rfl rfl) (by exact ⟨rfl, trivial⟩) (by kernel_rfl) (by kernel_rfl) ?_
  refine adP 12 rfl (fun T' ok => op_assign rfl rfl) (by exact ⟨rfl, trivial⟩) (by kernel_rfl) (by kernel_rfl) ?_
  refine adP 13 rfl (fun T' ok => op_assign rfl rfl) (by exact ⟨rfl, trivial⟩) (by kernel_rfl) (by kernel_rfl) ?_
  refine adP 14 rfl (fun T' ok => op_assign rfl rfl) (by exact ⟨rfl, trivial⟩) (by kernel_rfl) (by kernel_rfl) ?_
  refine adDone (by kernel_rfl) ?_
  (refine hK _ ?_; clear hK K; (simp only [nA, ↓reduceIte]))
  (refine AW.seq_k ?_; intro K hK)
  refine AW.ad [(0, 1, .own 30 [(flightN 0).av])] mix rfl ?_
  (refine adR 1 rfl (fun T' ok => op_load_ptr rfl rfl (by exact ok.1) rfl ag30 sz30 (bl rfl) rfl) (by exact ⟨rfl, trivial⟩) (by kernel_rfl) (by kernel_rfl) ?_)
  refine adF 0 rfl (fun T' ok => op_callS rfl en41 (C41) (RL.nil) rfl rfl rfl) (by exact ⟨rfl, trivial⟩) (by kernel_rfl) (by kernel_rfl) ?_; (simp only [nA, Nat.reduceBEq, Nat.reduceEqDiff, ↓reduceIte])
  refine adF 2 rfl (fun T' ok => op_callS rfl en27 (C27 (i := 1)) (RL.cons (by exact View.same rfl) (RL.nil)) rfl rfl rfl) (by exact ⟨rfl, trivial⟩) (by kernel_rfl) (by kernel_rfl) ?_; (try simp only [nA, Nat.reduceBEq, Nat.reduceEqDiff, ↓reduceIte, Nat.reduceAdd, Nat.reduceSub])
  refine adP 3 rfl (fun T' ok => op_build2 (xs := [_, _, _, _, .v (.int .i64 0)]) rfl pl41 ze41 [(0, [_, _, _]), (1, [_])] rfl rfl rfl) (by exact ⟨rfl, trivial⟩) (by kernel_rfl) (by kernel_rfl) ?_
  refine adF 4 rfl (fun T' ok => op_callS rfl en15 awC15 (RL.cons (by exact View.same rfl) (RL.cons (by exact View.same rfl) (RL.cons (by exact View.same rfl) (RL.nil)))) rfl rfl rfl) (by exact ⟨rfl, trivial⟩) (by kernel_rfl) (by kernel_rfl) ?_; (try simp only [nA, Nat.reduceBEq, Nat.reduceEqDiff, ↓reduceIte, Nat.reduceAdd, Nat.reduceSub])
  refine adP 5 rfl (fun T' ok => op_move rfl rfl) (by exact ⟨rfl, trivial⟩) (by kernel_rfl) (by kernel_rfl) ?_
  refine adP 6 rfl (fun T' ok => op_extract rfl rfl rfl) (by exact ⟨rfl, trivial⟩) (by kernel_rfl) (by kernel_rfl) ?_
  refine adP 7 rfl (fun T' ok => op_extract rfl rfl rfl) (by exact ⟨rfl, trivial⟩) (by kernel_rfl) (by kernel_rfl) ?_
  refine adP 8 rfl (fun T' ok => op_assign rfl rfl) (by exact ⟨rfl, trivial⟩) (by kernel_rfl) (by kernel_rfl) ?_
  refine adP 9 rfl (fun T' ok => op_assign rfl rfl) (by exact ⟨rfl, trivial⟩) (by kernel_rfl) (by kernel_rfl) ?_
  refine adDone (by kernel_rfl) ?_
  (refine hK _ ?_; clear hK K; (simp only [nA, ↓reduceIte]))
  (refine AW.seq_k ?_; intro K hK)
  refine AW.region (AWL.quiet ?_)
  refine aqP (op_move rfl rfl) ?_
  (refine aqP (op_eql rfl rfl rfl) ?_)
  refine aqP (op_move rfl rfl) ?_
  refine' aqAnd' [_, _, _] [31,32,33] rfl rfl rfl rfl rfl rfl rfl rfl rfl rfl rfl rfl (fun hb => ?_) ?_; rotate_left
  ·
   (try simp only [hcS] at hb)
   refine aqP (op_move rfl rfl) ?_
   (refine aqP (op_len_ro rfl rfl Try.underlying27 (by exact .inr (.inl ⟨_, rfl, rfl⟩))) ?_)
   (refine aqP (op_eql rfl rfl rfl) ?_)
   (refine aqSeg rfl rfl rfl ?_; repeat (first | exact fun _ _ => rfl | refine upd_out rfl ?_))
  simp only [nA, ↓reduceIte]
  refine aqP (op_move rfl rfl) ?_
  refine' aqAnd' [_, _, _] [36,37,38] rfl rfl rfl rfl rfl rfl rfl rfl rfl rfl rfl rfl (fun hb => ?_) ?_; rotate_left
  ·
   (try simp only [hcS] at hb)
   refine aqP (op_move rfl rfl) ?_
   (refine aqP (op_len_ro rfl rfl Try.underlying25 (by exact .inr (.inl ⟨_, rfl, rfl⟩))) ?_)
   (refine aqP (op_eql rfl rfl rfl) ?_)
   (refine aqSeg rfl rfl rfl ?_; repeat (first | exact fun _ _ => rfl | refine upd_out rfl ?_))
  simp only [nA, Nat.reduceBEq, Nat.reduceEqDiff, ↓reduceIte]
  refine aqP (op_move rfl rfl) ?_
  refine' aqAnd' [_, _, _, _, _, _] [41,42,43,44,45,46] rfl rfl rfl rfl rfl rfl rfl rfl rfl rfl rfl rfl (fun hb => ?_) ?_; rotate_left
  ·
   (try simp only [hcS] at hb)
   refine aqP (op_move rfl rfl) ?_
   refine aqP (op_ia_ro (es := awOut.map Container.av) 0 rfl (.inl rfl) rfl Try.underlying25 rfl rfl (by exact sz45) (bl rfl)) ?_
   (refine aqP (op_fa_rop rfl rfl fl45_7 (by exact sz27) (by decide) (bl rfl) rfl) ?_)
   (refine aqR (op_load_rop1 rfl rfl ag27) ?_)
   (refine aqP (op_len_ro rfl rfl Try.underlying27 (by exact .inr (.inl ⟨_, rfl, rfl⟩))) ?_)
   (refine aqP (op_eql rfl rfl rfl) ?_)
   (refine aqSeg rfl rfl rfl ?_; repeat (first | exact fun _ _ => rfl | refine upd_out rfl ?_))
  simp only [nA]
  refine aqP (op_move rfl rfl) ?_
  refine' aqAnd' [_, _, _, _, _, _, _, _] [49,50,51,52,53,54,55,56] rfl rfl rfl rfl rfl rfl rfl rfl rfl rfl rfl rfl (fun hb => ?_) ?_; rotate_left
  ·
   (try simp only [hcS] at hb)
   refine aqP (op_move rfl rfl) ?_
   refine aqP (op_ia_ro (es := awOut.map Container.av) 0 rfl (.inl rfl) rfl Try.underlying25 rfl rfl (by exact sz45) (bl rfl)) ?_
   (refine aqP (op_fa_rop rfl rfl fl45_7 (by exact sz27) (by decide) (bl rfl) rfl) ?_)
   (refine aqR (op_load_rop1 rfl rfl ag27) ?_)
   refine aqP (op_ia_ro (es := [awB2.av]) 0 rfl (.inl rfl) rfl Try.underlying27 rfl rfl (by exact sz41) (bl rfl)) ?_
   (refine aqP (op_fa_rop rfl rfl fl41_1 (by exact sz3) (by decide) (bl rfl) rfl) ?_)
   (refine aqR (op_load_rop1 rfl rfl ag3) ?_)
   (refine aqP (op_eql rfl rfl rfl) ?_)
   (refine aqSeg rfl rfl rfl ?_; repeat (first | exact fun _ _ => rfl | refine upd_out rfl ?_))
  simp only [nA]
  refine aqP (op_move rfl rfl) ?_
  refine' aqAnd' [_, _, _, _] [59,60,61,62] rfl rfl rfl rfl rfl rfl rfl rfl rfl rfl rfl rfl (fun hb => ?_) ?_; rotate_left
  ·
   (try simp only [hcS] at hb)
   refine aqP (op_move rfl rfl) ?_
   (refine aqR (op_load_ptr rfl rfl rfl rfl ag30 sz30 (bl rfl) rfl) ?_)
   refine aqQ (op_callQ (b := true) rfl en29 awC29 (RL.cons (by exact View.same rfl) (RL.cons (by exact View.same rfl) (RL.nil))) rfl) ?_; (simp only [nA, Nat.reduceEqDiff, ↓reduceIte])
   (refine aqP (op_eql rfl rfl rfl) ?_)
   (refine aqSeg rfl rfl rfl ?_; repeat (first | exact fun _ _ => rfl | refine upd_out rfl ?_))
  simp only [nA]
  refine aqP (op_move rfl rfl) ?_
  refine' aqAnd' [_, _] [65,66] rfl rfl rfl rfl rfl rfl rfl rfl rfl rfl rfl rfl (fun hb => ?_) ?_; rotate_left
  ·
   (try simp only [hcS] at hb)
   refine aqP (op_move rfl rfl) ?_
   (refine aqP (op_eql rfl rfl rfl) ?_)
   (refine aqSeg rfl rfl rfl ?_; repeat (first | exact fun _ _ => rfl | refine upd_out rfl ?_))
  simp only [nA]
  refine aqP (op_move rfl rfl) ?_
  refine' aqAnd' [_, _] [69,70] rfl rfl rfl rfl rfl rfl rfl rfl rfl rfl rfl rfl (fun hb => ?_) ?_; rotate_left
  ·
   (try simp only [hcS] at hb)
   refine aqP (op_move rfl rfl) ?_
   (refine aqP (op_eql rfl rfl rfl) ?_)
   (refine aqSeg rfl rfl rfl ?_; repeat (first | exact fun _ _ => rfl | refine upd_out rfl ?_))
  simp only [nA]
  refine aqP (op_move rfl rfl) ?_
  refine' aqAnd' [_, _, _] [73,74,75] rfl rfl rfl rfl rfl rfl rfl rfl rfl rfl rfl rfl (fun hb => ?_) ?_; rotate_left
  ·
   (try simp only [hcS] at hb)
   refine aqP (op_build2 (xs := [.v (.int .i64 0), .v (.int .i64 0), .v (.int .i64 0), .v (.string ⟨#[]⟩), .v (.int .i64 0), .v (.string ⟨#[]⟩), .v (.int .i64 0), .v (.string ⟨#[]⟩), .v (.string ⟨#[]⟩), .v (.string ⟨#[]⟩), .v (.int .i64 0), .v (.string ⟨#[]⟩), .v (.int .i64 0), .v (.string ⟨#[]⟩), .v (.string ⟨#[]⟩), .v (.slice none 0 0), .v (.int .i64 0), .v (.int .i64 0), .v (.int .i64 0), .v (.bool false), .v (.string ⟨#[]⟩), .v (.string ⟨#[]⟩), _, .v (.string ⟨#[]⟩), .v (.bool false)]) rfl pl85 ze85 [(10, [_])] rfl rfl rfl) ?_
   refine aqQ (op_callQ (b := true) rfl en42 (C42) (RL.cons (by exact View.same rfl) (RL.nil)) rfl) ?_; (simp only [nA])
   (refine aqP (op_eql rfl rfl rfl) ?_)
   (refine aqSeg rfl rfl rfl ?_; repeat (first | exact fun _ _ => rfl | refine upd_out rfl ?_))
  simp only [nA]
  refine aqP (op_assign rfl rfl) ?_
  refine AQ.nil ?_
  (refine hK _ ?_; clear hK K; (simp only [nA]))
  skip
  refine AW.ret ?_; (try simp only [thenE, inBlk, Nat.reduceEqDiff, ↓reduceIte]); exact RQ.of0 rfl (.tmp (bl rfl) rfl rfl .nil)
end Go.Proofs.Ytmdohphcolffmaa
namespace Go.Proofs.Ytmdohphcolffmaa
open Go.RowKit
set_option linter.unusedSimpArgs false
set_option linter.unusedVariables false
set_option maxRecDepth 100000
structure BG (x : List Container) (y : List Piece) : Prop where
  good : GoodC x
  len : x.length ≤ 24
  no : ∀ b ∈ y, ∀ i, i < x.length → hasB (x.getD i default).pieces b.plate = false
  dis : DisP y
  pi : ∀ b ∈ y, piB b = true
theorem BG.perm {x : List Container} {y z : List Piece} (h : BG x y) (hp : z.Perm y) : BG x z :=
  ⟨h.good, h.len, fun b hb => h.no b (hp.subset hb), List.Pairwise.perm h.dis hp.symm (fun h e => h e.symm), fun b hb => h.pi b (hp.subset hb)⟩
theorem BG.ci {x : List Container} {y : List Piece} (h : BG x y) (f : Flight) (i : Nat) : CI x f (y.take i) (asgF f (x, []) (y.take i)) := by
  have := CI.fold (y.take i) (CI.start (f := f) h.good) (fun b hb => h.no b (List.mem_of_mem_take hb)) (by
    rw [List.nil_append]
    exact List.Pairwise.sublist (List.take_sublist i y) h.dis)
  rwa [List.nil_append] at this
theorem BG.ciAll {x : List Container} {y : List Piece} (h : BG x y) (f : Flight) : CI x f y (asgF f (x, []) y) := by
  have := h.ci f y.length
  rwa [List.take_length] at this
theorem BG.find {x : List Container} {y : List Piece} (h : BG x y) {b : Piece} (hb : b ∈ y) : (findL x b.plate).2 = false := find_no (h.no b hb)
theorem BG.asg {x : List Container} {y : List Piece} (h : BG x y) (f : Flight) : asgV x f y = ((asgF f (x, []) (ordV y)).1, (asgF f (x, []) (ordV y)).2, 0) :=
  asgV_ok (h.good.chk h.len) (asgE_0 h.dis h.pi fun b hb => h.find hb)
theorem BG.step {x : List Container} {y : List Piece} (h : BG x y) (f : Flight) {i : Nat} (hi : i < y.length) :
    GoodC (asgF f (x, []) (y.take i)).1 ∧ (asgF f (x, []) (y.take i)).1.length = x.length ∧ piB (y.getD i default) = true ∧ (findL (asgF f (x, []) (y.take i)).1 (y.getD i default).plate).2 = false ∧ chkL (asgF f (x, []) (y.take i)).1 = 0 := by
  have hc := h.ci f i
  have hl := h.len
  have hm : y.getD i default ∈ y := getD_memP hi
  refine ⟨hc.good, hc.len, h.pi _ hm, find_no fun k hk => hasB_no.2 fun q hq => ?_, hc.good.chk (by rw [hc.len]; exact hl)⟩
  rw [hc.len] at hk
  rcases hc.new k hk q hq with h1 | h1
  · exact hasB_no.1 (h.no _ hm k hk) q h1
  obtain ⟨j, hj, rfl⟩ := List.mem_take_iff_getElem.1 h1
  rw [getD_el hi]
  exact List.pairwise_iff_getElem.1 h.dis j i (by omega) hi (by omega)
theorem GoodC.sml {x : List Container} (h : GoodC x) (hl : x.length ≤ 24) : Sml x := ⟨by omega, fun c hc => by have := (val_inv (h.val c hc)).2.1; omega⟩
theorem bg_src {n : Nat} {x : List Container} {l : List Int} {k m : Nat} (h : InvB n x) (hl : x.length ≤ 24) (hm : m ≤ 40) : BG x (bagsV l k m).2 := by
  obtain ⟨hg, hlen⟩ := bagsV_good l k m
  refine ⟨h.good, hl, fun b hb => h.no_bag (by rw [hg.air hb]; decide), hg.dis (by omega), hg.ok⟩
theorem listEq_self {α : Type} [Inhabited α] {eq : α → α → Bool} (he : ∀ a, eq a a = true) (a : List α) : listEq eq a a = true := by
  unfold listEq
  simp [he]
/-- The containers while one is looked for by its number. -/
def bS (s : List Container) (j : Nat) (d : Container) (m : Nat) : List Container := if j < m then s.set j d else s
theorem bS_0 (s : List Container) (j : Nat) (d : Container) : bS s j d 0 = s := by unfold bS; rw [if_neg (by omega)]
theorem bS_end {s : List Container} {j m : Nat} {d : Container} (h : j < m) : bS s j d m = s.set j d := by unfold bS; rw [if_pos h]
theorem bS_same {s : List Container} {j m : Nat} {d : Container} (h : m ≠ j) : bS s j d (m + 1) = bS s j d m := by
  unfold bS
  by_cases h1 : j < m
  · rw [if_pos h1, if_pos (by omega)]
  rw [if_neg h1, if_neg (by omega)]
theorem bS_get {s : List Container} {j m : Nat} {d : Container} (hm : m < s.length) : ((bS s j d m).map Container.av)[m]? = some (s.getD m default).av := by
  rw [List.getElem?_map, getD_c hm]
  unfold bS
  split
  · rw [List.getElem?_set, if_neg (by omega), List.getElem?_eq_getElem hm]; rfl
  rw [List.getElem?_eq_getElem hm]; rfl
theorem bS_set {s : List Container} {j : Nat} (d : Container) (h : j < s.length) : ((bS s j d j).map Container.av).set j (splice (s.getD j default).av 0 d.av) = (bS s j d (j + 1)).map Container.av := by
  rw [show bS s j d j = s by (unfold bS; rw [if_neg (by omega)]), show bS s j d (j + 1) = s.set j d from bS_end (by omega)]
  exact set_C d h
theorem GoodC.num_ne {s : List Container} (h : GoodC s) {j m : Nat} (hj : j < s.length) (hm : m < s.length) : (s.getD m default).number = (s.getD j default).number ↔ m = j := by
  constructor
  · intro e
    rw [getD_c hj, getD_c hm] at e
    exact h.num hj hm e
  rintro rfl; rfl
theorem hl20 (l : List Int) : (l.take 2000).length ≤ 2000 := by simp; omega
end Go.Proofs.Ytmdohphcolffmaa
namespace Go.Proofs.Ytmdohphcolffmaa
open Go.RowKit
set_option linter.unusedSimpArgs false
set_option linter.unusedVariables false
set_option maxRecDepth 100000
theorem rowsPi (l : List Piece) : (((l.map Piece.av).drop 0).take l.length).map (·.map ldc) = l.map Piece.av := by
  rw [List.drop_zero, List.take_of_length_le (by simp), List.map_map]
  exact List.map_congr_left fun c _ => rfl
set_option maxHeartbeats 8000000 in
theorem C3 {l : List Int} : Fn Try.prog 3 [] [.ro (l.map iv)] [.v (.bool true)] [] := by
  obtain ⟨k1, x, hC8, hInv, hxl⟩ := conts21 (l.take 2000) 0 6 9 (hl20 l) (by decide) (by decide)
  have hBG : BG x (bagsV (l.take 2000) k1 15).2 := bg_src hInv (by omega) (by decide)
  have hyl := (bagsV_good (l.take 2000) k1 15).2
  have hC9 := C9 (l := l.take 2000) (k0 := k1) (m := 15) (hl20 l) (by decide)
  generalize bagsV (l.take 2000) k1 15 = r at *
  obtain ⟨k2, y⟩ := r
  dsimp only at *
  have hg3 := gmod_bd (x := rawV (l.take 2000) k2) (n := 3) (by decide)
  have hC12 := C12 (l := x) (f := flightN (gmod (rawV (l.take 2000) k2) 3)) (bags := y) (hBG.good.sml (by omega)) (by omega)
  rw [hBG.asg] at hC12
  have hsm := hBG.good.sml (by omega)
  have hBO := hBG.perm (ordV_perm y)
  have hO := ordV_len y
  have hC10 := C10 _ hg3
  generalize flightN (gmod (rawV (l.take 2000) k2) 3) = f at *
  refine Spec.body Try.func3 rfl Try.ntmps3 (by simp) rfl ?_; intro S0 own0 v0 w0
  (refine AW.seq_k ?_; intro K hK)
  refine AW.region ?_
  refine awP (op_assign rfl rfl) ?_
  refine AWL.nil ?_
  (refine hK _ ?_; clear hK K; (try simp only [nA, Nat.reduceBEq, Nat.reduceEqDiff, ↓reduceIte, Nat.reduceAdd, Nat.reduceSub]))
  (refine AW.seq_k ?_; intro K hK)
  refine AW.region ?_
  refine awP (op_move rfl rfl) ?_
  refine awJ (op_callB rfl en7 (C7) (RL.cons (by exact View.same rfl) (RL.nil))) ?_; (simp only [nA, Nat.reduceBEq, Nat.reduceEqDiff, ↓reduceIte])
  refine awP (op_assign rfl rfl) ?_
  refine AWL.nil ?_
  (refine hK _ ?_; clear hK K; (simp only [nA]))
  (refine AW.seq_k ?_; intro K hK)
  refine AW.region ?_
  refine awP (op_move rfl rfl) ?_
  refine awJ (op_call1 rfl en8 hC8 (by exact rfl) (RL.cons .ptr (RL.cons (.base (by exact View.same rfl)) (RL.cons (.base (by exact View.same rfl)) (RL.nil)))) (by exact ⟨_, _, _, rfl, rfl, rfl⟩) (by exact rfl) (by exact rfl) (by exact rfl)) ?_; (simp only [nA, Nat.reduceBEq, Nat.reduceEqDiff, ↓reduceIte]); refine AWL.gh (Gh.freezeN 23 (bl rfl) rfl rfl (by simpa using flat2_cons x []) (es' := x.map Container.av) (by rw [List.take_of_length_le (by simp)]; simpa using fz_cons x [])) ?_; (try simp only [nA, Nat.reduceBEq, Nat.reduceEqDiff, ↓reduceIte, Nat.reduceAdd, Nat.reduceSub])
  refine awP (op_move rfl rfl) ?_
  refine awJ (op_call1 rfl en9 hC9 (by exact rfl) (RL.cons .ptr (RL.cons (.base (by exact View.same rfl)) (RL.nil))) (by exact ⟨_, _, _, rfl, rfl, rfl⟩) (by exact rfl) (by exact rfl) (by exact rfl)) ?_; (simp only [nA, ↓reduceIte])
  refine awP (op_move rfl rfl) ?_
  refine awJ (op_call1 rfl en11 (C11 (l := (l.take 2000)) (k := k2) (n := 3) (hl20 l) (by decide)) (by exact rfl) (RL.cons .ptr (RL.cons (.base (by exact View.same rfl)) (RL.nil))) (by exact ⟨_, _, _, rfl, rfl, rfl⟩) (by exact rfl) (by exact rfl) (by exact rfl)) ?_; (simp only [nA, ↓reduceIte])
  refine awJ (op_call (b := false) rfl en10 hC10 (RL.cons (by exact View.same rfl) (RL.nil)) rfl (fun h => by cases h) rfl rfl) ?_; (try simp only [nA, Nat.reduceBEq, Nat.reduceEqDiff, ↓reduceIte, Nat.reduceAdd, Nat.reduceSub])
  refine awJ (op_alloc rfl ze30 rfl) ?_; (simp only [nA, Nat.reduceBEq, Nat.reduceEqDiff, ↓reduceIte])
  refine awP (op_assign rfl rfl) ?_
  refine awP (op_assign rfl rfl) ?_
  refine awJ (op_store rfl rfl rfl rfl rfl rfl sz30 rfl (bl rfl) rfl) ?_; (simp only [nA, Nat.reduceBEq, Nat.reduceEqDiff, ↓reduceIte])
  refine AWL.nil ?_
  (refine hK _ ?_; clear hK K; (skip))
  (refine AW.seq_k ?_; intro K hK)
  refine AW.region ?_
  refine awP (op_move rfl rfl) ?_
  (refine awR (op_load_ptr rfl rfl rfl rfl ag30 sz30 (bl rfl) rfl) ?_)
  refine awP (op_move rfl rfl) ?_
  refine awJ (op_call (b := false) rfl en12 hC12 (RL.cons (by exact View.same rfl) (RL.cons (by exact View.same rfl) (RL.cons (by exact View.same rfl) (RL.nil)))) rfl (fun h => by cases h) rfl rfl) ?_; (simp only [nA, ↓reduceIte])
  refine awP (op_move rfl rfl) ?_
  refine awP (op_extract rfl rfl rfl) ?_
  refine awP (op_extract rfl rfl rfl) ?_
  refine awP (op_extract rfl rfl rfl) ?_
  refine awP (op_assign rfl rfl) ?_
  refine awP (op_assign rfl rfl) ?_
  refine awP (op_assign rfl rfl) ?_
  refine AWL.nil ?_
  (refine hK _ ?_; clear hK K; (simp only [nA, ↓reduceIte]))
  (refine AW.seq_k ?_; intro K hK)
  (refine AW.seq_k ?_; intro K hK)
  refine AW.region ?_
  refine awP (op_move rfl rfl) ?_
  (refine awP (op_neq rfl rfl rfl) ?_)
  refine AWL.nil ?_
  (refine hK _ ?_; clear hK K; (simp only [nA]))
  refine AW.cond rfl rfl rfl (fun hc => ?_) (fun hc => ?_)
  · (cases hc; done)
  have hc1 := hc
  refine AW.skip ?_
  (refine hK _ ?_; clear hK K; (skip))
  (refine AW.seq_k ?_; intro K hK)
  refine AW.region ?_
  refine awP (op_move rfl rfl) ?_
  refine awJ (op_call (b := false) rfl en13 (C13 (l := x) hsm.len (fun c hc => by have := (val_inv (hBG.good.val c hc)).2.1; omega)) (RL.cons (by exact View.same rfl) (RL.nil)) rfl (fun h => by cases h) rfl rfl) ?_; (simp only [nA, Nat.reduceBEq, Nat.reduceEqDiff, ↓reduceIte])
  refine awP (op_assign rfl rfl) ?_
  refine AWL.nil ?_
  (refine hK _ ?_; clear hK K; (simp only [nA]))
  (refine AW.seq_k ?_; intro K hK)
  refine AW.region ?_
  refine awP (op_assign rfl rfl) ?_
  refine AWL.nil ?_
  (refine hK _ ?_; clear hK K; (try simp only [nA, Nat.reduceBEq, Nat.reduceEqDiff, ↓reduceIte, Nat.reduceAdd, Nat.reduceSub]))
  (refine AW.seq_k ?_; intro K hK)
  (refine AW.seq_k ?_; intro K hK)
  refine AW.region ?_
  refine awP (op_move rfl rfl) ?_
  refine awJ (op_call (b := false) rfl en14 (C14 (l := y) (by omega)) (RL.cons (by exact View.same rfl) (RL.nil)) rfl (fun h => by cases h) rfl rfl) ?_; (simp only [nA, ↓reduceIte])
  refine awP (op_len_ro (n := (ordV y).length) rfl rfl Try.underlying27 (.inr (.inl ⟨_, rfl, by simp⟩))) ?_
  refine awP (op_move rfl rfl) ?_
  refine AWL.nil ?_
  (refine hK _ ?_; clear hK K; (try simp only [nA, Nat.reduceBEq, Nat.reduceEqDiff, ↓reduceIte, Nat.reduceAdd, Nat.reduceSub]))
  refine AW.block ?_
  refine AW.gh (Gh.nil (e := 41) 11 (bl rfl) rfl sz41) ?_; (simp only [nA, Nat.reduceBEq, Nat.reduceEqDiff, ↓reduceIte]); refine AW.loopI (fun (q : Nat × Nat × Nat) => [(4, .ro (x.map Container.av)), (6, .ptr 2 3 0 0), (7, .ro ((asgF f (x, []) (ordV y)).1.map Container.av)), (8, .ro ((asgF f (x, []) (ordV y)).2.map Piece.av)), (10, .sl 3 4 0 (asgF f (x, []) ((ordV y).take q.1)).1.length), (11, .sl 4 q.2.1 0 (asgF f (x, []) ((ordV y).take q.1)).2.length), (42, .ro ((ordV y).map Piece.av)), (43, .v (.int .i64 ((ordV y).length : Nat))), (44, .v (.int .i64 (q.1 : Nat)))]) (fun q => ⟨[(1, .own 65 [srcRow (l.take 2000) (rawN (l.take 2000) k2)]), (2, .any), (3, .own 30 [f.av]), (4, .own 45 ((asgF f (x, []) ((ordV y).take q.1)).1.map Container.av)), (q.2.1, .own 41 ((asgF f (x, []) ((ordV y).take q.1)).2.map Piece.av))], q.2.2⟩) (fun q => q.1 ≤ (ordV y).length) (fun q => (ordV y).length - q.1) (0, _, _) (by simp) ⟨rfl, rfl, rfl, rfl, rfl, rfl, rfl, rfl, rfl, trivial⟩ rfl ?_; rintro ⟨i, v, ep⟩ ρ hI; dsimp only at hI ⊢; simp only [updL]
  (refine AW.seq_k ?_; intro K hK)
  refine AW.region ?_
  refine awP (op_lss rfl rfl rfl) ?_
  refine AWL.nil ?_
  (refine hK _ ?_; clear hK K; (try simp only [nA, Nat.reduceBEq, Nat.reduceEqDiff, ↓reduceIte, Nat.reduceAdd, Nat.reduceSub]))
  (refine AW.seq_k ?_; intro K hK)
  refine AW.cond rfl rfl rfl (fun hc => ?_) (fun hc => ?_)
  ·
   have hc2 := hc; have hlt : i < (ordV y).length := (by simpa using hc2); obtain ⟨hG, hSl, hpi, hfi, hck⟩ := hBO.step f hlt; have hstp := asgF_take (f := f) (s := (x, [])) hlt; have hln := asgF_len (f := f) ((ordV y).take i) (x, []); have hcho := choV_at (f := f) hck hpi hfi; have hsS := hG.sml (by omega); rw [List.length_take, List.length_nil] at hln
   refine AW.skip ?_
   (refine hK _ ?_; clear hK K; (skip))
   (refine AW.seq_k ?_; intro K hK)
   refine AW.block ?_
   (refine AW.seq_k ?_; intro K hK)
   refine AW.region ?_
   refine awP (op_ia_ro i rfl (.inl rfl) rfl Try.underlying27 rfl (get_mapD hlt) (by exact sz41) (bl rfl)) ?_
   (refine awR (op_load_rop rfl rfl ag41 sz41 (bl rfl) (by decide) rfl) ?_)
   refine awJ (op_alloc rfl ze41 rfl) ?_; (simp only [nA, Nat.reduceBEq, Nat.reduceEqDiff, ↓reduceIte])
   refine awJ (op_store rfl rfl rfl rfl rfl rfl sz41 rfl (bl rfl) rfl) ?_; (simp only [nA, Nat.reduceBEq, Nat.reduceEqDiff, ↓reduceIte])
   refine AWL.nil ?_
   (refine hK _ ?_; clear hK K; (skip))
   (refine AW.seq_k ?_; intro K hK)
   refine AW.region ?_
   refine awP (op_move rfl rfl) ?_
   (refine awR (op_load_ptr rfl rfl rfl rfl ag30 sz30 (bl rfl) rfl) ?_)
   (refine awR (op_load_ptr rfl rfl rfl rfl ag41 sz41 (bl rfl) rfl) ?_)
   refine awJ (op_call (b := true) rfl en15 (C15 (l := (asgF f (x, []) ((ordV y).take i)).1) (f := f) (p := ((ordV y).getD i default)) hsS) (RL.cons (View.src (.sl rfl (rowsC _))) (RL.cons (by exact View.same rfl) (RL.cons (by exact View.same rfl) RL.nil))) rfl (fun _ => sol2) rfl rfl) ?_; (simp only [nA, ↓reduceIte])
   refine awP (op_move rfl rfl) ?_
   refine awP (op_extract rfl rfl rfl) ?_
   refine awP (op_extract rfl rfl rfl) ?_
   refine awP (op_assign rfl rfl) ?_
   refine awP (op_assign rfl rfl) ?_
   refine AWL.nil ?_
   (refine hK _ ?_; clear hK K; (simp only [nA, ↓reduceIte]))
   (refine AW.seq_k ?_; intro K hK)
   (refine AW.seq_k ?_; intro K hK)
   refine AW.region ?_
   refine awP (op_move rfl rfl) ?_
   (refine awP (op_neq rfl rfl rfl) ?_)
   refine AWL.nil ?_
   (refine hK _ ?_; clear hK K; (simp only [nA]))
   refine AW.cond rfl rfl rfl (fun hc => ?_) (fun hc => ?_)
   ·
    have hc3 := hc; obtain ⟨hor, hbn⟩ : ((choV (asgF f (x, []) ((ordV y).take i)).1 f ((ordV y).getD i default)).2 = 6 ∨ (choV (asgF f (x, []) ((ordV y).take i)).1 f ((ordV y).getD i default)).2 = 8) ∧ bestV (asgF f (x, []) ((ordV y).take i)).1 f ((ordV y).getD i default) = none := (by rcases hcho with ⟨h1, h2⟩ | ⟨h1, h2⟩ | ⟨j, h1, h2⟩; (exact ⟨.inl (congrArg Prod.snd h1), h2⟩); (exact ⟨.inr (congrArg Prod.snd h1), h2⟩); (exfalso; rw [h2] at hc3; simp at hc3)); rw [stepA_none hbn] at hstp
    (refine AW.seq_k ?_; intro K hK)
    (refine AW.seq_k ?_; intro K hK)
    refine AW.region (AWL.quiet ?_)
    refine aqP (op_move rfl rfl) ?_
    (refine aqP (op_neq rfl rfl rfl) ?_)
    refine aqP (op_move rfl rfl) ?_
    refine' aqAnd' [_, _] [60,61] rfl rfl rfl rfl rfl rfl rfl rfl rfl rfl rfl rfl (fun hb => ?_) ?_; rotate_left
    ·
     (try simp only [hcS] at hb)
     refine aqP (op_move rfl rfl) ?_
     (refine aqP (op_neq rfl rfl rfl) ?_)
     (refine aqSeg rfl rfl rfl ?_; repeat (first | exact fun _ _ => rfl | refine upd_out rfl ?_))
    simp only [nA, ↓reduceIte]
    refine AQ.nil ?_
    (refine hK _ ?_; clear hK K; (skip))
    refine AW.cond rfl rfl rfl (fun hc => ?_) (fun hc => ?_)
    · (generalize (choV (asgF f (x, []) ((ordV y).take i)).1 f ((ordV y).getD i default)).2 = e at hor hc; rcases hor with rfl | rfl <;> simp at hc)
    have hc4 := hc
    refine AW.skip ?_
    (refine hK _ ?_; clear hK K; (skip))
    (refine AW.seq_k ?_; intro K hK)
    refine AW.region ?_
    refine awP (op_move rfl rfl) ?_
    (refine awR (op_load_ptr rfl rfl rfl rfl ag41 sz41 (bl rfl) rfl) ?_)
    refine awJ (OpJ.frz (op_buildSlice rfl [(0, (((ordV y).getD i default)).av)] [(((ordV y).getD i default)).av] Try.underlying27 ze41 rfl (by simp) rfl (by simp) rfl (bl rfl) (by simp [maxLen])) (by simp [flatA]) rfl) ?_; (simp only [nA, Nat.reduceEqDiff, ↓reduceIte])
    refine awJ (op_app (r := 4) (rows := [(((ordV y).getD i default)).av]) rfl rfl rfl rfl (by simp) .ro Try.underlying27 ze41 (by decide) (av_len [((ordV y).getD i default)]) (by simp; omega) (by decide) (es' := ((asgF f (x, []) ((ordV y).take i)).2 ++ [((ordV y).getD i default)]).map Piece.av) (by simp) (n := ((asgF f (x, []) ((ordV y).take i)).2 ++ [((ordV y).getD i default)]).length) (by simp)) ?_; (try simp only [nA, Nat.reduceBEq, Nat.reduceEqDiff, ↓reduceIte, Nat.reduceAdd, Nat.reduceSub])
    refine awP (op_assign rfl rfl) ?_
    refine AWL.nil ?_
    (refine hK _ ?_; clear hK K; (simp only [nA]))
    refine AW.exit ?_; (try simp only [thenE, inBlk, Nat.reduceEqDiff, ↓reduceIte])
    clear hK K
    (refine hK _ ?_; clear hK K; (skip))
    refine AW.region ?_
    (refine awP (op_addi rfl rfl rfl (by omega)) ?_)
    refine awP (op_move rfl rfl) ?_
    refine AWL.gh (Gh.drop 5) ?_; (simp only [nA])
    refine AWL.nil ?_
    refine ⟨(i + 1, _, _), by dsimp only; omega, by dsimp only; omega, ⟨rfl, rfl, rfl, rfl, (by dsimp only; rw [hstp]; rfl), (by dsimp only; rw [hstp]; rfl), rfl, rfl, rfl, trivial⟩, (by dsimp only; rw [hstp]), (by rfl)⟩
   have hc3 := hc; obtain ⟨j, hbi, hcv⟩ : ∃ j, bestV (asgF f (x, []) ((ordV y).take i)).1 f ((ordV y).getD i default) = some j ∧ (choV (asgF f (x, []) ((ordV y).take i)).1 f ((ordV y).getD i default)) = (((asgF f (x, []) ((ordV y).take i)).1.getD j default).number, 0) := (by rcases hcho with ⟨h1, h2⟩ | ⟨h1, h2⟩ | ⟨j, h1, h2⟩ <;> first | exact ⟨j, h1, h2⟩ | (rw [h1] at hc3; simp at hc3)); obtain ⟨hjl, _, hadm⟩ := bestV_some hbi; rw [stepA_some hbi] at hstp; have hput := hadm.put; have hnum : (choV (asgF f (x, []) ((ordV y).take i)).1 f ((ordV y).getD i default)).1 = ((asgF f (x, []) ((ordV y).take i)).1.getD j default).number := (by rw [hcv]); have h16 : Fn Try.prog 16 [] [.agg ((asgF f (x, []) ((ordV y).take i)).1.getD j default).av, .agg ((ordV y).getD i default).av] [.agg (insC ((asgF f (x, []) ((ordV y).take i)).1.getD j default) ((ordV y).getD i default)).av, .v (.int .i64 0)] [] := (by have h := C16 (c := ((asgF f (x, []) ((ordV y).take i)).1.getD j default)) (p := ((ordV y).getD i default)); rwa [hput] at h)
   refine AW.skip ?_
   (refine hK _ ?_; clear hK K; (skip))
   (refine AW.seq_k ?_; intro K hK)
   refine AW.region ?_
   refine awP (op_assign rfl rfl) ?_
   refine AWL.nil ?_
   (refine hK _ ?_; clear hK K; (try simp only [nA, Nat.reduceBEq, Nat.reduceEqDiff, ↓reduceIte, Nat.reduceAdd, Nat.reduceSub]))
   (refine AW.seq_k ?_; intro K hK)
   (refine AW.seq_k ?_; intro K hK)
   refine AW.region ?_
   refine awP (op_move rfl rfl) ?_
   (refine awP (op_len_sl rfl rfl rfl Try.underlying25) ?_)
   refine awP (op_move rfl rfl) ?_
   refine AWL.nil ?_
   (refine hK _ ?_; clear hK K; (simp only [nA, ↓reduceIte]))
   refine AW.block ?_
   refine AW.loopI (fun (q : Nat × Nat) => [(4, .ro (x.map Container.av)), (6, .ptr 2 3 0 0), (7, .ro ((asgF f (x, []) (ordV y)).1.map Container.av)), (8, .ro ((asgF f (x, []) (ordV y)).2.map Piece.av)), (10, .sl 3 4 0 (asgF f (x, []) ((ordV y).take i)).1.length), (11, .sl 4 v 0 (asgF f (x, []) ((ordV y).take i)).2.length), (13, .ptr 5 ep 0 0), (14, .v (.int .i64 (choV (asgF f (x, []) ((ordV y).take i)).1 f ((ordV y).getD i default)).1)), (16, .v (.bool (decide (j < q.1)))), (42, .ro ((ordV y).map Piece.av)), (43, .v (.int .i64 ((ordV y).length : Nat))), (44, .v (.int .i64 (i : Nat))), (68, .v (.int .i64 ((asgF f (x, []) ((ordV y).take i)).1.length : Nat))), (69, .v (.int .i64 (q.1 : Nat)))]) (fun q => ⟨[(1, .own 65 [srcRow (l.take 2000) (rawN (l.take 2000) k2)]), (2, .any), (3, .own 30 [f.av]), (4, .own 45 ((bS (asgF f (x, []) ((ordV y).take i)).1 j (insC ((asgF f (x, []) ((ordV y).take i)).1.getD j default) ((ordV y).getD i default)) q.1).map Container.av)), (v, .own 41 ((asgF f (x, []) ((ordV y).take i)).2.map Piece.av)), (ep, .own 41 [((ordV y).getD i default).av])], q.2⟩) (fun q => q.1 ≤ (asgF f (x, []) ((ordV y).take i)).1.length) (fun q => (asgF f (x, []) ((ordV y).take i)).1.length - q.1) (0, _) (by simp) ⟨rfl, rfl, rfl, rfl, rfl, rfl, rfl, rfl, rfl, rfl, rfl, rfl, rfl, rfl, trivial⟩ (by dsimp only; rw [bS_0] <;> rfl) ?_; rintro ⟨m, ep2⟩ ρ2 hJ; dsimp only at hJ ⊢; simp only [updL]
   (refine AW.seq_k ?_; intro K hK)
   refine AW.region ?_
   refine awP (op_lss rfl rfl rfl) ?_
   refine AWL.nil ?_
   (refine hK _ ?_; clear hK K; (try simp only [nA, Nat.reduceBEq, Nat.reduceEqDiff, ↓reduceIte, Nat.reduceAdd, Nat.reduceSub]))
   (refine AW.seq_k ?_; intro K hK)
   refine AW.cond rfl rfl rfl (fun hc => ?_) (fun hc => ?_)
   ·
    have hc5 := hc; have hm : m < (asgF f (x, []) ((ordV y).take i)).1.length := (by simpa using hc5)
    refine AW.skip ?_
    (refine hK _ ?_; clear hK K; (skip))
    (refine AW.seq_k ?_; intro K hK)
    refine AW.block ?_
    (refine AW.seq_k ?_; intro K hK)
    refine AW.region ?_
    refine awP (op_move rfl rfl) ?_
    refine awP (op_assign rfl rfl) ?_
    refine AWL.nil ?_
    (refine hK _ ?_; clear hK K; (simp only [nA, ↓reduceIte]))
    (refine AW.seq_k ?_; intro K hK)
    refine AW.region ?_
    refine awP (op_move rfl rfl) ?_
    refine awP (op_move rfl rfl) ?_
    refine awP (op_ia_sl m 11 rfl rfl rfl rfl Try.underlying25 rfl hm (by exact sz45) (Nat.zero_add _)) ?_
    (refine awP (op_fa_ptr rfl rfl rfl fl45_0 (by exact sz3) (by decide) rfl) ?_)
    refine awR (op_load_ptr1 (row := ((asgF f (x, []) ((ordV y).take i)).1.getD m default).av) rfl rfl rfl (bS_get hm) ag3 rfl rfl) ?_
    refine awP (op_move rfl rfl) ?_
    (refine awP (op_eql rfl rfl rfl) ?_)
    refine AWL.nil ?_
    (refine hK _ ?_; clear hK K; (simp only [nA, ↓reduceIte]))
    refine AW.cond rfl rfl rfl (fun hc => ?_) (fun hc => ?_)
    ·
     have hc6 := hc; have hmj : m = j := (hG.num_ne hjl hm).1 (by rw [← hnum]; simpa using hc6); subst hmj
     (refine AW.seq_k ?_; intro K hK)
     refine AW.ad [(3, 4, .own 45 ((bS (asgF f (x, []) ((ordV y).take i)).1 m (insC ((asgF f (x, []) ((ordV y).take i)).1.getD m default) ((ordV y).getD i default)) m).map Container.av)), (5, ep, .own 41 [(((ordV y).getD i default)).av])] mix rfl ?_
     refine adP 0 rfl (fun T' ok => op_move rfl rfl) (by exact ⟨rfl, rfl, trivial⟩) (by kernel_rfl) (by kernel_rfl) ?_
     refine adP 1 rfl (fun T' ok => op_move rfl rfl) (by exact ⟨rfl, rfl, trivial⟩) (by kernel_rfl) (by kernel_rfl) ?_
     refine adP 2 rfl (fun T' ok => op_ia_sl m 11 rfl rfl rfl (by exact ok.1) Try.underlying25 rfl hm (by exact sz45) (Nat.zero_add _)) (by exact ⟨rfl, rfl, trivial⟩) (by kernel_rfl) (by kernel_rfl) ?_
     refine adR 3 rfl (fun T' ok => op_load_ptr (row := ((asgF f (x, []) ((ordV y).take i)).1.getD m default).av) rfl rfl (by exact ok.1) (bS_get hm) ag45 sz45 (bl rfl) rfl) (by exact ⟨rfl, rfl, trivial⟩) (by kernel_rfl) (by kernel_rfl) ?_
     (refine adR 4 rfl (fun T' ok => op_load_ptr rfl rfl (by exact ok.2.1) rfl ag41 sz41 (bl rfl) rfl) (by exact ⟨rfl, rfl, trivial⟩) (by kernel_rfl) (by kernel_rfl) ?_)
     refine adF 5 rfl (fun T' ok => op_callS rfl en16 h16 (RL.cons (by exact View.same rfl) (RL.cons (by exact View.same rfl) (RL.nil))) rfl rfl rfl) (by exact ⟨rfl, rfl, trivial⟩) (by kernel_rfl) (by kernel_rfl) ?_; (simp only [nA, Nat.reduceBEq, Nat.reduceEqDiff, ↓reduceIte])
     refine adP 6 rfl (fun T' ok => op_move rfl rfl) (by exact ⟨rfl, rfl, trivial⟩) (by kernel_rfl) (by kernel_rfl) ?_
     refine adP 7 rfl (fun T' ok => op_extract rfl rfl rfl) (by exact ⟨rfl, rfl, trivial⟩) (by kernel_rfl) (by kernel_rfl) ?_
     refine adP 8 rfl (fun T' ok => op_extract rfl rfl rfl) (by exact ⟨rfl, rfl, trivial⟩) (by kernel_rfl) (by kernel_rfl) ?_
     refine adJ 9 rfl (op_alloc rfl ze45 rfl) (by kernel_rfl) (by exact ⟨rfl, rfl, trivial⟩) ?_; (simp only [nA, Nat.reduceBEq, Nat.reduceEqDiff, ↓reduceIte])
     refine adJ 10 rfl (op_store rfl rfl rfl rfl rfl rfl sz45 rfl (bl rfl) rfl) (by kernel_rfl) (by exact ⟨rfl, rfl, trivial⟩) ?_; (simp only [nA, Nat.reduceBEq, Nat.reduceEqDiff, ↓reduceIte])
     refine adP 11 rfl (fun T' ok => op_assign rfl rfl) (by exact ⟨rfl, rfl, trivial⟩) (by kernel_rfl) (by kernel_rfl) ?_
     refine adDone (by kernel_rfl) ?_
     (refine hK _ ?_; clear hK K; (simp only [nA, ↓reduceIte]))
     (refine AW.seq_k ?_; intro K hK)
     (refine AW.seq_k ?_; intro K hK)
     refine AW.region ?_
     refine awP (op_move rfl rfl) ?_
     (refine awP (op_neq rfl rfl rfl) ?_)
     refine AWL.nil ?_
     (refine hK _ ?_; clear hK K; (simp only [nA]))
     refine AW.cond rfl rfl rfl (fun hc => ?_) (fun hc => ?_)
     · (cases hc; done)
     have hc7 := hc
     refine AW.skip ?_
     (refine hK _ ?_; clear hK K; (skip))
     refine AW.region ?_
     refine awP (op_move rfl rfl) ?_
     refine awP (op_move rfl rfl) ?_
     (refine awR (op_load_ptr rfl rfl rfl rfl ag45 sz45 (bl rfl) rfl) ?_)
     refine awP (op_ia_sl m 11 rfl rfl rfl rfl Try.underlying25 rfl hm (by exact sz45) (Nat.zero_add _)) ?_
     refine awJ (op_store rfl rfl rfl rfl (bS_get hm) rfl sz45 rfl (bl rfl) (es' := (bS (asgF f (x, []) ((ordV y).take i)).1 m (insC ((asgF f (x, []) ((ordV y).take i)).1.getD m default) ((ordV y).getD i default)) (m + 1)).map Container.av) (bS_set _ hm)) ?_; (simp only [nA, ↓reduceIte])
     refine awP (op_assign rfl rfl) ?_
     refine AWL.nil ?_
     (try simp only [thenE, inBlk, Nat.reduceEqDiff, ↓reduceIte])
     (refine hK _ ?_; clear hK K; (try simp only [nA, Nat.reduceBEq, Nat.reduceEqDiff, ↓reduceIte, Nat.reduceAdd, Nat.reduceSub]))
     refine AW.region ?_
     (refine awP (op_addi rfl rfl rfl (by omega)) ?_)
     refine awP (op_move rfl rfl) ?_
     refine AWL.gh (Gh.drop 6) ?_; (simp only [nA])
     refine AWL.nil ?_
     refine ⟨(m + 1, _), by dsimp only; omega, by dsimp only; omega, ⟨rfl, rfl, rfl, rfl, rfl, rfl, rfl, rfl, (by dsimp only; rw [decide_eq_true (show m < m + 1 by omega)]; rfl), rfl, rfl, rfl, rfl, rfl, trivial⟩, (by rfl), (by rfl)⟩
    have hc6 := hc; have hmj : m ≠ j := (fun e => by subst e; rw [hnum] at hc6; simp at hc6)
    refine AW.skip ?_
    (try simp only [thenE, inBlk, Nat.reduceEqDiff, ↓reduceIte])
    (refine hK _ ?_; clear hK K; (skip))
    refine AW.region ?_
    (refine awP (op_addi rfl rfl rfl (by omega)) ?_)
    refine awP (op_move rfl rfl) ?_
    refine AWL.gh (Gh.drop 6) ?_; (simp only [nA])
    refine AWL.nil ?_
    refine ⟨(m + 1, _), by dsimp only; omega, by dsimp only; omega, ⟨rfl, rfl, rfl, rfl, rfl, rfl, rfl, rfl, (by dsimp only; exact congrArg (fun z => AV.v (.bool z)) (decide_eq_decide.2 (by omega))), rfl, rfl, rfl, rfl, rfl, trivial⟩, (by dsimp only; rw [bS_same hmj]), (by rfl)⟩
   have hc5 := hc; have hnm : ¬ m < (asgF f (x, []) ((ordV y).take i)).1.length := (by simpa using hc5)
   refine AW.exit ?_; (try simp only [thenE, inBlk, Nat.reduceEqDiff, ↓reduceIte])
   clear hK K
   (refine hK _ ?_; clear hK K; (skip))
   (refine AW.seq_k ?_; intro K hK)
   refine AW.region ?_
   refine awP (op_move rfl rfl) ?_
   refine awP (op_not rfl rfl rfl) ?_
   refine AWL.nil ?_
   (refine hK _ ?_; clear hK K; (simp only [nA, ↓reduceIte]))
   refine AW.cond rfl rfl rfl (fun hc => ?_) (fun hc => ?_)
   · (simp at hc; omega)
   have hc8 := hc
   refine AW.skip ?_
   (try simp only [thenE, inBlk, Nat.reduceEqDiff, ↓reduceIte])
   (refine hK _ ?_; clear hK K; (skip))
   refine AW.region ?_
   (refine awP (op_addi rfl rfl rfl (by omega)) ?_)
   refine awP (op_move rfl rfl) ?_
   refine AWL.gh (Gh.drop 5) ?_; (simp only [nA])
   refine AWL.nil ?_
   refine ⟨(i + 1, _, _), by dsimp only; omega, by dsimp only; omega, ⟨rfl, rfl, rfl, rfl, (by dsimp only; rw [hstp, List.length_set]; rfl), (by dsimp only; rw [hstp]; rfl), rfl, rfl, rfl, trivial⟩, (by dsimp only; rw [hstp, bS_end (by omega)]), (by rfl)⟩
  have hc2 := hc; have hnl : i = (ordV y).length := (by have : ¬ i < (ordV y).length := (by simpa using hc2); omega); rw [hnl, List.take_length]; have hE := (hBO.ciAll f).len; have hEs := (hBO.ciAll f).good.sml (by omega); have h17 : Fn Try.prog 17 [] [.ro ((asgF f (x, []) (ordV y)).1.map Container.av), .ro ((asgF f (x, []) (ordV y)).1.map Container.av)] [.v (.bool true)] [] := (by have h := C17 (a := (asgF f (x, []) (ordV y)).1) (b := (asgF f (x, []) (ordV y)).1) hEs.len hEs.p; rwa [listEq_self sameC_self] at h); have h18 : Fn Try.prog 18 [] [.ro ((asgF f (x, []) (ordV y)).2.map Piece.av), .ro ((asgF f (x, []) (ordV y)).2.map Piece.av)] [.v (.bool true)] [] := (by have hl2 := (asgF_len (f := f) (ordV y) (x, [])).2; have h := C18 (a := (asgF f (x, []) (ordV y)).2) (b := (asgF f (x, []) (ordV y)).2) (by rw [ordV_len] at hl2; simp only [List.length_nil] at hl2; omega); rwa [listEq_self piEq_self] at h)
  refine AW.exit ?_; (try simp only [thenE, inBlk, Nat.reduceEqDiff, ↓reduceIte])
  clear hK K
  (refine hK _ ?_; clear hK K; (skip))
  (refine AW.seq_k ?_; intro K hK)
  refine AW.region (AWL.quiet ?_)
  refine aqP (op_move rfl rfl) ?_
  refine aqP (op_len_ro (n := x.length) rfl rfl Try.underlying25 (.inr (.inl ⟨_, rfl, by simp [hE]⟩))) ?_
  refine aqP (op_move rfl rfl) ?_
  refine aqP (op_len_ro (n := x.length) rfl rfl Try.underlying25 (.inr (.inl ⟨_, rfl, by simp [hE]⟩))) ?_
  (refine aqP (op_eql rfl rfl rfl) ?_)
  refine aqP (op_move rfl rfl) ?_
  refine' aqAnd' [_, _, _] [104,105,106] rfl rfl rfl rfl rfl rfl rfl rfl rfl rfl rfl rfl (fun hb => ?_) ?_; rotate_left
  ·
   (try simp only [hcS] at hb)
   refine aqP (op_move rfl rfl) ?_
   refine aqP (op_move rfl rfl) ?_
   refine aqQ (op_callQ (b := true) rfl en17 h17 (RL.cons (by exact View.same rfl) (RL.cons (View.src (.sl rfl (rowsC _))) (RL.nil))) rfl) ?_; (simp only [nA, ↓reduceIte])
   (refine aqSeg rfl rfl rfl ?_; repeat (first | exact fun _ _ => rfl | refine upd_out rfl ?_))
  simp only [nA, ↓reduceIte]
  refine aqP (op_move rfl rfl) ?_
  refine' aqAnd' [_, _, _] [109,110,111] rfl rfl rfl rfl rfl rfl rfl rfl rfl rfl rfl rfl (fun hb => ?_) ?_; rotate_left
  ·
   (try simp only [hcS] at hb)
   refine aqP (op_move rfl rfl) ?_
   refine aqP (op_move rfl rfl) ?_
   refine aqQ (op_callQ (b := true) rfl en18 h18 (RL.cons (by exact View.same rfl) (RL.cons (View.src (.sl rfl (rowsPi _))) (RL.nil))) rfl) ?_; (simp only [nA, Nat.reduceEqDiff, ↓reduceIte])
   (refine aqSeg rfl rfl rfl ?_; repeat (first | exact fun _ _ => rfl | refine upd_out rfl ?_))
  simp only [nA]
  refine aqP (op_move rfl rfl) ?_
  refine' aqAnd' [_] [114] rfl rfl rfl rfl rfl rfl rfl rfl rfl rfl rfl rfl (fun hb => ?_) ?_; rotate_left
  ·
   (try simp only [hcS] at hb)
   refine aqQ (op_callQ (b := true) rfl en19 (C19) (RL.nil) rfl) ?_; (simp only [nA])
   (refine aqSeg rfl rfl rfl ?_; repeat (first | exact fun _ _ => rfl | refine upd_out rfl ?_))
  simp only [nA]
  refine aqP (op_assign rfl rfl) ?_
  refine AQ.nil ?_
  (refine hK _ ?_; clear hK K; (simp only [nA]))
  skip
  refine AW.ret ?_; (try simp only [thenE, inBlk, Nat.reduceEqDiff, ↓reduceIte]); exact RQ.of0 rfl (.tmp (bl rfl) rfl rfl .nil)
end Go.Proofs.Ytmdohphcolffmaa
namespace Go.Proofs.Ytmdohphcolffmaa
open Go.RowKit
set_option linter.unusedSimpArgs false
set_option linter.unusedVariables false
inductive Sh where
  | int (k : IntKind)
  | str
  | bool
  | sl (row : List Sh)
inductive Mt : AV → Sh → Prop
  | int {k : IntKind} {n : Int} (h : (Lit.int k n).wf = true) : Mt (.v (.int k n)) (.int k)
  | str {s : ByteArray} (h : s.size ≤ maxLen) : Mt (.v (.string s)) .str
  | bool {b : Bool} : Mt (.v (.bool b)) .bool
  | sl {row : List Sh} {es : List (List AV)} (hs : es.length ≤ maxLen) (h : ∀ e ∈ es, e.length = row.length) (hc : ∀ e ∈ es, ∀ (i : Nat) (x : AV) (s : Sh), e[i]? = some x → row[i]? = some s → Mt x s) : Mt (.ro es) (.sl row)
theorem Mt.rows {es : List (List AV)} {row : List Sh} (h : Mt (.ro es) (.sl row)) : ∀ e ∈ es, RL Mt e row := by
  cases h with
  | sl hs h hc => exact fun e he => ⟨h e he, hc e he⟩
theorem rows_of {α : Type} {f : α → List AV} : ∀ {es : List (List AV)}, (∀ e ∈ es, ∃ p, e = f p) → ∃ ps : List α, es = ps.map f
  | [], _ => ⟨[], rfl⟩
  | e :: es, h => by
    obtain ⟨p, rfl⟩ := h e (by simp)
    obtain ⟨ps, rfl⟩ := rows_of (es := es) fun e he => h e (by simp [he])
    exact ⟨p :: ps, rfl⟩
def fieldsSh (sh : TypeId → Option (List Sh)) (P : Program) : Nat → List Field → Option (List Sh)
  | _, [] => some []
  | o, f :: fs => if f.offset = o then (sh f.type).bind fun r => if r.length = P.cellsOf f.type then (fieldsSh sh P (o + r.length) fs).map (r ++ ·) else none else none
def copies (r : List Sh) : Nat → List Sh
  | 0 => []
  | n + 1 => r ++ copies r n
def shOf (P : Program) : Nat → TypeId → Option (List Sh)
  | 0, _ => none
  | n + 1, t => match P.underlying t with
    | some (.int k) => some [.int k]
    | some .string => some [.str]
    | some .bool => some [.bool]
    | some (.slice e) => (shOf P n e).map fun r => [.sl r]
    | some (.struct fs) => (fieldsSh (shOf P n) P 0 fs.toList).bind fun r => if r.length = P.cellsOf t then some r else none
    | some (.array k e) => (shOf P n e).bind fun r => if r.length = P.cellsOf e ∧ P.cellsOf t = k * P.cellsOf e then some (copies r k) else none
    | _ => none
theorem RL.cons' {α β : Type} {R : α → β → Prop} {us : List α} {xs : List β} {u : α} (h : RL R (u :: us) xs) : ∃ x xs', xs = x :: xs' ∧ R u x ∧ RL R us xs' := by
  cases xs with
  | nil => have := h.1; simp at this
  | cons x xs => exact ⟨x, xs, rfl, h.2 0 u x rfl rfl, by have := h.1; simpa using this, fun i a b ha hb => h.2 (i + 1) a b (by simpa using ha) (by simpa using hb)⟩
theorem take_split {α : Type} (l : List α) (o m n : Nat) : (l.drop o).take (m + n) = (l.drop o).take m ++ (l.drop (o + m)).take n := by
  rw [List.take_add, List.drop_drop]
theorem flat_idx {α : Type} {sz : Nat} : ∀ {es : List (List α)}, (∀ e ∈ es, e.length = sz) → ∀ {j : Nat}, j < es.flatten.length → ∃ e u, es[j / sz]? = some e ∧ e[j % sz]? = some u ∧ es.flatten[j]? = some u
  | [], _, j, h => by simp at h
  | e :: es, hs, j, h => by
    have he : e.length = sz := hs e (by simp)
    have hs' : ∀ e ∈ es, e.length = sz := fun e he => hs e (by simp [he])
    rw [List.flatten_cons] at h ⊢
    by_cases hj : j < sz
    · rw [List.getElem?_append_left (by omega), Nat.div_eq_of_lt hj, Nat.mod_eq_of_lt hj]
      exact ⟨e, e[j]'(by omega), rfl, List.getElem?_eq_getElem _, List.getElem?_eq_getElem _⟩
    rw [List.length_append] at h
    obtain ⟨e1, u, h1, h2, h3⟩ := flat_idx hs' (j := j - sz) (by omega)
    have h0 : 0 < sz := by
      rcases Nat.eq_zero_or_pos sz with h0 | h0
      · subst h0
        have : es.flatten = [] := List.flatten_eq_nil_iff.2 fun e he => List.eq_nil_of_length_eq_zero (hs' e he)
        rw [this] at h
        simp at h
        omega
      exact h0
    rw [List.getElem?_append_right (by omega), he, Nat.div_eq_sub_div h0 (by omega), Nat.mod_eq_sub_mod (by omega)]
    exact ⟨e1, u, by simpa using h1, h2, h3⟩
section
variable {H : Type} {enc : TypeId × Value → H} {P : Program} {w : World} {base : Nat} {spare : Nat → Bool} {held : Bool}
theorem fields_open {S : Nat → Prop} {sh : TypeId → Option (List Sh)} {n : Nat} {cs : List Value} (ih : ∀ t cs x r, sh t = some r → DataW.trod enc P w base spare held n t cs = some x → ∃ xs, RL (Rep P S w []) cs xs ∧ RL Mt xs r) :
    ∀ (fs : List Field) (o : Nat) (r : List Sh), fieldsSh sh P o fs = some r → (∀ f ∈ fs, ∃ y, DataW.trod enc P w base spare held n f.type ((cs.drop f.offset).take (P.cellsOf f.type)) = some y) →
      ∃ xs, RL (Rep P S w []) ((cs.drop o).take r.length) xs ∧ RL Mt xs r
  | [], o, r, h, _ => by
    simp only [fieldsSh, Option.some.injEq] at h
    subst h
    exact ⟨[], by simpa using RL.nil, RL.nil⟩
  | f :: fs, o, r, h, hf => by
    unfold fieldsSh at h
    split at h
    · rename_i ho
      obtain ⟨r1, h1, h2⟩ := Option.bind_eq_some_iff.1 h
      split at h2
      · rename_i hl
        obtain ⟨r2, h3, h4⟩ := Option.map_eq_some_iff.1 h2
        subst h4
        obtain ⟨y, hy⟩ := hf f (by simp)
        obtain ⟨xs1, a1, a2⟩ := ih _ _ _ _ h1 hy
        obtain ⟨xs2, b1, b2⟩ := fields_open ih fs (o + r1.length) r2 h3 fun f hf' => hf f (by simp [hf'])
        refine ⟨xs1 ++ xs2, ?_, a2.append b2⟩
        rw [List.length_append, take_split]
        rw [ho, ← hl] at a1
        exact a1.append b1
      cases h2
    cases h
theorem copies_open {S : Nat → Prop} {r : List Sh} {n c : Nat} {e : TypeId} {cs : List Value} (hr : r.length = c) (ih : ∀ cs x, DataW.trod enc P w base spare held n e cs = some x → ∃ xs, RL (Rep P S w []) cs xs ∧ RL Mt xs r) :
    ∀ (m o : Nat), (∀ i, i < m → ∃ y, DataW.trod enc P w base spare held n e ((cs.drop (o + i * c)).take c) = some y) → ∃ xs, RL (Rep P S w []) ((cs.drop o).take (m * c)) xs ∧ RL Mt xs (copies r m)
  | 0, o, _ => ⟨[], by simpa using RL.nil, RL.nil⟩
  | m + 1, o, h => by
    obtain ⟨y, hy⟩ := h 0 (by omega)
    rw [Nat.zero_mul, Nat.add_zero] at hy
    obtain ⟨xs1, a1, a2⟩ := ih _ _ hy
    obtain ⟨xs2, b1, b2⟩ := copies_open hr ih m (o + c) fun i hi => by
      have := h (i + 1) (by omega)
      rw [show o + (i + 1) * c = o + c + i * c by rw [Nat.succ_mul]; omega] at this
      exact this
    refine ⟨xs1 ++ xs2, ?_, a2.append b2⟩
    rw [Nat.succ_mul, Nat.add_comm (m * c) c, take_split]
    exact a1.append b1
theorem Rep.small {S : Nat → Prop} {A : Option Addr} {len c : Nat} {es : List (List AV)} (h : Rep P S w [] (.slice A len c) (.ro es)) : es.length ≤ maxLen := by
  obtain ⟨-, A', c', sz, us, e, h1, h2, -⟩ := h.ro_inv
  exact Nat.le_trans h1 h2
theorem open_sh : ∀ (m fuel : Nat) (t : TypeId) (cs : List Value) (x : DataW H × List MemPlace) (r : List Sh), shOf P m t = some r → DataW.trod enc P w base spare held fuel t cs = some x → ∃ xs, RL (Rep P (fun k => k < w.heap.size) w []) cs xs ∧ RL Mt xs r
  | 0, _, _, _, _, _, h, _ => by simp [shOf] at h
  | m + 1, fuel, t, cs, x, r, h, hx => by
    unfold shOf at h
    split at h
    · rename_i k ht
      injection h with h; subst h
      obtain ⟨n, rfl, _, hw⟩ := DataW.trod_int ht hx
      exact ⟨_, .cons (.v rfl) .nil, .cons (.int hw) .nil⟩
    · rename_i ht
      injection h with h; subst h
      obtain ⟨s, rfl, _, hw⟩ := DataW.trod_string ht hx
      exact ⟨_, .cons (.v rfl) .nil, .cons (.str hw) .nil⟩
    · rename_i ht
      injection h with h; subst h
      obtain ⟨b, rfl, _⟩ := DataW.trod_bool ht hx
      exact ⟨_, .cons (.v rfl) .nil, .cons .bool .nil⟩
    · rename_i e ht
      obtain ⟨row, h1, h2⟩ := Option.map_eq_some_iff.1 h
      subst h2
      rcases Go.Deep.open_slice ht hx with ⟨rfl, _⟩ | ⟨a, len, cap, mm, n, D, Pl, rfl, hb, hl, hm, hmm, _, hel⟩
      · exact ⟨_, .cons rep_ro_nil .nil, .cons (.sl (Nat.zero_le _) (by simp) (by simp)) .nil⟩
      have hlm : len ≤ mm := by rw [hmm]; split <;> omega
      have key : ∀ i, i < len → ∃ p : List Value × List AV, w.cells? base (a.add (i * P.cellsOf e)) (P.cellsOf e) = some p.1 ∧ RL (Rep P (fun k => k < w.heap.size) w []) p.1 p.2 ∧ RL Mt p.2 row := fun i hi => by
        obtain ⟨cs', c1, c2⟩ := hel i (by omega)
        obtain ⟨xs, c3, c4⟩ := open_sh m _ _ _ _ _ h1 c2
        exact ⟨(cs', xs), c1, c3, c4⟩
      obtain ⟨F, hF⟩ := Go.Deep.choose_lt key
      have lv : ∀ l ∈ (List.range len).map (fun i => (F i).1), l.length = P.cellsOf e := fun l hl' => by
        obtain ⟨i, hi, rfl⟩ := List.mem_map.1 hl'
        exact (World.cells?_some (hF i (List.mem_range.1 hi)).1).2.1
      have lx : ∀ l ∈ (List.range len).map (fun i => (F i).2), l.length = P.cellsOf e := fun l hl' => by
        obtain ⟨i, hi, rfl⟩ := List.mem_map.1 hl'
        rw [← (hF i (List.mem_range.1 hi)).2.1.1]
        exact (World.cells?_some (hF i (List.mem_range.1 hi)).1).2.1
      have hlen : ((List.range len).map fun i => (F i).2).length = len := by simp
      have hfl : ((List.range len).map fun i => (F i).1).flatten.length = ((List.range len).map fun i => (F i).2).flatten.length := by
        rw [List.length_flatten, List.length_flatten]
        congr 1
        rw [List.map_map, List.map_map]
        exact List.map_congr_left fun i hi => (hF i (List.mem_range.1 hi)).2.1.1
      have hrep : Rep P (fun k => k < w.heap.size) w [] (.slice (some a) ((List.range len).map fun i => (F i).2).length cap) (.ro ((List.range len).map fun i => (F i).2)) := by
        refine Rep.ro (sz := P.cellsOf e) (us := ((List.range len).map fun i => (F i).1).flatten) (by rw [hlen]; exact hl) hm lx (fun hn => ?_) hfl fun i u x hu hx' => ?_
        · have hget : ∀ j u, ((List.range len).map fun i => (F i).1).flatten[j]? = some u → w.cell? (a.add j) = some u := fun j u hu => by
            obtain ⟨l, u', q1, q2, q3⟩ := flat_idx lv (j := j) (List.getElem?_eq_some_iff.1 hu).1
            rw [q3] at hu
            injection hu with hu; subst hu
            rw [List.getElem?_map] at q1
            have hq : j / P.cellsOf e < len := by
              have := (List.getElem?_eq_some_iff.1 (show ((List.range len).map fun i => (F i).1)[j / P.cellsOf e]? = some l by rw [List.getElem?_map]; exact q1)).1
              simpa using this
            rw [List.getElem?_range hq] at q1
            injection q1 with q1; subst q1
            have hc := (World.cells?_some (hF _ hq).1)
            have hp : 0 < P.cellsOf e := by
              have := (List.getElem?_eq_some_iff.1 q2).1
              rw [hc.2.1] at this; omega
            have hcell := hc.2.2 (j % P.cellsOf e) (Nat.mod_lt _ hp)
            rw [q2, Go.Deep.add_add, Nat.mul_comm, Nat.div_add_mod] at hcell
            exact hcell
          have h0 := hget 0 _ (List.getElem?_eq_getElem hn)
          obtain ⟨g, o, sp⟩ := a
          have : sp = none := by simpa [Addr.add] using World.cell?_spot h0
          subst this
          refine ⟨g, o, rfl, World.block_lt_of_cell? w _ h0, fun j u hu => ?_⟩
          have := hget j u hu
          rw [add_off] at this
          exact this
        obtain ⟨l, u', q1, q2, q3⟩ := flat_idx lv (j := i) (List.getElem?_eq_some_iff.1 hu).1
        obtain ⟨l2, u2, p1, p2, p3⟩ := flat_idx lx (j := i) (List.getElem?_eq_some_iff.1 hx').1
        rw [q3] at hu
        injection hu with hu; subst hu
        rw [p3] at hx'
        injection hx' with hx'; subst hx'
        rw [List.getElem?_map] at q1 p1
        have hq : i / P.cellsOf e < len := by
          have := (List.getElem?_eq_some_iff.1 (show ((List.range len).map fun i => (F i).1)[i / P.cellsOf e]? = some l by rw [List.getElem?_map]; exact q1)).1
          simpa using this
        rw [List.getElem?_range hq] at q1 p1
        injection q1 with q1; subst q1
        injection p1 with p1; subst p1
        exact (hF _ hq).2.1.2 _ _ _ q2 p2
      rw [hlen] at hrep
      refine ⟨_, .cons hrep .nil, .cons (.sl hrep.small (fun l hl' => ?_) fun l hl' => ?_) .nil⟩
      · obtain ⟨i, hi, rfl⟩ := List.mem_map.1 hl'
        exact (hF i (List.mem_range.1 hi)).2.2.1
      obtain ⟨i, hi, rfl⟩ := List.mem_map.1 hl'
      exact (hF i (List.mem_range.1 hi)).2.2.2
    · rename_i fs ht
      obtain ⟨r1, h1, h2⟩ := Option.bind_eq_some_iff.1 h
      split at h2
      · rename_i hl
        injection h2 with h2; subst h2
        obtain ⟨ys, n, _, _, hcl, hyl, hf⟩ := DataW.trod_struct ht hx
        obtain ⟨xs, a1, a2⟩ := fields_open (fun t cs x r => open_sh m n t cs x r) fs.toList 0 r1 h1 (cs := cs) fun f hf' => by
          obtain ⟨i, hi, rfl⟩ := List.getElem_of_mem hf'
          have := hf i fs.toList[i] (by simp at hi; simp [hi])
          exact ⟨_, this.trans (List.getElem?_eq_getElem (by rw [hyl]; simpa using hi))⟩
        rw [List.drop_zero, hl, ← hcl, List.take_length] at a1
        exact ⟨xs, a1, a2⟩
      cases h2
    · rename_i k e ht
      obtain ⟨r1, h1, h2⟩ := Option.bind_eq_some_iff.1 h
      split at h2
      · rename_i hl
        injection h2 with h2; subst h2
        obtain ⟨ys, n, _, _, hcl, hyl, hf⟩ := DataW.trod_array ht hx
        obtain ⟨xs, a1, a2⟩ := copies_open (cs := cs) hl.1 (fun cs x hx => open_sh m n e cs x r1 h1 hx) k 0 fun i hi => by
          have := hf i hi
          rw [Nat.zero_add]
          exact ⟨_, this.trans (List.getElem?_eq_getElem (by omega))⟩
        rw [List.drop_zero, ← hl.2, ← hcl, List.take_length] at a1
        exact ⟨xs, a1, a2⟩
      cases h2
    cases h
/-- A datum of one cell. -/
theorem open_one {m : Nat} {t : TypeId} {v : Value} {s : Sh} {d : DataW H} {ps : List MemPlace} (hs : shOf P m t = some [s]) (hv : v.cells = #[v]) (h : DataW.Trod enc P w base spare held t v d ps) : ∃ x, AggOK P (fun k => k < w.heap.size) w (insT []) [] v x ∧ Mt x s := by
  obtain ⟨fuel, hf⟩ := h
  rw [hv] at hf
  obtain ⟨xs, a1, a2⟩ := open_sh m fuel t [v] _ [s] hs hf
  obtain ⟨x, xs', rfl, b1, b2⟩ := a1.cons'
  obtain ⟨x2, xs2, q, c1, -⟩ := a2.cons'
  injection q with q _
  subst q
  refine ⟨x, ?_, c1⟩
  have hr := b1.ref (T := insT []) (vals := [])
  cases c1 <;> exact hr
end
theorem Spec.small {P : Program} {f : FuncId} {ins xs : List AV} {Q : List AV → List AV → Prop} {es : List (List AV)} (k : Nat) (hk : xs[k]? = some (.ro es)) (h : es.length ≤ 9223372036854775807 → Spec P f ins xs Q) : Spec P f ins xs Q := fun w S vals bss vs c => by
  obtain ⟨u, hu, hr⟩ := c.args.at_ hk
  have hr : Rep P S w [] u (.ro es) := hr
  obtain ⟨-, A, cc, sz, us, e, h1, h2, -⟩ := hr.ro_inv
  exact h (Nat.le_trans (Nat.le_trans h1 h2) (by decide)) w S vals bss vs c
/-- What a cell may hold, taken apart. -/
theorem Mt.i64 {x : AV} (h : Mt x (.int .i64)) : ∃ n, x = .v (.int .i64 n) := by cases h; exact ⟨_, rfl⟩
theorem Mt.u8 {x : AV} (h : Mt x (.int .u8)) : ∃ n, x = .v (.int .u8 n) := by cases h; exact ⟨_, rfl⟩
theorem Mt.sl_ {x : AV} {r : List Sh} (h : Mt x (.sl r)) : ∃ es, x = .ro es := by cases h; exact ⟨_, rfl⟩
end Go.Proofs.Ytmdohphcolffmaa
namespace Go.Proofs.Ytmdohphcolffmaa
open Go.RowKit
set_option linter.unusedSimpArgs false
set_option linter.unusedVariables false
set_option maxRecDepth 100000
abbrev decIntSh : List Sh := [.int .i64]
theorem decInt {xs : List AV} (h : RL Mt xs decIntSh) : ∃ c : Int, xs = iv c := by
  obtain ⟨x0, xs, rfl, h0, h⟩ := h.cons_inv
  obtain rfl := h.nil_inv
  obtain ⟨v0, rfl⟩ := Mt.i64 h0
  exact ⟨v0, rfl⟩
abbrev decIntsSh : Sh := .sl decIntSh
theorem decInts {x : AV} (h : Mt x decIntsSh) : ∃ l : List Int, x = .ro (l.map iv) := by
  obtain ⟨es, rfl⟩ := h.sl_
  obtain ⟨l, rfl⟩ := rows_of fun e he => decInt (h.rows e he)
  exact ⟨l, rfl⟩
abbrev decPieceSh : List Sh := [.int .i64, .int .i64, .int .i64, .int .i64, .int .i64]
abbrev decPlateSh : List Sh := [.int .i64, .int .i64, .int .i64]
abbrev decContSh : List Sh := [.int .i64, .str, .int .i64, .str, .int .i64, .int .i64, .int .i64, .int .i64, .int .i64, .int .i64, .sl decPieceSh]
abbrev decContsSh : Sh := .sl decContSh
end Go.Proofs.Ytmdohphcolffmaa
