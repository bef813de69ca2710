import Derived.Test.YtmdohphcolffmaaGreatAmg
namespace Go.Proofs.YtmdohphcolffmaaGreat
set_option maxHeartbeats 8000000
open Go.RowKit
set_option linter.unusedSimpArgs false
set_option linter.unusedVariables false
set_option maxRecDepth 100000
theorem getD_memP {l : List Piece} {i : Nat} (h : i < l.length) : l.getD i default ∈ l := by rw [getD_el h]; exact List.getElem_mem h
theorem set_C {l : List Container} {j : Nat} (c : Container) (h : j < l.length) : (l.map Container.av).set j (yJ (l.getD j default).av 0 c.av) = (l.set j c).map Container.av := by
 rw [List.map_set]
 rfl
theorem flatC (l : List Container) : ∀ r ∈ l.map Container.av, ∀ c ∈ r, flatA c = true := fun r hr c hc => by
 obtain ⟨x, _, rfl⟩ := List.mem_map.1 hr
 simp only [Container.av, Flight.av, List.mem_cons, List.mem_append, List.not_mem_nil, or_false, List.cons_append, List.nil_append] at hc
 rcases hc with rfl | rfl | rfl | rfl | rfl | rfl | rfl | rfl | rfl | rfl | rfl <;> rfl
theorem rowsC (l : List Container) : (((l.map Container.av).drop 0).take l.length).map (·.map ldc) = l.map Container.av := by
 rw [List.drop_zero, List.take_of_length_le (by simp), List.map_map]
 exact List.map_congr_left fun c _ => rfl
theorem pl83 : plIs Tryz.prog 83 [] := ⟨_, Tryz.underlying83, by kernel_rfl⟩
theorem C24 {l : List Container} {f : Flight} {bags : List Piece} (hs : Sml l) (hb : bags.length ≤ 50) : Fn Tryz.prog 24 [] [.ro (l.map Container.av), .agg f.av, .ro (bags.map Piece.av)] [.ro ((asgV l f bags).1.map Container.av), .ro ((asgV l f bags).2.1.map Piece.av), .v (.int .i64 (asgV l f bags).2.2)] [] := by
 refine Spec.body Tryz.func24 rfl Tryz.ntmps24 (by simp) rfl ?_; intro S0 own0 v0 w0
 refine zA fun K hK => zB ?_
 refine yD (yO rfl rfl rfl sz25 rfl) ?_; simp only [nA, Nat.reduceBEq, Nat.reduceEqDiff, ↓reduceIte]
 refine zF (zD rfl rfl) ?_
 refine zF (zD rfl rfl) ?_
 refine zF (zD rfl rfl) ?_
 refine zE (hK _ ?_); clear hK K; try simp only [nA, Nat.reduceBEq, Nat.reduceEqDiff, ↓reduceIte, Nat.reduceAdd, Nat.reduceSub]
 refine zA fun K hK => ?_
 refine zA fun K hK => zB ?_
 refine zF (zC rfl rfl) ?_
 refine yD (OpQ.j (zT (b := true) rfl en37 (C37 (xs := l) hs.len) (RL.cons (by exact View.same rfl) (RL.nil)) rfl)) ?_; simp only [nA, ↓reduceIte]
 refine zF (zD rfl rfl) ?_
 refine zE (hK _ ?_); clear hK K; simp only [nA]
 refine zA fun K hK => zB ?_
 refine zF (zC rfl rfl) ?_
 refine zF (op_neq rfl rfl rfl) ?_
 refine zE (hK _ ?_); clear hK K; simp only [nA]
 refine zL rfl rfl rfl (fun hc => ?_) (fun hc => ?_)
 ·
  have hc1 := hc; have g1 : chkL l ≠ 0 := (by simpa using hc1)
  refine zA fun K hK => zB ?_
  refine zF (zC rfl rfl) ?_
  refine zF (zD rfl rfl) ?_
  refine zF (zD rfl rfl) ?_
  refine zF (zD rfl rfl) ?_
  refine zE (hK _ ?_); clear hK K; simp only [nA, ↓reduceIte]
  refine AW.gh (Gh.nil (e := 33) 6 (bl rfl) rfl yH) ?_; (simp only [nA, Nat.reduceBEq, Nat.reduceEqDiff, ↓reduceIte]); refine AW.gh (Gh.freeze 6 (bl rfl) rfl rfl (by simp) (es' := ([] : List Container).map Container.av) rfl) ?_; (try simp only [nA, Nat.reduceBEq, Nat.reduceEqDiff, ↓reduceIte, Nat.reduceAdd, Nat.reduceSub]); refine AW.gh (Gh.nil (e := 35) 7 (bl rfl) rfl yR) ?_; (simp only [nA, Nat.reduceBEq, Nat.reduceEqDiff, ↓reduceIte]); refine AW.gh (Gh.freeze 7 (bl rfl) rfl rfl (by simp) (es' := ([] : List Piece).map Piece.av) rfl) ?_; try simp only [nA, Nat.reduceBEq, Nat.reduceEqDiff, ↓reduceIte, Nat.reduceAdd, Nat.reduceSub]
  refine zO ?_; (try simp only [zI, zJ, Nat.reduceEqDiff, ↓reduceIte]); rw [asgV_chk g1]; exact zS rfl (.tmp (bl rfl) rfl rfl (.tmp (bl rfl) rfl rfl (.tmp (bl rfl) rfl rfl .nil)))
 have hc1 := hc; have g1 : chkL l = 0 := (by simpa using hc1)
 refine zM ?_
 refine hK _ ?_; clear hK K
 refine zA fun K hK => zB ?_
 refine zF (zC rfl rfl) ?_
 refine zF (zX rfl rfl Tryz.underlying31 (by exact .inr (.inl ⟨_, rfl, rfl⟩))) ?_
 refine yD (op_makeMapU rfl rfl Tryz.underlying82 kd23) ?_; simp only [nA, Nat.reduceBEq, Nat.reduceEqDiff, ↓reduceIte]
 refine zF (zD rfl rfl) ?_
 refine zE (hK _ ?_); clear hK K; simp only [nA]
 refine zA fun K hK => ?_
 refine zA fun K hK => zB ?_
 refine zF (zC rfl rfl) ?_
 refine zF (zX rfl rfl Tryz.underlying31 (by exact .inr (.inl ⟨_, rfl, rfl⟩))) ?_
 refine zF (zC rfl rfl) ?_
 refine zE (hK _ ?_); clear hK K; simp only [nA, ↓reduceIte]
 refine zN ?_
 refine yC (fun (q : Nat × Nat) => [(0, .ro (l.map Container.av)), (2, .ro (bags.map Piece.av)), (4, .ptr 0 1 0 0), (10, .mp 1 2), (34, .ro (bags.map Piece.av)), (35, .v (.int .i64 (bags.length : Nat))), (36, .v (.int .i64 (q.1 : Nat)))]) (fun q => ⟨[(1, .own 25 [f.av]), (2, .om 82 ((seenP bags q.1).map plV))], q.2⟩) (fun q => q.1 ≤ bags.length ∧ ∀ j, j < q.1 → errB l bags j = 0) (fun q => bags.length - q.1) (0, _) ⟨by simp, fun j h => by dsimp only at h; omega⟩ ⟨rfl, rfl, rfl, rfl, rfl, (by dsimp only; simp; rfl), rfl, trivial⟩ rfl ?_; rintro ⟨i, ep⟩ ρ hI; dsimp only at hI ⊢; simp only [updL]
 refine zA fun K hK => zB ?_
 refine zF (yP rfl rfl rfl) ?_
 refine zE (hK _ ?_); clear hK K; try simp only [nA, Nat.reduceBEq, Nat.reduceEqDiff, ↓reduceIte, Nat.reduceAdd, Nat.reduceSub]
 refine zA fun K hK => ?_
 refine zL rfl rfl rfl (fun hc => ?_) (fun hc => ?_)
 ·
  have hc2 := hc; have hlt : i < bags.length := (by simpa using hc2)
  refine zM ?_
  refine hK _ ?_; clear hK K
  refine zA fun K hK => zN ?_
  refine zA fun K hK => zB ?_
  refine zF (zW i rfl (.inl rfl) rfl Tryz.underlying31 rfl (yF hlt) (by exact yR) (bl rfl)) ?_
  refine awR (zY rfl rfl ag35 yR (bl rfl) (by decide) rfl) ?_
  refine yD (op_alloc rfl ze35 rfl) ?_; simp only [nA, Nat.reduceBEq, Nat.reduceEqDiff, ↓reduceIte]
  refine yD (z8 rfl rfl rfl rfl rfl rfl yR rfl (bl rfl) rfl) ?_; simp only [nA, Nat.reduceBEq, Nat.reduceEqDiff, ↓reduceIte]
  refine zE (hK _ ?_); clear hK K
  refine zA fun K hK => ?_
  refine zA fun K hK => zB ?_
  refine awR (zK rfl rfl rfl rfl ag35 yR (bl rfl) rfl) ?_
  refine yD (OpQ.j (zT (b := true) rfl en41 (C41 (p := (bags.getD i default))) (RL.cons (by exact View.same rfl) (RL.nil)) rfl)) ?_; try simp only [nA, Nat.reduceBEq, Nat.reduceEqDiff, ↓reduceIte, Nat.reduceAdd, Nat.reduceSub]
  refine zF (op_not rfl rfl rfl) ?_
  refine zE (hK _ ?_); clear hK K; try simp only [nA, Nat.reduceBEq, Nat.reduceEqDiff, ↓reduceIte, Nat.reduceAdd, Nat.reduceSub]
  refine zL rfl rfl rfl (fun hc => ?_) (fun hc => ?_)
  ·
   have hc3 := hc; have g3 : piB (bags.getD i default) = false := (by simpa using hc3)
   refine zA fun K hK => zB ?_
   refine zF (zD rfl rfl) ?_
   refine zF (zD rfl rfl) ?_
   refine zF (zD rfl rfl) ?_
   refine zE (hK _ ?_); clear hK K; try simp only [nA, Nat.reduceBEq, Nat.reduceEqDiff, ↓reduceIte, Nat.reduceAdd, Nat.reduceSub]
   refine AW.gh (Gh.nil (e := 33) 6 (bl rfl) rfl yH) ?_; (simp only [nA, Nat.reduceBEq, Nat.reduceEqDiff, ↓reduceIte]); refine AW.gh (Gh.freeze 6 (bl rfl) rfl rfl (by simp) (es' := ([] : List Container).map Container.av) rfl) ?_; (try simp only [nA, Nat.reduceBEq, Nat.reduceEqDiff, ↓reduceIte, Nat.reduceAdd, Nat.reduceSub]); refine AW.gh (Gh.nil (e := 35) 7 (bl rfl) rfl yR) ?_; (simp only [nA, Nat.reduceBEq, Nat.reduceEqDiff, ↓reduceIte]); refine AW.gh (Gh.freeze 7 (bl rfl) rfl rfl (by simp) (es' := ([] : List Piece).map Piece.av) rfl) ?_; try simp only [nA, Nat.reduceBEq, Nat.reduceEqDiff, ↓reduceIte, Nat.reduceAdd, Nat.reduceSub]
   refine zO ?_; (try simp only [zI, zJ, Nat.reduceEqDiff, ↓reduceIte]); rw [asgV_err g1 (e := 1) (by rw [asgE_at hlt hI.2 (by rw [errB_1 g3]; decide), errB_1 g3]) (by decide)]; exact zS rfl (.tmp (bl rfl) rfl rfl (.tmp (bl rfl) rfl rfl (.tmp (bl rfl) rfl rfl .nil)))
  have hc3 := hc; have g3 : piB (bags.getD i default) = true := (by simpa using hc3); have hpr := pl_range (piB_inv g3).1
  refine zM ?_
  refine hK _ ?_; clear hK K
  refine zA fun K hK => zB ?_
  refine zF (zC rfl rfl) ?_
  refine zF (zH rfl rfl rfl fl35_0 (by exact sz23) (by decide) rfl) ?_
  refine awR (zK rfl rfl rfl rfl ag23 sz23 (bl rfl) rfl) ?_
  refine yD (op_call (b := false) rfl en42 (C42 (xs := l) (p := (bags.getD i default).plate) hs.len hs.p) (RL.cons (by exact View.same rfl) (RL.cons (by exact View.same rfl) (RL.nil))) rfl (fun h => by cases h) rfl rfl) ?_; simp only [nA, ↓reduceIte]
  refine zF (zC rfl rfl) ?_
  refine zF (z6 rfl rfl rfl) ?_
  refine zF (z6 rfl rfl rfl) ?_
  refine zF (zD rfl rfl) ?_
  refine zF (zD rfl rfl) ?_
  refine zE (hK _ ?_); clear hK K; simp only [nA, ↓reduceIte]
  refine zA fun K hK => ?_
  refine zA fun K hK => zB ?_
  refine zF (zC rfl rfl) ?_
  refine zF (zH rfl rfl rfl fl35_0 (by exact sz23) (by decide) rfl) ?_
  refine awR (zK rfl rfl rfl rfl ag23 sz23 (bl rfl) rfl) ?_
  refine awR (op_lookupU (r := 1) (b := decide ((bags.getD i default).plate ∈ seenP bags i)) (ks := (seenP bags i).map plV) (xs := [.int .i64 (bags.getD i default).plate.lead, .int .i64 (bags.getD i default).plate.airline, .int .i64 (bags.getD i default).plate.serial]) rfl rfl rfl rfl Tryz.underlying82 Tryz.underlying83 zf83 (key23 hpr.1 hpr.2.1 hpr.2.2) plV_mem) ?_; simp only [nA, ↓reduceIte]
  refine zF (zC rfl rfl) ?_
  refine zF (z6 rfl rfl rfl) ?_
  refine zF (z6 rfl rfl rfl) ?_
  refine yD (op_alloc rfl ze83 rfl) ?_; simp only [nA, Nat.reduceBEq, Nat.reduceEqDiff, ↓reduceIte]
  refine yD (z8 rfl rfl rfl rfl rfl rfl sz83 rfl (bl rfl) rfl) ?_; try simp only [nA, Nat.reduceBEq, Nat.reduceEqDiff, ↓reduceIte, Nat.reduceAdd, Nat.reduceSub]
  refine zF (zD rfl rfl) ?_
  refine zE (hK _ ?_); clear hK K; simp only [nA, ↓reduceIte]
  refine zA fun K hK => zB (yS ?_)
  refine zQ (zC rfl rfl) ?_
  refine zQ (zC rfl rfl) ?_
  refine' aqOr' [_] [59] rfl rfl rfl rfl rfl rfl rfl rfl rfl rfl rfl rfl (fun hb => ?_) ?_; rotate_left
  ·
   (try simp only [z7] at hb)
   refine zQ (zC rfl rfl) ?_
   (refine yL rfl rfl rfl ?_; repeat (first | exact fun _ _ => rfl | refine zU rfl ?_))
  simp only [nA, ↓reduceIte]
  refine yN (hK _ ?_); clear hK K
  refine zL rfl rfl rfl (fun hc => ?_) (fun hc => ?_)
  ·
   have hc4 := hc; have g4 : ((findL l (bags.getD i default).plate).2 || decide ((bags.getD i default).plate ∈ seenP bags i)) = true := hc4; rw [seen_mem] at g4
   refine zA fun K hK => zB ?_
   refine zF (zD rfl rfl) ?_
   refine zF (zD rfl rfl) ?_
   refine zF (zD rfl rfl) ?_
   refine zE (hK _ ?_); clear hK K; try simp only [nA, Nat.reduceBEq, Nat.reduceEqDiff, ↓reduceIte, Nat.reduceAdd, Nat.reduceSub]
   refine AW.gh (Gh.nil (e := 33) 6 (bl rfl) rfl yH) ?_; (simp only [nA, Nat.reduceBEq, Nat.reduceEqDiff, ↓reduceIte]); refine AW.gh (Gh.freeze 6 (bl rfl) rfl rfl (by simp) (es' := ([] : List Container).map Container.av) rfl) ?_; (try simp only [nA, Nat.reduceBEq, Nat.reduceEqDiff, ↓reduceIte, Nat.reduceAdd, Nat.reduceSub]); refine AW.gh (Gh.nil (e := 35) 7 (bl rfl) rfl yR) ?_; (simp only [nA, Nat.reduceBEq, Nat.reduceEqDiff, ↓reduceIte]); refine AW.gh (Gh.freeze 7 (bl rfl) rfl rfl (by simp) (es' := ([] : List Piece).map Piece.av) rfl) ?_; try simp only [nA, Nat.reduceBEq, Nat.reduceEqDiff, ↓reduceIte, Nat.reduceAdd, Nat.reduceSub]
   refine zO ?_; (try simp only [zI, zJ, Nat.reduceEqDiff, ↓reduceIte]); rw [asgV_err g1 (e := 5) (by rw [asgE_at hlt hI.2 (by rw [errB_5 g3 g4]; decide), errB_5 g3 g4]) (by decide)]; exact zS rfl (.tmp (bl rfl) rfl rfl (.tmp (bl rfl) rfl rfl (.tmp (bl rfl) rfl rfl .nil)))
  have hc4 := hc; have g4 : ((findL l (bags.getD i default).plate).2 || decide ((bags.getD i default).plate ∈ seenP bags i)) = false := hc4; rw [seen_mem] at g4
  refine zM ?_
  refine hK _ ?_; clear hK K
  refine zB ?_
  refine zF (zC rfl rfl) ?_
  refine zF (zH rfl rfl rfl fl35_0 (by exact sz23) (by decide) rfl) ?_
  refine awR (zK rfl rfl rfl rfl ag23 sz23 (bl rfl) rfl) ?_
  refine zF (op_build2 (xs := []) rfl pl83 ze83 [] rfl rfl rfl) ?_
  refine yD (op_mapUpdateU (r := 1) (ks := (seenP bags i).map plV) (xs := [.int .i64 (bags.getD i default).plate.lead, .int .i64 (bags.getD i default).plate.airline, .int .i64 (bags.getD i default).plate.serial]) rfl rfl rfl rfl rfl Tryz.underlying82 Tryz.underlying83 (key23 hpr.1 hpr.2.1 hpr.2.2) (by simp [seen_len hI.1, maxLen]; omega)) ?_; simp only [nA, Nat.reduceEqDiff, ↓reduceIte]
  refine zE ?_
  (try simp only [zI, zJ, Nat.reduceEqDiff, ↓reduceIte])
  refine hK _ ?_; clear hK K
  refine zB ?_
  refine zF (zR rfl rfl rfl (by omega)) ?_
  refine zF (zC rfl rfl) ?_
  refine AWL.gh (Gh.drop 2) ?_; simp only [nA]
  refine zE ?_
  refine ⟨(i + 1, _), ⟨by dsimp only; omega, fun j hj => ?_⟩, by dsimp only; omega, ⟨rfl, rfl, rfl, rfl, rfl, rfl, rfl, trivial⟩, (by dsimp only; rw [seen_succ hlt]; rfl), (by rfl)⟩; dsimp only at hj; rcases Nat.lt_or_ge j i with h | h <;> first | exact hI.2 j h | (obtain rfl : j = i := (by omega); exact errB_00 g3 g4)
 have hc2 := hc; obtain hil : i = bags.length := (by have : ¬ i < bags.length := (by simpa using hc2); omega); have hE : asgE l bags = 0 := asgE_no (fun j hj => hI.2 j (by omega)); have hD := asgE_dis hE; have hPi := asgE_pi hE; have hInv := InvO.of g1; have hO := ordV_len bags; have hlen := hInv.len
 refine yE ?_; try simp only [zI, zJ, Nat.reduceEqDiff, ↓reduceIte]
 clear hK K
 refine hK _ ?_; clear hK K
 refine zA fun K hK => zB ?_
 refine zF (zC rfl rfl) ?_
 refine yD (op_app_nil (rows := bags.map Piece.av) rfl rfl rfl .ro Tryz.underlying31 ze35 (by decide) (av_len _) (by simp; omega) (by decide) (n := bags.length) (by simp)) ?_; simp only [nA, Nat.reduceBEq, Nat.reduceEqDiff, ↓reduceIte]
 refine yD (op_alloc rfl ze31 rfl) ?_; simp only [nA, Nat.reduceBEq, Nat.reduceEqDiff, ↓reduceIte]
 refine yD (op_store_nest (r := 3) (q := 2) rfl rfl rfl rfl (row := [_]) rfl sz31 rfl (by decide) (by simp) (by simp) (es2 := [[.own 35 (bags.map Piece.av)]]) rfl) ?_; try simp only [nA, Nat.reduceBEq, Nat.reduceEqDiff, ↓reduceIte, Nat.reduceAdd, Nat.reduceSub]
 refine zE (hK _ ?_); clear hK K
 refine AW.ghE (GhE.unnest (r := 3) 0 0 rfl rfl rfl) fun u hu => ?_
 (try simp only [nA, Nat.reduceBEq, Nat.reduceEqDiff, ↓reduceIte, Nat.reduceAdd, Nat.reduceSub])
 refine AW.gh (Gh.freezeP 17 (bl rfl) rfl rfl (by simp [flatA])) ?_; try simp only [nA, Nat.reduceBEq, Nat.reduceEqDiff, ↓reduceIte, Nat.reduceAdd, Nat.reduceSub]
 refine zA fun K hK => zB ?_
 refine awR (yA rfl rfl ag31) ?_
 refine zF (op_mkiface rfl rfl (by kernel_rfl)) ?_
 refine zF (op_makeFunc rfl rfl rfl) ?_
 refine yD (op_callN (r := 4) rfl en47 (S34 (u := u) hb hD) (by exact rfl) (RL.cons (.base (.same (by exact rfl))) (RL.cons (.base (.same (by exact rfl))) RL.nil)) (by exact ⟨_, _, _, _, rfl, rfl⟩) (by exact rfl) (by exact rfl) (by exact rfl)) ?_; simp only [nA, ↓reduceIte]
 refine zE (hK _ ?_); clear hK K
 refine zA fun K hK => zB ?_
 refine zF (zC rfl rfl) ?_
 refine yD (op_call (b := false) rfl en50 (C50 (l := l) (by omega) (fun c hc => by have := (val_inv (hInv.val c hc)).2.1; omega)) (RL.cons (by exact View.same rfl) (RL.nil)) rfl (fun h => by cases h) rfl rfl) ?_; simp only [nA, Nat.reduceBEq, Nat.reduceEqDiff, ↓reduceIte]
 refine zF (zD rfl rfl) ?_
 refine zE (hK _ ?_); clear hK K; simp only [nA]
 refine zA fun K hK => zB ?_
 refine zF (zD rfl rfl) ?_
 refine zE (hK _ ?_); clear hK K; try simp only [nA, Nat.reduceBEq, Nat.reduceEqDiff, ↓reduceIte, Nat.reduceAdd, Nat.reduceSub]
 refine zA fun K hK => ?_
 refine zA fun K hK => zB ?_
 refine awR (yA rfl rfl ag31) ?_; (try simp only [nA, Nat.reduceBEq, Nat.reduceEqDiff, ↓reduceIte, Nat.reduceAdd, Nat.reduceSub]); refine AWL.gh (Gh.openN (r := 4) 74 (bl rfl) rfl rfl) ?_; (try simp only [nA, Nat.reduceBEq, Nat.reduceEqDiff, ↓reduceIte, Nat.reduceAdd, Nat.reduceSub]); refine AWL.gh (Gh.freeze 74 (bl rfl) rfl rfl (av_flatP _) (es' := (ordV bags).map Piece.av) (List.take_of_length_le (by simp))) ?_
 refine zF (zX rfl rfl Tryz.underlying31 (by exact .inr (.inl ⟨_, rfl, rfl⟩))) ?_
 refine zF (zC rfl rfl) ?_
 refine zE (hK _ ?_); clear hK K; try simp only [nA, Nat.reduceBEq, Nat.reduceEqDiff, ↓reduceIte, Nat.reduceAdd, Nat.reduceSub]
 refine zN ?_
 refine AW.gh (Gh.nil (e := 35) 19 (bl rfl) rfl yR) ?_; (simp only [nA, Nat.reduceBEq, Nat.reduceEqDiff, ↓reduceIte]); refine yC (fun (q : Nat × Nat × Nat) => [(4, .ptr 0 1 0 0), (18, .sl 5 (ep + 1 + 1 + 1) 0 (asgF f (l, []) ((ordV bags).take q.1)).1.length), (19, .sl 6 q.2.1 0 (asgF f (l, []) ((ordV bags).take q.1)).2.length), (74, .ro ((ordV bags).map Piece.av)), (75, .v (.int .i64 ((ordV bags).length : Nat))), (76, .v (.int .i64 (q.1 : Nat)))]) (fun q => ⟨[(1, .own 25 [f.av]), (2, .om 82 ((seenP bags i).map plV)), (ep, .any), (ep + 1, .any), (ep + 1 + 1 + 1 + 1, .any), (ep + 1 + 1 + 1, .own 33 ((asgF f (l, []) ((ordV bags).take q.1)).1.map Container.av)), (q.2.1, .own 35 ((asgF f (l, []) ((ordV bags).take q.1)).2.map Piece.av))], q.2.2⟩) (fun q => q.1 ≤ (ordV bags).length) (fun q => (ordV bags).length - q.1) (0, _, _) (by simp) ⟨rfl, rfl, rfl, rfl, rfl, rfl, trivial⟩ rfl ?_; clear hI hc2 hil; generalize seenP bags i = sn; rintro ⟨i, v, ep2⟩ ρ2 hI; dsimp only at hI ⊢; simp only [updL]
 refine zA fun K hK => zB ?_
 refine zF (yP rfl rfl rfl) ?_
 refine zE (hK _ ?_); clear hK K; try simp only [nA, Nat.reduceBEq, Nat.reduceEqDiff, ↓reduceIte, Nat.reduceAdd, Nat.reduceSub]
 refine zA fun K hK => ?_
 refine zL rfl rfl rfl (fun hc => ?_) (fun hc => ?_)
 ·
  have hc5 := hc; have hlt5 : i < (ordV bags).length := (by simpa using hc5); have hI2 : InvO (asgF f (l, []) ((ordV bags).take i)).1 := InvO.fold _ hInv; have hln := asgF_len (f := f) ((ordV bags).take i) (l, []); have hpi : piB ((ordV bags).getD i default) = true := (hPi _ ((ordV_perm bags).subset (getD_memP hlt5))).1; have hstp := asgF_take (f := f) (s := (l, [])) hlt5; rw [List.length_take, List.length_nil] at hln
  refine zM ?_
  refine hK _ ?_; clear hK K
  refine zA fun K hK => zN ?_
  refine zA fun K hK => zB ?_
  refine zF (zW i rfl (.inl rfl) rfl Tryz.underlying31 rfl (yF hlt5) (by exact yR) (bl rfl)) ?_
  refine awR (zY rfl rfl ag35 yR (bl rfl) (by decide) rfl) ?_
  refine yD (op_alloc rfl ze35 rfl) ?_; simp only [nA, Nat.reduceBEq, Nat.reduceEqDiff, ↓reduceIte]
  refine yD (z8 rfl rfl rfl rfl rfl rfl yR rfl (bl rfl) rfl) ?_; simp only [nA, Nat.reduceBEq, Nat.reduceEqDiff, ↓reduceIte]
  refine zE (hK _ ?_); clear hK K
  refine zA fun K hK => zB ?_
  refine zF (zC rfl rfl) ?_
  refine awR (zK rfl rfl rfl rfl ag25 sz25 (bl rfl) rfl) ?_
  refine awR (zK rfl rfl rfl rfl ag35 yR (bl rfl) rfl) ?_
  refine yD (op_call (b := true) rfl en43 (C43 (l := (asgF f (l, []) ((ordV bags).take i)).1) (f := f) (p := ((ordV bags).getD i default)) hI2.fit hpi) (RL.cons (View.src (.sl rfl (rowsC _))) (RL.cons (by exact View.same rfl) (RL.cons (by exact View.same rfl) RL.nil))) rfl (fun _ => sol2) rfl rfl) ?_; simp only [nA, ↓reduceIte]
  refine zF (zC rfl rfl) ?_
  refine zF (z6 rfl rfl rfl) ?_
  refine zF (z6 rfl rfl rfl) ?_
  refine zF (zD rfl rfl) ?_
  refine zF (zD rfl rfl) ?_
  refine zE (hK _ ?_); clear hK K; simp only [nA, ↓reduceIte]
  refine zA fun K hK => ?_
  refine zA fun K hK => zB ?_
  refine zF (zC rfl rfl) ?_
  refine zF (yP rfl rfl rfl) ?_
  refine zE (hK _ ?_); clear hK K; simp only [nA, ↓reduceIte]
  refine zL rfl rfl rfl (fun hc => ?_) (fun hc => ?_)
  ·
   have hc6 := hc; have g6 : bestV (asgF f (l, []) ((ordV bags).take i)).1 f ((ordV bags).getD i default) = none := (by cases hb : bestV (asgF f (l, []) ((ordV bags).take i)).1 f ((ordV bags).getD i default) with | none => rfl | some i => rw [hb] at hc6; exact absurd (of_decide_eq_true hc6) (by show ¬ ((i : Nat) : Int) < 0; omega)); rw [stepA_none g6] at hstp
   refine zA fun K hK => zB ?_
   refine zF (zC rfl rfl) ?_
   refine awR (zK rfl rfl rfl rfl ag35 yR (bl rfl) rfl) ?_
   refine yD (OpJ.frz (zV rfl [(0, (((ordV bags).getD i default)).av)] [(((ordV bags).getD i default)).av] Tryz.underlying31 ze35 rfl (by simp) rfl (by simp) rfl (bl rfl) (by simp [maxLen])) (by simp [flatA]) rfl) ?_; simp only [nA, ↓reduceIte]
   refine yD (op_app (r := 6) (rows := [(((ordV bags).getD i default)).av]) rfl rfl rfl rfl (by simp) .ro Tryz.underlying31 ze35 (by decide) (av_len [((ordV bags).getD i default)]) (by simp; omega) (by decide) (es' := ((asgF f (l, []) ((ordV bags).take i)).2 ++ [((ordV bags).getD i default)]).map Piece.av) (by simp) (n := ((asgF f (l, []) ((ordV bags).take i)).2 ++ [((ordV bags).getD i default)]).length) (by simp)) ?_; try simp only [nA, Nat.reduceBEq, Nat.reduceEqDiff, ↓reduceIte, Nat.reduceAdd, Nat.reduceSub]
   refine zF (zD rfl rfl) ?_
   refine zE (hK _ ?_); clear hK K; simp only [nA]
   refine yE ?_; try simp only [zI, zJ, Nat.reduceEqDiff, ↓reduceIte]
   clear hK K
   refine hK _ ?_; clear hK K
   refine zB ?_
   refine zF (zR rfl rfl rfl (by omega)) ?_
   refine zF (zC rfl rfl) ?_
   refine AWL.gh (Gh.drop 7) ?_; simp only [nA]
   refine zE ?_
   refine ⟨(i + 1, _, _), by dsimp only; omega, by dsimp only; omega, ⟨rfl, (by dsimp only; rw [hstp]; rfl), (by dsimp only; rw [hstp]; rfl), rfl, rfl, rfl, trivial⟩, (by dsimp only; rw [hstp]), (by rfl)⟩
  have hc6 := hc; obtain ⟨j, hbi⟩ : ∃ j, bestV (asgF f (l, []) ((ordV bags).take i)).1 f ((ordV bags).getD i default) = some j := (by cases hb : bestV (asgF f (l, []) ((ordV bags).take i)).1 f ((ordV bags).getD i default) with | some j => exact ⟨j, rfl⟩ | none => rw [hb] at hc6; exact absurd (of_decide_eq_false hc6) (by show ¬ ¬ (-1 : Int) < 0; decide)); obtain ⟨hjl, _, hadm⟩ := bestV_some hbi; rw [stepA_some hbi] at hstp; have hput := hadm.put; rw [hbi]; have h16 : Fn Tryz.prog 32 [] [.agg ((asgF f (l, []) ((ordV bags).take i)).1.getD j default).av, .agg ((ordV bags).getD i default).av] [.agg (insC ((asgF f (l, []) ((ordV bags).take i)).1.getD j default) ((ordV bags).getD i default)).av, .v (.int .i64 0)] [] := (by have h := C32 (c := ((asgF f (l, []) ((ordV bags).take i)).1.getD j default)) (p := ((ordV bags).getD i default)); rwa [hput] at h)
  refine zM ?_
  refine hK _ ?_; clear hK K
  refine zA fun K hK => ?_
  refine AW.ad [(5, ep + 1 + 1 + 1, .own 33 ((asgF f (l, []) ((ordV bags).take i)).1.map Container.av)), (7, ep2, .own 35 [(((ordV bags).getD i default)).av])] mix rfl ?_
  refine adP 0 rfl (fun T' ok => zC rfl rfl) (by exact ⟨rfl, rfl, trivial⟩) (by kernel_rfl) (by kernel_rfl) ?_
  refine adP 1 rfl (fun T' ok => zC rfl rfl) (by exact ⟨rfl, rfl, trivial⟩) (by kernel_rfl) (by kernel_rfl) ?_
  refine adP 2 rfl (fun T' ok => op_ia_sl j 11 rfl rfl rfl (by exact ok.1) Tryz.underlying42 rfl hjl (by exact yH) (Nat.zero_add _)) (by exact ⟨rfl, rfl, trivial⟩) (by kernel_rfl) (by kernel_rfl) ?_
  refine adR 3 rfl (fun T' ok => zK (row := (((asgF f (l, []) ((ordV bags).take i)).1.getD j default)).av) rfl rfl (by exact ok.1) (yF hjl) ag33 yH (bl rfl) rfl) (by exact ⟨rfl, rfl, trivial⟩) (by kernel_rfl) (by kernel_rfl) ?_
  (refine adR 4 rfl (fun T' ok => zK rfl rfl (by exact ok.2.1) rfl ag35 yR (bl rfl) rfl) (by exact ⟨rfl, rfl, trivial⟩) (by kernel_rfl) (by kernel_rfl) ?_)
  refine adF 5 rfl (fun T' ok => op_callS rfl en32 h16 (RL.cons (by exact View.same rfl) (RL.cons (by exact View.same rfl) (RL.nil))) rfl rfl rfl) (by exact ⟨rfl, rfl, trivial⟩) (by kernel_rfl) (by kernel_rfl) ?_; simp only [nA, Nat.reduceBEq, Nat.reduceEqDiff, ↓reduceIte]
  refine adP 6 rfl (fun T' ok => zC rfl rfl) (by exact ⟨rfl, rfl, trivial⟩) (by kernel_rfl) (by kernel_rfl) ?_
  refine adP 7 rfl (fun T' ok => z6 rfl rfl rfl) (by exact ⟨rfl, rfl, trivial⟩) (by kernel_rfl) (by kernel_rfl) ?_
  refine adP 8 rfl (fun T' ok => z6 rfl rfl rfl) (by exact ⟨rfl, rfl, trivial⟩) (by kernel_rfl) (by kernel_rfl) ?_
  refine adJ 9 rfl (op_alloc rfl ze33 rfl) (by kernel_rfl) (by exact ⟨rfl, rfl, trivial⟩) ?_; simp only [nA, Nat.reduceBEq, Nat.reduceEqDiff, ↓reduceIte]
  refine adJ 10 rfl (z8 rfl rfl rfl rfl rfl rfl yH rfl (bl rfl) rfl) (by kernel_rfl) (by exact ⟨rfl, rfl, trivial⟩) ?_; simp only [nA, Nat.reduceBEq, Nat.reduceEqDiff, ↓reduceIte]
  refine adP 11 rfl (fun T' ok => zD rfl rfl) (by exact ⟨rfl, rfl, trivial⟩) (by kernel_rfl) (by kernel_rfl) ?_
  refine adDone (by kernel_rfl) ?_
  refine hK _ ?_; clear hK K; simp only [nA, ↓reduceIte]
  refine zA fun K hK => zB ?_
  refine zF (zC rfl rfl) ?_
  refine zF (op_eql rfl rfl rfl) ?_
  refine zE (hK _ ?_); clear hK K; simp only [nA]
  refine zL rfl rfl rfl (fun hc => ?_) (fun hc => ?_)
  ·
   have hc7 := hc
   refine zB ?_
   refine zF (zC rfl rfl) ?_
   refine zF (zC rfl rfl) ?_
   refine awR (zK rfl rfl rfl rfl ag33 yH (bl rfl) rfl) ?_
   refine zF (op_ia_sl j 11 rfl rfl rfl rfl Tryz.underlying42 rfl hjl (by exact yH) (Nat.zero_add _)) ?_
   refine yD (z8 rfl rfl rfl rfl (yF hjl) rfl yH rfl (bl rfl) (es' := ((asgF f (l, []) ((ordV bags).take i)).1.set j (insC ((asgF f (l, []) ((ordV bags).take i)).1.getD j default) ((ordV bags).getD i default))).map Container.av) (set_C _ hjl)) ?_; simp only [nA, ↓reduceIte]
   refine zE ?_
   (try simp only [zI, zJ, Nat.reduceEqDiff, ↓reduceIte])
   refine hK _ ?_; clear hK K
   refine zB ?_
   refine zF (zR rfl rfl rfl (by omega)) ?_
   refine zF (zC rfl rfl) ?_
   refine AWL.gh (Gh.drop 7) ?_; simp only [nA]
   refine zE ?_
   refine ⟨(i + 1, _, _), by dsimp only; omega, by dsimp only; omega, ⟨rfl, (by dsimp only; rw [hstp, List.length_set]; rfl), (by dsimp only; rw [hstp]; rfl), rfl, rfl, rfl, trivial⟩, (by dsimp only; rw [hstp]), (by rfl)⟩
  (cases hc; done)
 have hc5 := hc; have hie : i = (ordV bags).length := (by have : ¬ i < (ordV bags).length := (by simpa using hc5); omega); rw [hie, List.take_length]
 refine yE ?_; try simp only [zI, zJ, Nat.reduceEqDiff, ↓reduceIte]
 clear hK K
 refine hK _ ?_; clear hK K
 refine zA fun K hK => zB ?_
 refine zF (zC rfl rfl) ?_
 refine zF (zC rfl rfl) ?_
 refine zF (zD rfl rfl) ?_
 refine zF (zD rfl rfl) ?_
 refine zF (zD rfl rfl) ?_
 refine zE (hK _ ?_); clear hK K; simp only [nA, ↓reduceIte]
 refine AW.gh (Gh.freeze 6 (bl rfl) rfl rfl (flatC _) (es' := (asgF f (l, []) (ordV bags)).1.map Container.av) (List.take_of_length_le (by simp))) ?_; (try simp only [nA, Nat.reduceBEq, Nat.reduceEqDiff, ↓reduceIte, Nat.reduceAdd, Nat.reduceSub]); refine AW.gh (Gh.freeze 7 (bl rfl) rfl rfl (av_flatP _) (es' := (asgF f (l, []) (ordV bags)).2.map Piece.av) (List.take_of_length_le (by simp))) ?_; try simp only [nA, Nat.reduceBEq, Nat.reduceEqDiff, ↓reduceIte, Nat.reduceAdd, Nat.reduceSub]
 refine zO ?_; (try simp only [zI, zJ, Nat.reduceEqDiff, ↓reduceIte]); rw [asgV_yes g1 hE]; exact zS rfl (.tmp (bl rfl) rfl rfl (.tmp (bl rfl) rfl rfl (.tmp (bl rfl) rfl rfl .nil)))
set_option maxRecDepth 100000
abbrev awBag : List AV := [.v (.int .i64 0), .v (.int .i64 0), .v (.int .i64 0), .v (.string ⟨#[]⟩), .v (.int .i64 0), .v (.string ⟨#[]⟩), .v (.int .i64 0), .v (.string ⟨#[]⟩), .v (.string ⟨#[]⟩), .v (.string ⟨#[]⟩), .v (.int .i64 0), .v (.string ⟨#[]⟩), .v (.int .i64 0), .v (.string ⟨#[]⟩), .v (.string ⟨#[]⟩), .v (.slice none 0 0), .v (.int .i64 0), .v (.int .i64 0), .v (.int .i64 0), .v (.bool false), .v (.string ⟨#[]⟩), .v (.string ⟨#[]⟩), .v (.int .i64 2), .v (.string ⟨#[]⟩), .v (.bool false)]
theorem C8 : Fn Tryz.prog 8 [] [.agg awBag] [.v (.int .i64 3)] [] := by
 refine Spec.body Tryz.func8 rfl Tryz.ntmps8 (by simp) rfl ?_; intro S0 own0 v0 w0
 refine zA fun K hK => zB ?_
 refine yD (yO rfl rfl rfl sz30 rfl) ?_; simp only [nA, Nat.reduceBEq, Nat.reduceEqDiff, ↓reduceIte]
 refine zF (zD rfl rfl) ?_; try simp only [nA, Nat.reduceBEq, Nat.reduceEqDiff, ↓reduceIte, Nat.reduceAdd, Nat.reduceSub]
 refine zE (hK _ ?_); clear hK K; try simp only [nA, Nat.reduceBEq, Nat.reduceEqDiff, ↓reduceIte, Nat.reduceAdd, Nat.reduceSub]
 refine zA fun K hK => zN ?_
 refine zA fun K hK => zB ?_
 (refine zF (zH rfl rfl rfl fl30_10 (by exact sz3) (by decide) rfl) ?_); try simp only [nA, Nat.reduceBEq, Nat.reduceEqDiff, ↓reduceIte, Nat.reduceAdd, Nat.reduceSub]
 (refine awR (zG rfl rfl rfl rfl ag3 rfl rfl) ?_); try simp only [nA, Nat.reduceBEq, Nat.reduceEqDiff, ↓reduceIte, Nat.reduceAdd, Nat.reduceSub]
 (refine zF (op_eql rfl rfl rfl) ?_); try simp only [nA, Nat.reduceBEq, Nat.reduceEqDiff, ↓reduceIte, Nat.reduceAdd, Nat.reduceSub]
 refine zF (zD rfl rfl) ?_; simp only [nA]
 refine zE (hK _ ?_); clear hK K
 refine zL rfl rfl rfl (fun hc => ?_) (fun hc => ?_)
 · (cases hc; done)
 (try simp only [z7] at hc); have hc1 := hc
 refine zA fun K hK => zB ?_
 (refine zF (zH rfl rfl rfl fl30_10 (by exact sz3) (by decide) rfl) ?_); try simp only [nA, Nat.reduceBEq, Nat.reduceEqDiff, ↓reduceIte, Nat.reduceAdd, Nat.reduceSub]
 (refine awR (zG rfl rfl rfl rfl ag3 rfl rfl) ?_); try simp only [nA, Nat.reduceBEq, Nat.reduceEqDiff, ↓reduceIte, Nat.reduceAdd, Nat.reduceSub]
 (refine zF (op_eql rfl rfl rfl) ?_); try simp only [nA, Nat.reduceBEq, Nat.reduceEqDiff, ↓reduceIte, Nat.reduceAdd, Nat.reduceSub]
 refine zF (zD rfl rfl) ?_; simp only [nA]
 refine zE (hK _ ?_); clear hK K
 refine zL rfl rfl rfl (fun hc => ?_) (fun hc => ?_)
 ·
  (try simp only [z7] at hc); have hc2 := hc
  refine zA fun K hK => zB ?_
  refine zF (zD rfl rfl) ?_; try simp only [nA, Nat.reduceBEq, Nat.reduceEqDiff, ↓reduceIte, Nat.reduceAdd, Nat.reduceSub]
  refine zE (hK _ ?_); clear hK K
  skip
  refine zO ?_; (try simp only [zI, zJ, Nat.reduceEqDiff, ↓reduceIte]); exact zS rfl (.tmp (bl rfl) rfl rfl .nil)
 (cases hc; done)
abbrev pairC (i : Nat) : Container := ⟨(i : Nat) + 1, flightN 0, 31, 100, 9, 0, if i = 0 then -10 else 10, []⟩
abbrev pairL (i : Nat) : List Container := (List.range i).map pairC
theorem nilC_le : ∀ (l : List Container), (∀ c ∈ l, c.pieces = []) → RL (Le2 Tryz.prog) (l.map nilC).flatten (l.map Container.av).flatten
 | [], _ => RL.nil
 | c :: l, h => by
   rw [List.map_cons, List.map_cons, List.flatten_cons, List.flatten_cons]
   refine RL.append ?_ (nilC_le l fun x hx => h x (by simp [hx]))
   have hc := h c (by simp)
   unfold nilC Container.av
   rw [hc]
   exact RL.cons .same (RL.cons .same (RL.cons .same (RL.cons .same (RL.cons .same (RL.cons .same (RL.cons .same (RL.cons .same (RL.cons .same (RL.cons .same (RL.cons .nil RL.nil))))))))))
theorem nilC_lens (l : List Container) : (l.map Container.av).map List.length = (l.map nilC).map List.length := by simp
theorem nilC_len (l : List Container) : ∀ x ∈ l.map nilC, x.length = 11 := fun x hx => by obtain ⟨c, _, rfl⟩ := List.mem_map.1 hx; rfl
theorem flat_nilC (c : Container) : ∀ r ∈ [nilC c], ∀ x ∈ r, flatA x = true := fun r hr x hx => by
 simp only [List.mem_cons, List.not_mem_nil, or_false] at hr
 subst hr
 simp only [nilC, Container.av, List.set, List.mem_cons, List.not_mem_nil, or_false] at hx
 rcases hx with rfl | rfl | rfl | rfl | rfl | rfl | rfl | rfl | rfl | rfl | rfl <;> rfl
theorem C34 : Fn Tryz.prog 34 [] [] [.ro ((pairL 2).map Container.av)] [] := by
 refine Spec.body Tryz.func34 rfl Tryz.ntmps34 (by simp) rfl ?_; intro S0 own0 v0 w0
 refine zA fun K hK => zB ?_
 refine zF (zD rfl rfl) ?_; try simp only [nA, Nat.reduceBEq, Nat.reduceEqDiff, ↓reduceIte, Nat.reduceAdd, Nat.reduceSub]
 refine zE (hK _ ?_); clear hK K; try simp only [nA, Nat.reduceBEq, Nat.reduceEqDiff, ↓reduceIte, Nat.reduceAdd, Nat.reduceSub]
 refine zA fun K hK => zB ?_
 refine zF (zD rfl rfl) ?_; try simp only [nA, Nat.reduceBEq, Nat.reduceEqDiff, ↓reduceIte, Nat.reduceAdd, Nat.reduceSub]
 refine zE (hK _ ?_); clear hK K
 refine zA fun K hK => ?_
 refine zA fun K hK => zB ?_
 refine yD (OpJ.frz (zV rfl [(0, iv (-10)), (1, iv 10)] [iv (-10), iv 10] Tryz.underlying36 ze3 rfl (by simp) rfl (by simp) rfl (bl rfl) (by simp [maxLen])) (by simp [flatA]) rfl) ?_; try simp only [nA, Nat.reduceBEq, Nat.reduceEqDiff, ↓reduceIte, Nat.reduceAdd, Nat.reduceSub]
 refine zF (zX (n := 2) rfl rfl Tryz.underlying36 (.inr (.inl ⟨_, rfl, rfl⟩))) ?_; try simp only [nA, Nat.reduceBEq, Nat.reduceEqDiff, ↓reduceIte, Nat.reduceAdd, Nat.reduceSub]
 refine zF (zC rfl rfl) ?_; try simp only [nA, Nat.reduceBEq, Nat.reduceEqDiff, ↓reduceIte, Nat.reduceAdd, Nat.reduceSub]
 refine zE (hK _ ?_); clear hK K
 refine zN ?_
 refine AW.gh (Gh.nil (e := 33) 1 (bl rfl) rfl yH) ?_; (simp only [nA, Nat.reduceBEq, Nat.reduceEqDiff, ↓reduceIte]); refine yC (fun (q : Nat × Nat × Nat) => [(1, .sl 0 q.2.1 0 q.1), (4, .ro [iv (-10), iv 10]), (5, .v (.int .i64 2)), (6, .v (.int .i64 (q.1 : Nat)))]) (fun q => ⟨[(q.2.1, .own 33 ((pairL q.1).map nilC))], q.2.2⟩) (fun q => q.1 ≤ 2) (fun q => 2 - q.1) (0, _, _) (by simp) ⟨rfl, rfl, rfl, rfl, trivial⟩ rfl ?_; rintro ⟨i, v, ep⟩ ρ hI; dsimp only at hI ⊢; simp only [updL]
 refine zA fun K hK => zB ?_
 refine zF (yP rfl rfl rfl) ?_; try simp only [nA, Nat.reduceBEq, Nat.reduceEqDiff, ↓reduceIte, Nat.reduceAdd, Nat.reduceSub]
 refine zE (hK _ ?_); clear hK K
 refine zA fun K hK => ?_
 refine zL rfl rfl rfl (fun hc => ?_) (fun hc => ?_)
 ·
  (try simp only [z7] at hc); have hc1 := hc; have hlt : i < 2 := (by omega); have hrow : [iv (-10), iv 10][i]? = some (iv (if i = 0 then -10 else 10)) := (by rcases (by omega : i = 0 ∨ i = 1) with rfl | rfl <;> rfl)
  refine zM ?_
  refine hK _ ?_; clear hK K
  refine zA fun K hK => zN ?_
  refine zA fun K hK => zB ?_
  refine zF (zC rfl rfl) ?_; simp only [nA, ↓reduceIte]
  refine zF (zW i rfl (.inl rfl) rfl Tryz.underlying36 rfl hrow (by exact sz3) (bl rfl)) ?_; try simp only [nA, Nat.reduceBEq, Nat.reduceEqDiff, ↓reduceIte, Nat.reduceAdd, Nat.reduceSub]
  (refine awR (yA rfl rfl ag3) ?_); try simp only [nA, Nat.reduceBEq, Nat.reduceEqDiff, ↓reduceIte, Nat.reduceAdd, Nat.reduceSub]
  refine zF (zD rfl rfl) ?_; simp only [nA, ↓reduceIte]
  refine zF (zD rfl rfl) ?_; simp only [nA, ↓reduceIte]
  refine zE (hK _ ?_); clear hK K
  refine zB ?_
  refine zF (zC rfl rfl) ?_; simp only [nA, ↓reduceIte]
  refine zF (zC rfl rfl) ?_; simp only [nA, ↓reduceIte]
  (refine zF (zR rfl rfl rfl (by omega)) ?_); try simp only [nA, Nat.reduceBEq, Nat.reduceEqDiff, ↓reduceIte, Nat.reduceAdd, Nat.reduceSub]
  refine yD (op_call (b := false) rfl en17 C17_0 (RL.cons (by exact View.same rfl) (RL.nil)) rfl (fun h => by cases h) rfl rfl) ?_; try simp only [nA, Nat.reduceBEq, Nat.reduceEqDiff, ↓reduceIte, Nat.reduceAdd, Nat.reduceSub]
  refine zF (zC rfl rfl) ?_; simp only [nA, ↓reduceIte]
  refine zF (op_build2 (xs := [_, _, _, _, _, _, _, _, .v (.int .i64 0), _, .v (.slice none 0 0)]) rfl pl33 ze33 [(0, [_]), (1, [_, _, _, _]), (2, [_]), (3, [_]), (4, [_]), (6, [_])] rfl rfl rfl) ?_; simp only [nA, ↓reduceIte]
  refine yD (OpJ.frz (zV rfl [(0, nilC (pairC i))] [nilC (pairC i)] Tryz.underlying42 ze33 rfl (by simp) rfl (by simp) rfl (bl rfl) (by simp [maxLen])) (flat_nilC _) rfl) ?_; try simp only [nA, Nat.reduceBEq, Nat.reduceEqDiff, ↓reduceIte, Nat.reduceAdd, Nat.reduceSub]
  refine yD (op_app (r := 0) (rows := [nilC (pairC i)]) rfl rfl rfl rfl (by simp) .ro Tryz.underlying42 ze33 (by decide) (nilC_len [pairC i]) (by simp; omega) (by decide) (es' := (pairL (i + 1)).map nilC) (by unfold pairL; rw [List.range_succ, List.map_append, List.map_append]; rfl) (n := i + 1) (by simp)) ?_; try simp only [nA, Nat.reduceBEq, Nat.reduceEqDiff, ↓reduceIte, Nat.reduceAdd, Nat.reduceSub]
  refine zF (zD rfl rfl) ?_; simp only [nA]
  refine zE ?_
  (try simp only [zI, zJ, Nat.reduceEqDiff, ↓reduceIte])
  refine hK _ ?_; clear hK K
  refine zB ?_
  (refine zF (zR rfl rfl rfl (by omega)) ?_); try simp only [nA, Nat.reduceBEq, Nat.reduceEqDiff, ↓reduceIte, Nat.reduceAdd, Nat.reduceSub]
  refine zF (zC rfl rfl) ?_; simp only [nA]
  refine AWL.gh (Gh.drop 1) ?_; try simp only [nA, Nat.reduceBEq, Nat.reduceEqDiff, ↓reduceIte, Nat.reduceAdd, Nat.reduceSub]
  refine zE ?_
  refine ⟨(i + 1, _, _), by dsimp only; omega, by dsimp only; omega, ⟨rfl, rfl, rfl, rfl, trivial⟩, (by rfl), (by rfl)⟩
 (try simp only [z7] at hc); have hc1 := hc; obtain rfl : i = 2 := (by omega)
 refine yE ?_; try simp only [zI, zJ, Nat.reduceEqDiff, ↓reduceIte]
 clear hK K
 refine hK _ ?_; clear hK K
 refine zA fun K hK => zB ?_
 refine zF (zC rfl rfl) ?_; simp only [nA, ↓reduceIte]
 refine zF (zD rfl rfl) ?_; simp only [nA]
 refine zE (hK _ ?_); clear hK K
 refine AW.gh (Gh.slot2 (r := 0) (es' := (pairL 2).map Container.av) rfl (nilC_lens _) (nilC_le _ (fun c hc => by obtain ⟨k, _, rfl⟩ := List.mem_map.1 hc; rfl))) ?_; (try simp only [nA, Nat.reduceBEq, Nat.reduceEqDiff, ↓reduceIte, Nat.reduceAdd, Nat.reduceSub]); refine AW.gh (Gh.freeze 0 (bl rfl) rfl rfl (flatC _) (es' := (pairL 2).map Container.av) rfl) ?_; try simp only [nA, Nat.reduceBEq, Nat.reduceEqDiff, ↓reduceIte, Nat.reduceAdd, Nat.reduceSub]
 refine zO ?_; (try simp only [zI, zJ, Nat.reduceEqDiff, ↓reduceIte]); exact zS rfl (.tmp (bl rfl) rfl rfl .nil)
abbrev awB1 : Piece := ⟨yT 1, 15, 0⟩
abbrev awB2 : Piece := ⟨yT 2, 20, 0⟩
abbrev awB3 : Piece := ⟨yT 1, 20, 0⟩
abbrev awOut : List Container := [⟨1, flightN 0, 31, 100, 9, 0, -10, [awB2]⟩, ⟨2, flightN 0, 31, 100, 9, 0, 10, [awB1]⟩]
theorem aw_asg : asgV (pairL 2) (flightN 0) [awB1, awB2] = (awOut, [], 0) := by kernel_rfl
theorem aw_cho : choV (pairL 2) (flightN 0) awB3 = (1, 0) := by kernel_rfl
theorem aw_mom : momV awOut (flightN 0) = -50 := by kernel_rfl
theorem aw_sml : Sml (pairL 2) := ⟨by simp, fun c hc => by obtain ⟨k, _, rfl⟩ := List.mem_map.1 hc; exact Nat.zero_le _⟩
theorem aw_sml2 : Sml awOut := ⟨by simp, fun c hc => by
 simp only [List.mem_cons, List.not_mem_nil, or_false] at hc
 rcases hc with rfl | rfl <;> decide⟩
theorem awC12 : Fn Tryz.prog 24 [] [.ro ((pairL 2).map Container.av), .agg (flightN 0).av, .ro ([awB1, awB2].map Piece.av)] [.ro (awOut.map Container.av), .ro ([] : List (List AV)), .v (.int .i64 0)] [] := by
 have h := C24 (l := pairL 2) (f := flightN 0) (bags := [awB1, awB2]) aw_sml (by decide)
 rw [aw_asg] at h
 exact h
theorem awC15 : Fn Tryz.prog 21 [] [.ro ((pairL 2).map Container.av), .agg (flightN 0).av, .agg awB3.av] [.v (.int .i64 1), .v (.int .i64 0)] [] := by
 have h := C21 (l := pairL 2) (f := flightN 0) (p := awB3) aw_sml
 rw [aw_cho] at h
 exact h
theorem awC29 : Fn Tryz.prog 19 [] [.ro (awOut.map Container.av), .agg (flightN 0).av] [.v (.int .i64 (-50))] [] := by
 have h := C19 (l := awOut) (f := flightN 0) aw_sml2
 rw [aw_mom] at h
 exact h
set_option maxRecDepth 100000
theorem pl30 : plIs Tryz.prog 30 [(0, 3), (3, 6), (9, 6), (15, 1), (16, 1), (17, 1), (18, 1), (19, 1), (20, 1), (21, 1), (22, 1), (23, 1), (24, 1)] := ⟨_, Tryz.underlying30, by kernel_rfl⟩
theorem C14 : Fn Tryz.prog 14 [] [] [.v (.bool true)] [] := by
 refine Spec.body Tryz.func14 rfl Tryz.ntmps14 (by simp) rfl ?_; intro S0 own0 v0 w0
 refine zA fun K hK => zB ?_
 refine zF (zD rfl rfl) ?_
 refine zE (hK _ ?_); clear hK K; try simp only [nA, Nat.reduceBEq, Nat.reduceEqDiff, ↓reduceIte, Nat.reduceAdd, Nat.reduceSub]
 refine zA fun K hK => zB ?_
 refine yD (op_call (b := false) rfl en17 C17_0 (RL.cons (by exact View.same rfl) (RL.nil)) rfl (fun h => by cases h) rfl rfl) ?_; try simp only [nA, Nat.reduceBEq, Nat.reduceEqDiff, ↓reduceIte, Nat.reduceAdd, Nat.reduceSub]
 refine yD (op_alloc rfl ze25 rfl) ?_; simp only [nA, Nat.reduceBEq, Nat.reduceEqDiff, ↓reduceIte]
 refine yD (z8 rfl rfl rfl rfl rfl rfl sz25 rfl (bl rfl) rfl) ?_; simp only [nA, Nat.reduceBEq, Nat.reduceEqDiff, ↓reduceIte]
 refine zE (hK _ ?_); clear hK K
 refine zA fun K hK => ?_
 refine AW.ad [(0, 1, .own 25 [(flightN 0).av])] mix rfl ?_
 (refine adR 1 rfl (fun T' ok => zK rfl rfl (by exact ok.1) rfl ag25 sz25 (bl rfl) rfl) (by exact ⟨rfl, trivial⟩) (by kernel_rfl) (by kernel_rfl) ?_)
 refine adF 0 rfl (fun T' ok => op_callS rfl en34 (C34) (RL.nil) rfl rfl rfl) (by exact ⟨rfl, trivial⟩) (by kernel_rfl) (by kernel_rfl) ?_; simp only [nA, Nat.reduceBEq, Nat.reduceEqDiff, ↓reduceIte]
 refine adF 2 rfl (fun T' ok => op_callS rfl en30 (C30 (i := 1)) (RL.cons (by exact View.same rfl) (RL.nil)) rfl rfl rfl) (by exact ⟨rfl, trivial⟩) (by kernel_rfl) (by kernel_rfl) ?_; try simp only [nA, Nat.reduceBEq, Nat.reduceEqDiff, ↓reduceIte, Nat.reduceAdd, Nat.reduceSub]
 refine adP 3 rfl (fun T' ok => op_build2 (xs := [_, _, _, _, .v (.int .i64 0)]) rfl pl35 ze35 [(0, [_, _, _]), (1, [_])] rfl rfl rfl) (by exact ⟨rfl, trivial⟩) (by kernel_rfl) (by kernel_rfl) ?_
 refine adF 4 rfl (fun T' ok => op_callS rfl en30 (C30 (i := 2)) (RL.cons (by exact View.same rfl) (RL.nil)) rfl rfl rfl) (by exact ⟨rfl, trivial⟩) (by kernel_rfl) (by kernel_rfl) ?_; try simp only [nA, Nat.reduceBEq, Nat.reduceEqDiff, ↓reduceIte, Nat.reduceAdd, Nat.reduceSub]
 refine adP 5 rfl (fun T' ok => op_build2 (xs := [_, _, _, _, .v (.int .i64 0)]) rfl pl35 ze35 [(0, [_, _, _]), (1, [_])] rfl rfl rfl) (by exact ⟨rfl, trivial⟩) (by kernel_rfl) (by kernel_rfl) ?_
 refine adF 6 rfl (fun T' ok => OpJ.frz (zV rfl [(0, awB1.av), (1, awB2.av)] [awB1.av, awB2.av] Tryz.underlying31 ze35 rfl (by simp) rfl (by simp) rfl (bl rfl) (by simp [maxLen])) (av_flatP [awB1, awB2]) rfl) (by exact ⟨rfl, trivial⟩) (by kernel_rfl) (by kernel_rfl) ?_; try simp only [nA, Nat.reduceBEq, Nat.reduceEqDiff, ↓reduceIte, Nat.reduceAdd, Nat.reduceSub]
 refine adF 7 rfl (fun T' ok => op_callS rfl en24 awC12 (RL.cons (by exact View.same rfl) (RL.cons (by exact View.same rfl) (RL.cons (by exact View.same rfl) (RL.nil)))) rfl rfl rfl) (by exact ⟨rfl, trivial⟩) (by kernel_rfl) (by kernel_rfl) ?_; try simp only [nA, Nat.reduceBEq, Nat.reduceEqDiff, ↓reduceIte, Nat.reduceAdd, Nat.reduceSub]
 refine adP 8 rfl (fun T' ok => zC rfl rfl) (by exact ⟨rfl, trivial⟩) (by kernel_rfl) (by kernel_rfl) ?_
 refine adP 9 rfl (fun T' ok => z6 rfl rfl rfl) (by exact ⟨rfl, trivial⟩) (by kernel_rfl) (by kernel_rfl) ?_
 refine adP 10 rfl (fun T' ok => z6 rfl rfl rfl) (by exact ⟨rfl, trivial⟩) (by kernel_rfl) (by kernel_rfl) ?_
 refine adP 11 rfl (fun T' ok => z6 rfl rfl rfl) (by exact ⟨rfl, trivial⟩) (by kernel_rfl) (by kernel_rfl) ?_
 refine adP 12 rfl (fun T' ok => zD rfl rfl) (by exact ⟨rfl, trivial⟩) (by kernel_rfl) (by kernel_rfl) ?_
 refine adP 13 rfl (fun T' ok => zD rfl rfl) (by exact ⟨rfl, trivial⟩) (by kernel_rfl) (by kernel_rfl) ?_
 refine adP 14 rfl (fun T' ok => zD rfl rfl) (by exact ⟨rfl, trivial⟩) (by kernel_rfl) (by kernel_rfl) ?_
 refine adDone (by kernel_rfl) ?_
 refine hK _ ?_; clear hK K; simp only [nA, ↓reduceIte]
 refine zA fun K hK => ?_
 refine AW.ad [(0, 1, .own 25 [(flightN 0).av])] mix rfl ?_
 (refine adR 1 rfl (fun T' ok => zK rfl rfl (by exact ok.1) rfl ag25 sz25 (bl rfl) rfl) (by exact ⟨rfl, trivial⟩) (by kernel_rfl) (by kernel_rfl) ?_)
 refine adF 0 rfl (fun T' ok => op_callS rfl en34 (C34) (RL.nil) rfl rfl rfl) (by exact ⟨rfl, trivial⟩) (by kernel_rfl) (by kernel_rfl) ?_; simp only [nA, Nat.reduceBEq, Nat.reduceEqDiff, ↓reduceIte]
 refine adF 2 rfl (fun T' ok => op_callS rfl en30 (C30 (i := 1)) (RL.cons (by exact View.same rfl) (RL.nil)) rfl rfl rfl) (by exact ⟨rfl, trivial⟩) (by kernel_rfl) (by kernel_rfl) ?_; try simp only [nA, Nat.reduceBEq, Nat.reduceEqDiff, ↓reduceIte, Nat.reduceAdd, Nat.reduceSub]
 refine adP 3 rfl (fun T' ok => op_build2 (xs := [_, _, _, _, .v (.int .i64 0)]) rfl pl35 ze35 [(0, [_, _, _]), (1, [_])] rfl rfl rfl) (by exact ⟨rfl, trivial⟩) (by kernel_rfl) (by kernel_rfl) ?_
 refine adF 4 rfl (fun T' ok => op_callS rfl en21 awC15 (RL.cons (by exact View.same rfl) (RL.cons (by exact View.same rfl) (RL.cons (by exact View.same rfl) (RL.nil)))) rfl rfl rfl) (by exact ⟨rfl, trivial⟩) (by kernel_rfl) (by kernel_rfl) ?_; try simp only [nA, Nat.reduceBEq, Nat.reduceEqDiff, ↓reduceIte, Nat.reduceAdd, Nat.reduceSub]
 refine adP 5 rfl (fun T' ok => zC rfl rfl) (by exact ⟨rfl, trivial⟩) (by kernel_rfl) (by kernel_rfl) ?_
 refine adP 6 rfl (fun T' ok => z6 rfl rfl rfl) (by exact ⟨rfl, trivial⟩) (by kernel_rfl) (by kernel_rfl) ?_
 refine adP 7 rfl (fun T' ok => z6 rfl rfl rfl) (by exact ⟨rfl, trivial⟩) (by kernel_rfl) (by kernel_rfl) ?_
 refine adP 8 rfl (fun T' ok => zD rfl rfl) (by exact ⟨rfl, trivial⟩) (by kernel_rfl) (by kernel_rfl) ?_
 refine adP 9 rfl (fun T' ok => zD rfl rfl) (by exact ⟨rfl, trivial⟩) (by kernel_rfl) (by kernel_rfl) ?_
 refine adDone (by kernel_rfl) ?_
 refine hK _ ?_; clear hK K; simp only [nA, ↓reduceIte]
 refine zA fun K hK => zB (yS ?_)
 refine zQ (zC rfl rfl) ?_
 refine zQ (op_eql rfl rfl rfl) ?_
 refine zQ (zC rfl rfl) ?_
 refine' yK [_, _, _] [31,32,33] rfl rfl rfl rfl rfl rfl rfl rfl rfl rfl rfl rfl (fun hb => ?_) ?_; rotate_left
 ·
  (try simp only [z7] at hb)
  refine zQ (zC rfl rfl) ?_
  refine zQ (zX rfl rfl Tryz.underlying31 (by exact .inr (.inl ⟨_, rfl, rfl⟩))) ?_
  refine zQ (op_eql rfl rfl rfl) ?_
  (refine yL rfl rfl rfl ?_; repeat (first | exact fun _ _ => rfl | refine zU rfl ?_))
 simp only [nA, ↓reduceIte]
 refine zQ (zC rfl rfl) ?_
 refine' yK [_, _, _] [36,37,38] rfl rfl rfl rfl rfl rfl rfl rfl rfl rfl rfl rfl (fun hb => ?_) ?_; rotate_left
 ·
  (try simp only [z7] at hb)
  refine zQ (zC rfl rfl) ?_
  refine zQ (zX rfl rfl Tryz.underlying42 (by exact .inr (.inl ⟨_, rfl, rfl⟩))) ?_
  refine zQ (op_eql rfl rfl rfl) ?_
  (refine yL rfl rfl rfl ?_; repeat (first | exact fun _ _ => rfl | refine zU rfl ?_))
 simp only [nA, Nat.reduceBEq, Nat.reduceEqDiff, ↓reduceIte]
 refine zQ (zC rfl rfl) ?_
 refine' yK [_, _, _, _, _, _] [41,42,43,44,45,46] rfl rfl rfl rfl rfl rfl rfl rfl rfl rfl rfl rfl (fun hb => ?_) ?_; rotate_left
 ·
  (try simp only [z7] at hb)
  refine zQ (zC rfl rfl) ?_
  refine zQ (zW (es := awOut.map Container.av) 0 rfl (.inl rfl) rfl Tryz.underlying42 rfl rfl (by exact yH) (bl rfl)) ?_
  refine zQ (yM rfl rfl fl33_7 (by exact sz31) (by decide) (bl rfl) rfl) ?_
  refine aqR (yA rfl rfl ag31) ?_
  refine zQ (zX rfl rfl Tryz.underlying31 (by exact .inr (.inl ⟨_, rfl, rfl⟩))) ?_
  refine zQ (op_eql rfl rfl rfl) ?_
  (refine yL rfl rfl rfl ?_; repeat (first | exact fun _ _ => rfl | refine zU rfl ?_))
 simp only [nA]
 refine zQ (zC rfl rfl) ?_
 refine' yK [_, _, _, _, _, _, _, _] [49,50,51,52,53,54,55,56] rfl rfl rfl rfl rfl rfl rfl rfl rfl rfl rfl rfl (fun hb => ?_) ?_; rotate_left
 ·
  (try simp only [z7] at hb)
  refine zQ (zC rfl rfl) ?_
  refine zQ (zW (es := awOut.map Container.av) 0 rfl (.inl rfl) rfl Tryz.underlying42 rfl rfl (by exact yH) (bl rfl)) ?_
  refine zQ (yM rfl rfl fl33_7 (by exact sz31) (by decide) (bl rfl) rfl) ?_
  refine aqR (yA rfl rfl ag31) ?_
  refine zQ (zW (es := [awB2.av]) 0 rfl (.inl rfl) rfl Tryz.underlying31 rfl rfl (by exact yR) (bl rfl)) ?_
  refine zQ (yM rfl rfl fl35_1 (by exact sz3) (by decide) (bl rfl) rfl) ?_
  refine aqR (yA rfl rfl ag3) ?_
  refine zQ (op_eql rfl rfl rfl) ?_
  (refine yL rfl rfl rfl ?_; repeat (first | exact fun _ _ => rfl | refine zU rfl ?_))
 simp only [nA]
 refine zQ (zC rfl rfl) ?_
 refine' yK [_, _, _, _] [59,60,61,62] rfl rfl rfl rfl rfl rfl rfl rfl rfl rfl rfl rfl (fun hb => ?_) ?_; rotate_left
 ·
  (try simp only [z7] at hb)
  refine zQ (zC rfl rfl) ?_
  refine aqR (zK rfl rfl rfl rfl ag25 sz25 (bl rfl) rfl) ?_
  refine aqQ (zT (b := true) rfl en19 awC29 (RL.cons (by exact View.same rfl) (RL.cons (by exact View.same rfl) (RL.nil))) rfl) ?_; simp only [nA, Nat.reduceEqDiff, ↓reduceIte]
  refine zQ (op_eql rfl rfl rfl) ?_
  (refine yL rfl rfl rfl ?_; repeat (first | exact fun _ _ => rfl | refine zU rfl ?_))
 simp only [nA]
 refine zQ (zC rfl rfl) ?_
 refine' yK [_, _] [65,66] rfl rfl rfl rfl rfl rfl rfl rfl rfl rfl rfl rfl (fun hb => ?_) ?_; rotate_left
 ·
  (try simp only [z7] at hb)
  refine zQ (zC rfl rfl) ?_
  refine zQ (op_eql rfl rfl rfl) ?_
  (refine yL rfl rfl rfl ?_; repeat (first | exact fun _ _ => rfl | refine zU rfl ?_))
 simp only [nA]
 refine zQ (zC rfl rfl) ?_
 refine' yK [_, _] [69,70] rfl rfl rfl rfl rfl rfl rfl rfl rfl rfl rfl rfl (fun hb => ?_) ?_; rotate_left
 ·
  (try simp only [z7] at hb)
  refine zQ (zC rfl rfl) ?_
  refine zQ (op_eql rfl rfl rfl) ?_
  (refine yL rfl rfl rfl ?_; repeat (first | exact fun _ _ => rfl | refine zU rfl ?_))
 simp only [nA]
 refine zQ (zC rfl rfl) ?_
 refine' yK [_, _, _] [73,74,75] rfl rfl rfl rfl rfl rfl rfl rfl rfl rfl rfl rfl (fun hb => ?_) ?_; rotate_left
 ·
  (try simp only [z7] at hb)
  refine zQ (op_build2 (xs := [.v (.int .i64 0), .v (.int .i64 0), .v (.int .i64 0), .v (.string ⟨#[]⟩), .v (.int .i64 0), .v (.string ⟨#[]⟩), .v (.int .i64 0), .v (.string ⟨#[]⟩), .v (.string ⟨#[]⟩), .v (.string ⟨#[]⟩), .v (.int .i64 0), .v (.string ⟨#[]⟩), .v (.int .i64 0), .v (.string ⟨#[]⟩), .v (.string ⟨#[]⟩), .v (.slice none 0 0), .v (.int .i64 0), .v (.int .i64 0), .v (.int .i64 0), .v (.bool false), .v (.string ⟨#[]⟩), .v (.string ⟨#[]⟩), _, .v (.string ⟨#[]⟩), .v (.bool false)]) rfl pl30 ze30 [(10, [_])] rfl rfl rfl) ?_
  refine aqQ (zT (b := true) rfl en8 (C8) (RL.cons (by exact View.same rfl) (RL.nil)) rfl) ?_; simp only [nA]
  refine zQ (op_eql rfl rfl rfl) ?_
  (refine yL rfl rfl rfl ?_; repeat (first | exact fun _ _ => rfl | refine zU rfl ?_))
 simp only [nA]
 refine zQ (zD rfl rfl) ?_
 refine yN (hK _ ?_); clear hK K; simp only [nA]
 skip
 refine zO ?_; (try simp only [zI, zJ, Nat.reduceEqDiff, ↓reduceIte]); exact zS rfl (.tmp (bl rfl) rfl rfl .nil)
set_option maxRecDepth 100000
theorem pos_first {l : List Piece} {p : Plate} {k : Nat} (hk : k ≤ l.length) (h1 : ∀ j, j < k → cmpP (l.getD j default).plate p < 0) (h2 : ¬ (k < l.length ∧ cmpP (l.getD k default).plate p < 0)) : posP l p = k := by
 unfold posP
 have e : l.takeWhile (fun x => decide (cmpP x.plate p < 0)) = l.take k := by
   conv => lhs; rw [← List.take_append_drop k l]
   rw [List.takeWhile_append_of_pos]
   · have : (l.drop k).takeWhile (fun x => decide (cmpP x.plate p < 0)) = [] := by
       rcases Nat.lt_or_ge k l.length with h | h
       · rw [List.drop_eq_getElem_cons h, List.takeWhile_cons_of_neg]
         have e : l.getD k default = l[k] := by rw [List.getD_eq_getElem?_getD, List.getElem?_eq_getElem h]; rfl
         rw [e] at h2
         simpa using fun hlt => h2 ⟨h, hlt⟩
       rw [List.drop_eq_nil_of_le h]; rfl
     rw [this, List.append_nil]
   intro x hx
   obtain ⟨i, hi, rfl⟩ := List.getElem_of_mem hx
   simp at hi
   have := h1 i (by omega)
   rw [List.getD_eq_getElem?_getD, List.getElem?_eq_getElem (by omega)] at this
   simpa using this
 rw [e]; simp; omega
theorem C59 {c : Container} {p : Piece} (hcl : c.pieces.length ≤ 1000) : Fn Tryz.prog 59 [] [.agg c.av, .agg p.av] [.agg (insC c p).av] [] := by
 refine Spec.body Tryz.func59 rfl Tryz.ntmps59 (by simp) rfl ?_; intro S0 own0 v0 w0
 refine zA fun K hK => zB ?_
 refine yD (yO rfl rfl rfl yH rfl) ?_; simp only [nA, Nat.reduceBEq, Nat.reduceEqDiff, ↓reduceIte]
 refine yD (yO rfl rfl rfl yR rfl) ?_; simp only [nA, Nat.reduceBEq, Nat.reduceEqDiff, ↓reduceIte]
 refine yD (op_alloc rfl ze33 rfl) ?_; simp only [nA, Nat.reduceBEq, Nat.reduceEqDiff, ↓reduceIte]
 refine zE (hK _ ?_); clear hK K; try simp only [nA, Nat.reduceBEq, Nat.reduceEqDiff, ↓reduceIte, Nat.reduceAdd, Nat.reduceSub]
 refine zA fun K hK => zB ?_
 refine zF (zD rfl rfl) ?_; try simp only [nA, Nat.reduceBEq, Nat.reduceEqDiff, ↓reduceIte, Nat.reduceAdd, Nat.reduceSub]
 refine zE (hK _ ?_); clear hK K
 refine zA fun K hK => zN ?_
 refine yC (fun (k : Nat) => [(2, .ptr 0 1 0 0), (3, .ptr 1 2 0 0), (4, .ptr 2 3 0 0), (5, .v (.int .i64 (k : Nat)))]) (fun _ => ⟨[(1, .own 33 [c.av]), (2, .own 35 [p.av]), (3, .own 33 [[AV.v (.int .i64 0), .v (.string ⟨#[]⟩), .v (.int .i64 0), .v (.string ⟨#[]⟩), .v (.int .i64 0), .v (.int .i64 0), .v (.int .i64 0), .v (.int .i64 0), .v (.int .i64 0), .v (.int .i64 0), .v (.slice none 0 0)]])], 4⟩) (fun k => k ≤ c.pieces.length ∧ ∀ j, j < k → cmpP (c.pieces.getD j default).plate p.plate < 0) (fun k => c.pieces.length - k) 0 (by simp) ⟨rfl, rfl, rfl, rfl, trivial⟩ rfl ?_; intro k ρ hi; simp only [updL]
 refine zA fun K hK => ?_
 refine zA fun K hK => ?_
 refine AW.quiet mix (by kernel_rfl) ?_
 refine zQ (zC rfl rfl) ?_; simp only [nA, ↓reduceIte]
 (refine zQ (zH rfl rfl rfl fl33_7 (by exact sz31) (by decide) rfl) ?_); try simp only [nA, Nat.reduceBEq, Nat.reduceEqDiff, ↓reduceIte, Nat.reduceAdd, Nat.reduceSub]
 (refine aqR (zG rfl rfl rfl rfl ag31 rfl rfl) ?_); try simp only [nA, Nat.reduceBEq, Nat.reduceEqDiff, ↓reduceIte, Nat.reduceAdd, Nat.reduceSub]
 (refine zQ (zX rfl rfl Tryz.underlying31 (by exact .inr (.inl ⟨_, rfl, rfl⟩))) ?_); try simp only [nA, Nat.reduceBEq, Nat.reduceEqDiff, ↓reduceIte, Nat.reduceAdd, Nat.reduceSub]
 refine zQ (yP rfl rfl rfl) ?_; try simp only [nA, Nat.reduceBEq, Nat.reduceEqDiff, ↓reduceIte, Nat.reduceAdd, Nat.reduceSub]
 refine zQ (zC rfl rfl) ?_; simp only [nA]
 refine' yK [_, _, _, _, _, _, _, _, _, _] [13,14,15,16,17,18,19,20,21,22] rfl rfl rfl rfl rfl rfl rfl rfl rfl rfl rfl rfl (fun hb => ?_) ?_; rotate_left
 ·
  (try simp only [z7] at hb)
  (refine zQ (zH rfl rfl rfl fl33_7 (by exact sz31) (by decide) rfl) ?_); try simp only [nA, Nat.reduceBEq, Nat.reduceEqDiff, ↓reduceIte, Nat.reduceAdd, Nat.reduceSub]
  (refine aqR (zG rfl rfl rfl rfl ag31 rfl rfl) ?_); try simp only [nA, Nat.reduceBEq, Nat.reduceEqDiff, ↓reduceIte, Nat.reduceAdd, Nat.reduceSub]
  refine zQ (zC rfl rfl) ?_; simp only [nA, ↓reduceIte]
  (refine zQ (zW k rfl (.inl rfl) rfl Tryz.underlying31 rfl (yF (by omega)) (by exact yR) (bl rfl)) ?_); try simp only [nA, Nat.reduceBEq, Nat.reduceEqDiff, ↓reduceIte, Nat.reduceAdd, Nat.reduceSub]
  (refine zQ (yM rfl rfl fl35_0 (by exact sz23) (by decide) (bl rfl) rfl) ?_); try simp only [nA, Nat.reduceBEq, Nat.reduceEqDiff, ↓reduceIte, Nat.reduceAdd, Nat.reduceSub]
  (refine aqR (zY rfl rfl ag23 sz23 (bl rfl) (by decide) rfl) ?_); try simp only [nA, Nat.reduceBEq, Nat.reduceEqDiff, ↓reduceIte, Nat.reduceAdd, Nat.reduceSub]
  (refine zQ (zH rfl rfl rfl fl35_0 (by exact sz23) (by decide) rfl) ?_); try simp only [nA, Nat.reduceBEq, Nat.reduceEqDiff, ↓reduceIte, Nat.reduceAdd, Nat.reduceSub]
  (refine aqR (zK rfl rfl rfl rfl ag23 sz23 (bl rfl) rfl) ?_); try simp only [nA, Nat.reduceBEq, Nat.reduceEqDiff, ↓reduceIte, Nat.reduceAdd, Nat.reduceSub]
  refine aqQ (zT (b := true) rfl en82 (C82 (p := (c.pieces.getD k default).plate) (q := p.plate)) (RL.cons (by exact View.same rfl) (RL.cons (by exact View.same rfl) (RL.nil))) rfl) ?_; try simp only [nA, Nat.reduceBEq, Nat.reduceEqDiff, ↓reduceIte, Nat.reduceAdd, Nat.reduceSub]
  refine zQ (yP rfl rfl rfl) ?_; try simp only [nA, Nat.reduceBEq, Nat.reduceEqDiff, ↓reduceIte, Nat.reduceAdd, Nat.reduceSub]
  (refine yL rfl rfl rfl ?_; repeat (first | exact fun _ _ => rfl | refine zU rfl ?_))
 refine yN (hK _ ?_); clear hK K
 refine zL rfl rfl rfl (fun hc => ?_) (fun hc => ?_)
 ·
  (try simp only [z7] at hc); have hc1 := hc
  refine zM ?_
  refine hK _ ?_; clear hK K
  refine zN ?_
  refine zB ?_
  refine zF (zC rfl rfl) ?_; simp only [nA, Nat.reduceEqDiff, ↓reduceIte]
  (refine zF (zR rfl rfl rfl (by omega)) ?_); try simp only [nA, Nat.reduceBEq, Nat.reduceEqDiff, ↓reduceIte, Nat.reduceAdd, Nat.reduceSub]
  refine zF (zD rfl rfl) ?_; simp only [nA]
  refine zE ?_
  (try simp only [zI, zJ, Nat.reduceEqDiff, ↓reduceIte])
  refine ⟨k + 1, ⟨by omega, fun j hj => by rcases Nat.lt_or_ge j k with h | h; exact hi.2 j h; (obtain rfl : j = k := by omega); exact hc1.2⟩, by omega, ⟨rfl, rfl, rfl, rfl, trivial⟩, (by trivial), (by trivial)⟩
 (try simp only [z7] at hc); have hc1 := hc; have hk := pos_first hi.1 hi.2 (fun h => by have h1 : (k : Int) < (c.pieces.length : Int) := (by omega); have h2 := h.2; rcases hc1 with h3 | h3 <;> omega); have hins : insC c p = setP c (c.pieces.take k ++ p :: c.pieces.drop k) := (by unfold insC; rw [hk])
 refine yE ?_; try simp only [zI, zJ, Nat.reduceEqDiff, ↓reduceIte]
 clear hK K
 refine hK _ ?_; clear hK K
 refine zA fun K hK => zB ?_
 refine yD (zV rfl [] [] Tryz.underlying31 ze35 rfl (by simp) rfl (by simp) rfl (bl rfl) (by simp [maxLen])) ?_; simp only [nA, Nat.reduceBEq, Nat.reduceEqDiff, ↓reduceIte]
 (refine zF (zH rfl rfl rfl fl33_7 (by exact sz31) (by decide) rfl) ?_); try simp only [nA, Nat.reduceBEq, Nat.reduceEqDiff, ↓reduceIte, Nat.reduceAdd, Nat.reduceSub]
 (refine awR (zG rfl rfl rfl rfl ag31 rfl rfl) ?_); try simp only [nA, Nat.reduceBEq, Nat.reduceEqDiff, ↓reduceIte, Nat.reduceAdd, Nat.reduceSub]
 refine zF (zC rfl rfl) ?_; simp only [nA, Nat.reduceEqDiff, ↓reduceIte]
 refine zF (op_slice_ro 0 k rfl (.inl rfl) (by exact rfl) (by exact ⟨_, rfl⟩) (Nat.zero_le _) (by simp; omega) Tryz.underlying31 yR (av_len c.pieces) (es' := (c.pieces.take k).map Piece.av) (by simp [List.map_take])) ?_; try simp only [nA, Nat.reduceBEq, Nat.reduceEqDiff, ↓reduceIte, Nat.reduceAdd, Nat.reduceSub]
 refine yD (op_app rfl rfl rfl rfl rfl .ro Tryz.underlying31 ze35 (by decide) (av_len _) (by simp; omega) (by decide) (List.nil_append _) rfl) ?_; simp only [nA, Nat.reduceBEq, Nat.reduceEqDiff, ↓reduceIte]
 refine zF (zD rfl rfl) ?_; simp only [nA]
 refine zE (hK _ ?_); clear hK K
 refine zA fun K hK => ?_
 refine AW.ado (fun T' => T'.slots[0]? = some (1, .own 33 [c.av]) ∧ T'.slots[1]? = some (2, .own 35 [p.av])) mix rfl ?_
 refine adPo 0 rfl (fun T' ok => zC rfl rfl) ⟨rfl, rfl⟩ (by kernel_rfl) (by kernel_rfl) ?_; simp only [nA, Nat.reduceBEq, Nat.reduceEqDiff, ↓reduceIte]
 refine adRo 1 rfl (fun T' ok => zK rfl rfl ok.2 rfl ag35 yR (bl rfl) rfl) ⟨rfl, rfl⟩ (by kernel_rfl) (by kernel_rfl) ?_; try simp only [nA, Nat.reduceBEq, Nat.reduceEqDiff, ↓reduceIte, Nat.reduceAdd, Nat.reduceSub]
 refine adPo 4 rfl (fun T' ok => zH rfl rfl ok.1 fl33_7 (by exact sz31) (by decide) rfl) ⟨rfl, rfl⟩ (by kernel_rfl) (by kernel_rfl) ?_; try simp only [nA, Nat.reduceBEq, Nat.reduceEqDiff, ↓reduceIte, Nat.reduceAdd, Nat.reduceSub]
 refine adRo 5 rfl (fun T' ok => zG rfl rfl ok.1 rfl ag31 rfl rfl) ⟨rfl, rfl⟩ (by kernel_rfl) (by kernel_rfl) ?_; try simp only [nA, Nat.reduceBEq, Nat.reduceEqDiff, ↓reduceIte, Nat.reduceAdd, Nat.reduceSub]
 refine adPo 6 rfl (fun T' ok => zC rfl rfl) ⟨rfl, rfl⟩ (by kernel_rfl) (by kernel_rfl) ?_; simp only [nA, Nat.reduceEqDiff, ↓reduceIte]
 refine adPo 7 rfl (fun T' ok => op_slice_ro k c.pieces.length rfl (.inl rfl) (by exact ⟨_, rfl⟩) (by simp [bndIs]) hi.1 (by simp) Tryz.underlying31 yR (av_len c.pieces) (es' := (c.pieces.drop k).map Piece.av) (by rw [List.map_drop, List.take_of_length_le (by simp)])) ⟨rfl, rfl⟩ (by kernel_rfl) (by kernel_rfl) ?_; try simp only [nA, Nat.reduceBEq, Nat.reduceEqDiff, ↓reduceIte, Nat.reduceAdd, Nat.reduceSub]
 refine adJo 2 rfl (zV rfl [(0, p.av)] [p.av] Tryz.underlying31 ze35 rfl (by simp) rfl (by simp) rfl (bl rfl) (by simp [maxLen])) (by kernel_rfl) ⟨rfl, rfl⟩ ?_; simp only [nA, Nat.reduceBEq, Nat.reduceEqDiff, ↓reduceIte]
 refine adJo 3 rfl (op_app (rows := [p.av]) rfl rfl rfl rfl (by simp) (.sl (es := [p.av]) rfl rfl) Tryz.underlying31 ze35 (by decide) (by simp) (by simp; omega) (by decide) (es' := (c.pieces.take k ++ [p]).map Piece.av) (by simp [ldc_v]) (n := (c.pieces.take k ++ [p]).length) (by simp)) (by kernel_rfl) ⟨rfl, rfl⟩ ?_; simp only [nA, Nat.reduceBEq, Nat.reduceEqDiff, ↓reduceIte]
 refine adJo 8 rfl (op_app (rows := (c.pieces.drop k).map Piece.av) rfl rfl rfl rfl (by simp) .ro Tryz.underlying31 ze35 (by decide) (av_len _) (by simp; omega) (by decide) (es' := (c.pieces.take k ++ p :: c.pieces.drop k).map Piece.av) (by simp) (n := (c.pieces.take k ++ p :: c.pieces.drop k).length) (by simp; omega)) (by kernel_rfl) ⟨rfl, rfl⟩ ?_; simp only [nA, Nat.reduceBEq, Nat.reduceEqDiff, ↓reduceIte]
 refine adPo 9 rfl (fun T' ok => zH rfl rfl ok.1 fl33_7 (by exact sz31) (by decide) rfl) ⟨rfl, rfl⟩ (by kernel_rfl) (by kernel_rfl) ?_; try simp only [nA, Nat.reduceBEq, Nat.reduceEqDiff, ↓reduceIte, Nat.reduceAdd, Nat.reduceSub]
 refine adLo 10 rfl (op_store_nest rfl rfl rfl rfl (row := c.av) rfl sz31 rfl (by decide) (by simp) (by simp) (es2 := [oav (setP c (c.pieces.take k ++ p :: c.pieces.drop k))]) rfl) (by kernel_rfl) (by kernel_rfl) ?_; try simp only [nA, Nat.reduceBEq, Nat.reduceEqDiff, ↓reduceIte, Nat.reduceAdd, Nat.reduceSub]
 refine adDoneo (by kernel_rfl) ?_
 refine hK _ ?_; clear hK K
 refine zA fun K hK => zB ?_
 refine AWL.gh (Gh.freezeC (r := 0) (es := [oav (setP c (c.pieces.take k ++ p :: c.pieces.drop k))]) (row := oav (setP c (c.pieces.take k ++ p :: c.pieces.drop k))) 0 10 rfl rfl rfl (av_flat (c.pieces.take k ++ p :: c.pieces.drop k)) (es2 := [(setP c (c.pieces.take k ++ p :: c.pieces.drop k)).av]) rfl) ?_; (try simp only [nA, Nat.reduceBEq, Nat.reduceEqDiff, ↓reduceIte, Nat.reduceAdd, Nat.reduceSub]); (refine awR (zK rfl rfl rfl rfl ag33 yH (bl rfl) rfl) ?_); try simp only [nA, Nat.reduceBEq, Nat.reduceEqDiff, ↓reduceIte, Nat.reduceAdd, Nat.reduceSub]
 refine yD (z8 rfl rfl rfl rfl rfl rfl yH rfl (bl rfl) rfl) ?_; try simp only [nA, Nat.reduceBEq, Nat.reduceEqDiff, ↓reduceIte, Nat.reduceAdd, Nat.reduceSub]
 refine zE (hK _ ?_); clear hK K
 skip
 refine zO ?_; (try simp only [zI, zJ, Nat.reduceEqDiff, ↓reduceIte]); rw [hins]; exact zS rfl (.cell (bl rfl) rfl rfl rfl ag33 yH (bl rfl) rfl rfl .nil)
theorem C33 {c : Container} {p : Piece} : Fn Tryz.prog 33 [] [.agg c.av, .agg p.av] [.agg (putC c p true).1.av, .v (.int .i64 (putC c p true).2)] [] := by
 refine Spec.body Tryz.func33 rfl Tryz.ntmps33 (by simp) rfl ?_; intro S0 own0 v0 w0
 refine zA fun K hK => zB ?_
 refine yD (yO rfl rfl rfl yH rfl) ?_; simp only [nA, Nat.reduceBEq, Nat.reduceEqDiff, ↓reduceIte]
 refine yD (yO rfl rfl rfl yR rfl) ?_; simp only [nA, Nat.reduceBEq, Nat.reduceEqDiff, ↓reduceIte]
 refine yD (op_alloc rfl ze33 rfl) ?_; simp only [nA, Nat.reduceBEq, Nat.reduceEqDiff, ↓reduceIte]
 refine zF (zD rfl rfl) ?_; try simp only [nA, Nat.reduceBEq, Nat.reduceEqDiff, ↓reduceIte, Nat.reduceAdd, Nat.reduceSub]
 refine zE (hK _ ?_); clear hK K; try simp only [nA, Nat.reduceBEq, Nat.reduceEqDiff, ↓reduceIte, Nat.reduceAdd, Nat.reduceSub]
 refine zA fun K hK => ?_
 refine zA fun K hK => zB ?_
 (refine awR (zK rfl rfl rfl rfl ag33 yH (bl rfl) rfl) ?_); try simp only [nA, Nat.reduceBEq, Nat.reduceEqDiff, ↓reduceIte, Nat.reduceAdd, Nat.reduceSub]
 refine yD (OpQ.j (zT (b := true) rfl en55 (C55 (c := c)) (RL.cons (by exact View.same rfl) (RL.nil)) rfl)) ?_; try simp only [nA, Nat.reduceBEq, Nat.reduceEqDiff, ↓reduceIte, Nat.reduceAdd, Nat.reduceSub]
 refine zF (zD rfl rfl) ?_; simp only [nA]
 refine zE (hK _ ?_); clear hK K
 refine zA fun K hK => zB ?_
 refine zF (zC rfl rfl) ?_; simp only [nA]
 (refine zF (op_neq rfl rfl rfl) ?_); try simp only [nA, Nat.reduceBEq, Nat.reduceEqDiff, ↓reduceIte, Nat.reduceAdd, Nat.reduceSub]
 refine zE (hK _ ?_); clear hK K
 refine zL rfl rfl rfl (fun hc => ?_) (fun hc => ?_)
 ·
  (try simp only [z7] at hc); have hc1 := hc
  refine zA fun K hK => zB ?_
  refine zF (op_build2 (xs := [.v (.int .i64 0), .v (.string ⟨#[]⟩), .v (.int .i64 0), .v (.string ⟨#[]⟩), .v (.int .i64 0), .v (.int .i64 0), .v (.int .i64 0), .v (.int .i64 0), .v (.int .i64 0), .v (.int .i64 0), .v (.slice none 0 0)]) rfl pl33 ze33 [] rfl rfl rfl) ?_; try simp only [nA, Nat.reduceBEq, Nat.reduceEqDiff, ↓reduceIte, Nat.reduceAdd, Nat.reduceSub]
  refine zF (zC rfl rfl) ?_; simp only [nA, ↓reduceIte]
  refine yD (z8 rfl rfl rfl rfl rfl rfl yH rfl (bl rfl) rfl) ?_; simp only [nA, Nat.reduceBEq, Nat.reduceEqDiff, ↓reduceIte]
  refine zF (zD rfl rfl) ?_; simp only [nA]
  refine zE (hK _ ?_); clear hK K
  refine AW.gh (Gh.slot (r := 2) (es' := [zeroC.av]) rfl rfl zero_le) ?_; try simp only [nA, Nat.reduceBEq, Nat.reduceEqDiff, ↓reduceIte, Nat.reduceAdd, Nat.reduceSub]
  refine zO ?_; (try simp only [zI, zJ, Nat.reduceEqDiff, ↓reduceIte]); have he : putC c p true = (zeroC, valC c) := (by unfold putC; rw [if_pos (by simpa using hc)]); rw [he]; exact zS rfl (.cell (bl rfl) rfl rfl rfl ag33 yH (bl rfl) rfl rfl (.tmp (bl rfl) rfl rfl .nil))
 (try simp only [z7] at hc); have hc1 := hc; have hv := val_inv (c := c) (by simpa using hc1); have hv0 : valC c = 0 := (by simpa using hc1); have hfh := found_has (p := p.plate) (val_asc hv0); have hvw := val_w hv0; have hsb := sum_bd _ hvw
 refine zM ?_
 refine hK _ ?_; clear hK K
 refine zA fun K hK => ?_
 refine zA fun K hK => zB ?_
 (refine awR (zK rfl rfl rfl rfl ag35 yR (bl rfl) rfl) ?_); try simp only [nA, Nat.reduceBEq, Nat.reduceEqDiff, ↓reduceIte, Nat.reduceAdd, Nat.reduceSub]
 refine yD (OpQ.j (zT (b := true) rfl en44 (C44 (p := p)) (RL.cons (by exact View.same rfl) (RL.nil)) rfl)) ?_; try simp only [nA, Nat.reduceBEq, Nat.reduceEqDiff, ↓reduceIte, Nat.reduceAdd, Nat.reduceSub]
 refine zF (op_not rfl rfl rfl) ?_; try simp only [nA, Nat.reduceBEq, Nat.reduceEqDiff, ↓reduceIte, Nat.reduceAdd, Nat.reduceSub]
 refine zE (hK _ ?_); clear hK K
 refine zL rfl rfl rfl (fun hc => ?_) (fun hc => ?_)
 ·
  (try simp only [z7] at hc); have hc2 := hc
  refine zA fun K hK => zB ?_
  refine zF (op_build2 (xs := [.v (.int .i64 0), .v (.string ⟨#[]⟩), .v (.int .i64 0), .v (.string ⟨#[]⟩), .v (.int .i64 0), .v (.int .i64 0), .v (.int .i64 0), .v (.int .i64 0), .v (.int .i64 0), .v (.int .i64 0), .v (.slice none 0 0)]) rfl pl33 ze33 [] rfl rfl rfl) ?_; try simp only [nA, Nat.reduceBEq, Nat.reduceEqDiff, ↓reduceIte, Nat.reduceAdd, Nat.reduceSub]
  refine yD (z8 rfl rfl rfl rfl rfl rfl yH rfl (bl rfl) rfl) ?_; simp only [nA, Nat.reduceBEq, Nat.reduceEqDiff, ↓reduceIte]
  refine zF (zD rfl rfl) ?_; try simp only [nA, Nat.reduceBEq, Nat.reduceEqDiff, ↓reduceIte, Nat.reduceAdd, Nat.reduceSub]
  refine zE (hK _ ?_); clear hK K
  refine AW.gh (Gh.slot (r := 2) (es' := [zeroC.av]) rfl rfl zero_le) ?_; try simp only [nA, Nat.reduceBEq, Nat.reduceEqDiff, ↓reduceIte, Nat.reduceAdd, Nat.reduceSub]
  refine zO ?_; (try simp only [zI, zJ, Nat.reduceEqDiff, ↓reduceIte]); have he : putC c p true = (zeroC, 1) := (by unfold putC; rw [if_neg (by simp [hv0]), if_pos (by simpa using hc)]); rw [he]; exact zS rfl (.cell (bl rfl) rfl rfl rfl ag33 yH (bl rfl) rfl rfl (.tmp (bl rfl) rfl rfl .nil))
 (try simp only [z7] at hc); have hc2 := hc; have hp1 : piB p = true := (by simpa using hc2); have hpi := piB_inv hp1
 refine zM ?_
 refine hK _ ?_; clear hK K
 refine zA fun K hK => ?_
 refine zA fun K hK => zB ?_
 (refine awR (zK rfl rfl rfl rfl ag33 yH (bl rfl) rfl) ?_); try simp only [nA, Nat.reduceBEq, Nat.reduceEqDiff, ↓reduceIte, Nat.reduceAdd, Nat.reduceSub]
 (refine zF (zH rfl rfl rfl fl35_0 (by exact sz23) (by decide) rfl) ?_); try simp only [nA, Nat.reduceBEq, Nat.reduceEqDiff, ↓reduceIte, Nat.reduceAdd, Nat.reduceSub]
 (refine awR (zK rfl rfl rfl rfl ag23 sz23 (bl rfl) rfl) ?_); try simp only [nA, Nat.reduceBEq, Nat.reduceEqDiff, ↓reduceIte, Nat.reduceAdd, Nat.reduceSub]
 refine yD (OpQ.j (zT (b := true) rfl en56 (C56 (c := c) (p := p.plate) (by omega)) (RL.cons (by exact View.same rfl) (RL.cons (by exact View.same rfl) (RL.nil))) rfl)) ?_; try simp only [nA, Nat.reduceBEq, Nat.reduceEqDiff, ↓reduceIte, Nat.reduceAdd, Nat.reduceSub]
 refine zE (hK _ ?_); clear hK K
 refine zL rfl rfl rfl (fun hc => ?_) (fun hc => ?_)
 ·
  (try simp only [z7] at hc); have hc3 := hc
  refine zA fun K hK => zB ?_
  refine zF (op_build2 (xs := [.v (.int .i64 0), .v (.string ⟨#[]⟩), .v (.int .i64 0), .v (.string ⟨#[]⟩), .v (.int .i64 0), .v (.int .i64 0), .v (.int .i64 0), .v (.int .i64 0), .v (.int .i64 0), .v (.int .i64 0), .v (.slice none 0 0)]) rfl pl33 ze33 [] rfl rfl rfl) ?_; try simp only [nA, Nat.reduceBEq, Nat.reduceEqDiff, ↓reduceIte, Nat.reduceAdd, Nat.reduceSub]
  refine yD (z8 rfl rfl rfl rfl rfl rfl yH rfl (bl rfl) rfl) ?_; simp only [nA, Nat.reduceBEq, Nat.reduceEqDiff, ↓reduceIte]
  refine zF (zD rfl rfl) ?_; try simp only [nA, Nat.reduceBEq, Nat.reduceEqDiff, ↓reduceIte, Nat.reduceAdd, Nat.reduceSub]
  refine zE (hK _ ?_); clear hK K
  refine AW.gh (Gh.slot (r := 2) (es' := [zeroC.av]) rfl rfl zero_le) ?_; try simp only [nA, Nat.reduceBEq, Nat.reduceEqDiff, ↓reduceIte, Nat.reduceAdd, Nat.reduceSub]
  refine zO ?_; (try simp only [zI, zJ, Nat.reduceEqDiff, ↓reduceIte]); have he : putC c p true = (zeroC, 5) := (by rw [put_eq hv0 hp1, hfh, if_pos (by simpa using hc)]); rw [he]; exact zS rfl (.cell (bl rfl) rfl rfl rfl ag33 yH (bl rfl) rfl rfl (.tmp (bl rfl) rfl rfl .nil))
 (try simp only [z7] at hc); have hc3 := hc
 refine zM ?_
 refine hK _ ?_; clear hK K
 refine zA fun K hK => ?_
 refine zA fun K hK => zB ?_
 (refine awR (zK rfl rfl rfl rfl ag33 yH (bl rfl) rfl) ?_); try simp only [nA, Nat.reduceBEq, Nat.reduceEqDiff, ↓reduceIte, Nat.reduceAdd, Nat.reduceSub]
 (refine zF (zH rfl rfl rfl fl35_2 (by exact sz3) (by decide) rfl) ?_); try simp only [nA, Nat.reduceBEq, Nat.reduceEqDiff, ↓reduceIte, Nat.reduceAdd, Nat.reduceSub]
 (refine awR (zG rfl rfl rfl rfl ag3 rfl rfl) ?_); try simp only [nA, Nat.reduceBEq, Nat.reduceEqDiff, ↓reduceIte, Nat.reduceAdd, Nat.reduceSub]
 refine yD (OpQ.j (zT (b := true) rfl en57 (C57 (c := c) (cat := p.category)) (RL.cons (by exact View.same rfl) (RL.cons (by exact View.same rfl) (RL.nil))) rfl)) ?_; try simp only [nA, Nat.reduceBEq, Nat.reduceEqDiff, ↓reduceIte, Nat.reduceAdd, Nat.reduceSub]
 refine zF (op_not rfl rfl rfl) ?_; try simp only [nA, Nat.reduceBEq, Nat.reduceEqDiff, ↓reduceIte, Nat.reduceAdd, Nat.reduceSub]
 refine zE (hK _ ?_); clear hK K
 refine zL rfl rfl rfl (fun hc => ?_) (fun hc => ?_)
 ·
  (try simp only [z7] at hc); have hc4 := hc; have hb4 : bitB c.categories p.category = false := (by rcases hc4 with (h | h) | h; omega; omega; exact h)
  refine zA fun K hK => zB ?_
  refine zF (op_build2 (xs := [.v (.int .i64 0), .v (.string ⟨#[]⟩), .v (.int .i64 0), .v (.string ⟨#[]⟩), .v (.int .i64 0), .v (.int .i64 0), .v (.int .i64 0), .v (.int .i64 0), .v (.int .i64 0), .v (.int .i64 0), .v (.slice none 0 0)]) rfl pl33 ze33 [] rfl rfl rfl) ?_; try simp only [nA, Nat.reduceBEq, Nat.reduceEqDiff, ↓reduceIte, Nat.reduceAdd, Nat.reduceSub]
  refine yD (z8 rfl rfl rfl rfl rfl rfl yH rfl (bl rfl) rfl) ?_; simp only [nA, Nat.reduceBEq, Nat.reduceEqDiff, ↓reduceIte]
  refine zF (zD rfl rfl) ?_; try simp only [nA, Nat.reduceBEq, Nat.reduceEqDiff, ↓reduceIte, Nat.reduceAdd, Nat.reduceSub]
  refine zE (hK _ ?_); clear hK K
  refine AW.gh (Gh.slot (r := 2) (es' := [zeroC.av]) rfl rfl zero_le) ?_; try simp only [nA, Nat.reduceBEq, Nat.reduceEqDiff, ↓reduceIte, Nat.reduceAdd, Nat.reduceSub]
  refine zO ?_; (try simp only [zI, zJ, Nat.reduceEqDiff, ↓reduceIte]); have he : putC c p true = (zeroC, 4) := (by rw [put_eq hv0 hp1, hfh, if_neg (by simpa using hc3), if_pos (by simp [hb4])]); rw [he]; exact zS rfl (.cell (bl rfl) rfl rfl rfl ag33 yH (bl rfl) rfl rfl (.tmp (bl rfl) rfl rfl .nil))
 (try simp only [z7] at hc); have hc4 := hc; have hb4 : bitB c.categories p.category = true := hc4.2
 refine zM ?_
 refine hK _ ?_; clear hK K
 refine zA fun K hK => ?_
 refine zA fun K hK => ?_
 refine AW.quiet mix (by kernel_rfl) ?_
 (refine zQ (zH rfl rfl rfl fl33_7 (by exact sz31) (by decide) rfl) ?_); try simp only [nA, Nat.reduceBEq, Nat.reduceEqDiff, ↓reduceIte, Nat.reduceAdd, Nat.reduceSub]
 (refine aqR (zG rfl rfl rfl rfl ag31 rfl rfl) ?_); try simp only [nA, Nat.reduceBEq, Nat.reduceEqDiff, ↓reduceIte, Nat.reduceAdd, Nat.reduceSub]
 (refine zQ (zX rfl rfl Tryz.underlying31 (by exact .inr (.inl ⟨_, rfl, rfl⟩))) ?_); try simp only [nA, Nat.reduceBEq, Nat.reduceEqDiff, ↓reduceIte, Nat.reduceAdd, Nat.reduceSub]
 (refine zQ (zH rfl rfl rfl fl33_4 (by exact sz3) (by decide) rfl) ?_); try simp only [nA, Nat.reduceBEq, Nat.reduceEqDiff, ↓reduceIte, Nat.reduceAdd, Nat.reduceSub]
 (refine aqR (zG rfl rfl rfl rfl ag3 rfl rfl) ?_); try simp only [nA, Nat.reduceBEq, Nat.reduceEqDiff, ↓reduceIte, Nat.reduceAdd, Nat.reduceSub]
 refine zQ (op_geq rfl rfl rfl) ?_; try simp only [nA, Nat.reduceBEq, Nat.reduceEqDiff, ↓reduceIte, Nat.reduceAdd, Nat.reduceSub]
 refine zQ (zC rfl rfl) ?_; simp only [nA]
 refine' aqOr' [_, _, _, _, _, _, _, _, _] [35,36,37,38,39,40,41,42,43] rfl rfl rfl rfl rfl rfl rfl rfl rfl rfl rfl rfl (fun hb => ?_) ?_; rotate_left
 ·
  (try simp only [z7] at hb)
  (refine zQ (zH rfl rfl rfl fl33_7 (by exact sz31) (by decide) rfl) ?_); try simp only [nA, Nat.reduceBEq, Nat.reduceEqDiff, ↓reduceIte, Nat.reduceAdd, Nat.reduceSub]
  (refine aqR (zG rfl rfl rfl rfl ag31 rfl rfl) ?_); try simp only [nA, Nat.reduceBEq, Nat.reduceEqDiff, ↓reduceIte, Nat.reduceAdd, Nat.reduceSub]
  refine aqQ (zT (b := true) rfl en58 (C58 (l := c.pieces) (by omega) hvw) (RL.cons (by exact View.same rfl) (RL.nil)) rfl) ?_; try simp only [nA, Nat.reduceBEq, Nat.reduceEqDiff, ↓reduceIte, Nat.reduceAdd, Nat.reduceSub]
  (refine zQ (zH rfl rfl rfl fl35_1 (by exact sz3) (by decide) rfl) ?_); try simp only [nA, Nat.reduceBEq, Nat.reduceEqDiff, ↓reduceIte, Nat.reduceAdd, Nat.reduceSub]
  (refine aqR (zG rfl rfl rfl rfl ag3 rfl rfl) ?_); try simp only [nA, Nat.reduceBEq, Nat.reduceEqDiff, ↓reduceIte, Nat.reduceAdd, Nat.reduceSub]
  (refine zQ (zR rfl rfl rfl (by omega)) ?_); try simp only [nA, Nat.reduceBEq, Nat.reduceEqDiff, ↓reduceIte, Nat.reduceAdd, Nat.reduceSub]
  (refine zQ (zH rfl rfl rfl fl33_3 (by exact sz3) (by decide) rfl) ?_); try simp only [nA, Nat.reduceBEq, Nat.reduceEqDiff, ↓reduceIte, Nat.reduceAdd, Nat.reduceSub]
  (refine aqR (zG rfl rfl rfl rfl ag3 rfl rfl) ?_); try simp only [nA, Nat.reduceBEq, Nat.reduceEqDiff, ↓reduceIte, Nat.reduceAdd, Nat.reduceSub]
  refine zQ (op_gtr rfl rfl rfl) ?_; try simp only [nA, Nat.reduceBEq, Nat.reduceEqDiff, ↓reduceIte, Nat.reduceAdd, Nat.reduceSub]
  (refine yL rfl rfl rfl ?_; repeat (first | exact fun _ _ => rfl | refine zU rfl ?_))
 refine yN (hK _ ?_); clear hK K
 refine zL rfl rfl rfl (fun hc => ?_) (fun hc => ?_)
 ·
  (try simp only [z7] at hc); have hc5 := hc
  refine zA fun K hK => zB ?_
  refine zF (op_build2 (xs := [.v (.int .i64 0), .v (.string ⟨#[]⟩), .v (.int .i64 0), .v (.string ⟨#[]⟩), .v (.int .i64 0), .v (.int .i64 0), .v (.int .i64 0), .v (.int .i64 0), .v (.int .i64 0), .v (.int .i64 0), .v (.slice none 0 0)]) rfl pl33 ze33 [] rfl rfl rfl) ?_; try simp only [nA, Nat.reduceBEq, Nat.reduceEqDiff, ↓reduceIte, Nat.reduceAdd, Nat.reduceSub]
  refine yD (z8 rfl rfl rfl rfl rfl rfl yH rfl (bl rfl) rfl) ?_; simp only [nA, Nat.reduceBEq, Nat.reduceEqDiff, ↓reduceIte]
  refine zF (zD rfl rfl) ?_; try simp only [nA, Nat.reduceBEq, Nat.reduceEqDiff, ↓reduceIte, Nat.reduceAdd, Nat.reduceSub]
  refine zE (hK _ ?_); clear hK K
  refine AW.gh (Gh.slot (r := 2) (es' := [zeroC.av]) rfl rfl zero_le) ?_; try simp only [nA, Nat.reduceBEq, Nat.reduceEqDiff, ↓reduceIte, Nat.reduceAdd, Nat.reduceSub]
  refine zO ?_; (try simp only [zI, zJ, Nat.reduceEqDiff, ↓reduceIte]); have he : putC c p true = (zeroC, 8) := (by rw [put_eq hv0 hp1, hfh, if_neg (by simpa using hc3), if_neg (by simp [hb4]), if_pos (by unfold fullB; simpa using hc)]); rw [he]; exact zS rfl (.cell (bl rfl) rfl rfl rfl ag33 yH (bl rfl) rfl rfl (.tmp (bl rfl) rfl rfl .nil))
 (try simp only [z7] at hc); have hc5 := hc; have hcm : c.most ≤ 60 := (by have := hv.1; unfold coB inB at this; simp at this; omega); have hf5 : fullB c p = false := (by unfold fullB; simp; omega)
 refine zM ?_
 refine hK _ ?_; clear hK K
 refine zA fun K hK => zB ?_
 (refine awR (zK rfl rfl rfl rfl ag33 yH (bl rfl) rfl) ?_); try simp only [nA, Nat.reduceBEq, Nat.reduceEqDiff, ↓reduceIte, Nat.reduceAdd, Nat.reduceSub]
 (refine awR (zK rfl rfl rfl rfl ag35 yR (bl rfl) rfl) ?_); try simp only [nA, Nat.reduceBEq, Nat.reduceEqDiff, ↓reduceIte, Nat.reduceAdd, Nat.reduceSub]
 refine yD (op_call (b := false) rfl en59 (C59 (c := c) (p := p) (by omega)) (RL.cons (by exact View.same rfl) (RL.cons (by exact View.same rfl) (RL.nil))) rfl (fun h => by cases h) rfl rfl) ?_; try simp only [nA, Nat.reduceBEq, Nat.reduceEqDiff, ↓reduceIte, Nat.reduceAdd, Nat.reduceSub]
 refine yD (z8 rfl rfl rfl rfl rfl rfl yH rfl (bl rfl) rfl) ?_; simp only [nA, Nat.reduceBEq, Nat.reduceEqDiff, ↓reduceIte]
 refine zF (zD rfl rfl) ?_; try simp only [nA, Nat.reduceBEq, Nat.reduceEqDiff, ↓reduceIte, Nat.reduceAdd, Nat.reduceSub]
 refine zE (hK _ ?_); clear hK K
 skip
 refine zO ?_; (try simp only [zI, zJ, Nat.reduceEqDiff, ↓reduceIte]); have he : putC c p true = (insC c p, 0) := (by rw [put_eq hv0 hp1, hfh, if_neg (by simpa using hc3), if_neg (by simp [hb4]), if_neg (by simp [hf5]), if_neg (by omega)]); rw [he]; exact zS rfl (.cell (bl rfl) rfl rfl rfl ag33 yH (bl rfl) rfl rfl (.tmp (bl rfl) rfl rfl .nil))
set_option maxRecDepth 100000
structure Leg where
 fl : Flight
 port : ByteArray
 cls : ByteArray
abbrev Leg.av (g : Leg) : List AV := [.v (.string g.fl.carrier), .v (.int .i64 g.fl.number), .v (.string g.fl.suffix), .v (.int .i64 g.fl.day), .v (.string g.port), .v (.string g.cls)]
structure BagR where
 plate : Plate
 inn : Leg
 out : Leg
 onw : List (List AV)
 seq : Int
 status : Int
 weight : Int
 load : Bool
 sn : ByteArray
 gn : ByteArray
 exc : Int
 node : ByteArray
 unl : Bool
abbrev BagR.av (b : BagR) : List AV := [.v (.int .i64 b.plate.lead), .v (.int .i64 b.plate.airline), .v (.int .i64 b.plate.serial),
 .v (.string b.inn.fl.carrier), .v (.int .i64 b.inn.fl.number), .v (.string b.inn.fl.suffix), .v (.int .i64 b.inn.fl.day), .v (.string b.inn.port), .v (.string b.inn.cls),
 .v (.string b.out.fl.carrier), .v (.int .i64 b.out.fl.number), .v (.string b.out.fl.suffix), .v (.int .i64 b.out.fl.day), .v (.string b.out.port), .v (.string b.out.cls),
 .ro b.onw, .v (.int .i64 b.seq), .v (.int .i64 b.status), .v (.int .i64 b.weight), .v (.bool b.load), .v (.string b.sn), .v (.string b.gn), .v (.int .i64 b.exc), .v (.string b.node), .v (.bool b.unl)]
def legEq (g h : Leg) : Bool := flEq g.fl h.fl && ((g.port.toList == h.port.toList) && (g.cls.toList == h.cls.toList))
abbrev leg0 : Leg := ⟨⟨⟨#[]⟩, 0, ⟨#[]⟩, 0⟩, ⟨#[]⟩, ⟨#[]⟩⟩
def catV (b : BagR) : Int := if b.exc = 1 then 4 else if b.exc = 2 then 3 else if legEq b.inn leg0 = false then 1 else if (b.out.cls.toList == (⟨#[70]⟩ : ByteArray).toList) = true then 2 else 0
section
variable {S0 : Nat → Prop} {own0 : List Nat} {v0 : List Value} {w0 : World} {o : Oper} {ev : Operand → AV} {T : Sl} {yt : TypeId} {y z : Operand}
end
theorem C13 {c : Container} {p : Piece} : Fn Tryz.prog 13 [] [.agg c.av, .agg p.av] [.v (.bool (admB c p))] [] := by
 refine Spec.body Tryz.func13 rfl Tryz.ntmps13 (by simp) rfl ?_; intro S0 own0 v0 w0
 refine zA fun K hK => zB ?_
 refine yD (yO rfl rfl rfl yH rfl) ?_; simp only [nA, Nat.reduceBEq, Nat.reduceEqDiff, ↓reduceIte]
 refine yD (yO rfl rfl rfl yR rfl) ?_; simp only [nA, Nat.reduceBEq, Nat.reduceEqDiff, ↓reduceIte]
 refine zF (zD rfl rfl) ?_
 refine zE (hK _ ?_); clear hK K; try simp only [nA, Nat.reduceBEq, Nat.reduceEqDiff, ↓reduceIte, Nat.reduceAdd, Nat.reduceSub]
 refine zA fun K hK => zB ?_
 refine awR (zK rfl rfl rfl rfl ag33 yH (bl rfl) rfl) ?_
 refine awR (zK rfl rfl rfl rfl ag35 yR (bl rfl) rfl) ?_
 refine yD (op_call (b := false) rfl en33 (C33 (c := c) (p := p)) (RL.cons (by exact View.same rfl) (RL.cons (by exact View.same rfl) (RL.nil))) rfl (fun h => by cases h) rfl rfl) ?_; try simp only [nA, Nat.reduceBEq, Nat.reduceEqDiff, ↓reduceIte, Nat.reduceAdd, Nat.reduceSub]
 refine zF (zC rfl rfl) ?_
 refine zF (z6 rfl rfl rfl) ?_
 refine zF (z6 rfl rfl rfl) ?_
 refine yD (op_alloc rfl ze33 rfl) ?_; simp only [nA, Nat.reduceBEq, Nat.reduceEqDiff, ↓reduceIte]
 refine yD (z8 rfl rfl rfl rfl rfl rfl yH rfl (bl rfl) rfl) ?_; simp only [nA, Nat.reduceBEq, Nat.reduceEqDiff, ↓reduceIte]
 refine zF (zD rfl rfl) ?_
 refine zE (hK _ ?_); clear hK K; simp only [nA, ↓reduceIte]
 refine zA fun K hK => zB ?_
 refine zF (zC rfl rfl) ?_
 refine zF (op_eql rfl rfl rfl) ?_
 refine zF (zD rfl rfl) ?_
 refine zE (hK _ ?_); clear hK K; simp only [nA]
 skip
 refine zO ?_; (try simp only [zI, zJ, Nat.reduceEqDiff, ↓reduceIte]); exact zS rfl (.tmp (bl rfl) rfl rfl .nil)
set_option maxRecDepth 100000
theorem C40 {l : List Container} {f : Flight} (hf : Fit l) : Fn Tryz.prog 40 [] [.ro (l.map Container.av), .agg f.av] [.v (.int .i64 (mom l f))] [] := by
 refine Spec.body Tryz.func40 rfl Tryz.ntmps40 (by simp) rfl ?_; intro S0 own0 v0 w0
 refine zA fun K hK => zB ?_
 refine yD (yO rfl rfl rfl sz25 rfl) ?_; simp only [nA, Nat.reduceBEq, Nat.reduceEqDiff, ↓reduceIte]
 refine zF (zD rfl rfl) ?_
 refine zE (hK _ ?_); clear hK K; try simp only [nA, Nat.reduceBEq, Nat.reduceEqDiff, ↓reduceIte, Nat.reduceAdd, Nat.reduceSub]
 refine zA fun K hK => zB ?_
 refine zF (zD rfl rfl) ?_
 refine zE (hK _ ?_); clear hK K; try simp only [nA, Nat.reduceBEq, Nat.reduceEqDiff, ↓reduceIte, Nat.reduceAdd, Nat.reduceSub]
 refine zA fun K hK => ?_
 refine zA fun K hK => zB ?_
 refine zF (zD rfl rfl) ?_
 refine zE (hK _ ?_); clear hK K; try simp only [nA, Nat.reduceBEq, Nat.reduceEqDiff, ↓reduceIte, Nat.reduceAdd, Nat.reduceSub]
 refine zN ?_
 refine yC (fun (i : Nat) => [(0, .ro (l.map Container.av)), (3, .ptr 0 1 0 0), (5, .v (.int .i64 (mom (l.take i) f))), (6, .v (.int .i64 (i : Nat)))]) (fun _ => ⟨[(1, .own 25 [f.av])], 2⟩) (fun i => i ≤ l.length) (fun i => l.length - i) 0 (by simp) ⟨rfl, rfl, rfl, rfl, trivial⟩ rfl ?_; intro i ρ hi; simp only [updL]
 refine zA fun K hK => ?_
 refine zA fun K hK => zB ?_
 refine zF (zC rfl rfl) ?_
 refine zF (zC rfl rfl) ?_
 refine zF (zX (n := l.length) rfl rfl Tryz.underlying42 (.inr (.inl ⟨_, rfl, by simp⟩))) ?_
 refine zF (yP rfl rfl rfl) ?_
 refine zE (hK _ ?_); clear hK K; simp only [nA, ↓reduceIte]
 refine zL rfl rfl rfl (fun hc => ?_) (fun hc => ?_)
 ·
  have hc1 := hc; have hlt : i < l.length := (by simpa using hc1); have hone := hf.one hlt; have hbd := hf.bd f i (by omega); have hlen := hf.len; have hmt := mom_take (f := f) hlt
  refine zM ?_
  refine hK _ ?_; clear hK K
  refine zA fun K hK => zN ?_
  refine zA fun K hK => ?_
  refine AW.quiet mix (by kernel_rfl) ?_
  refine zQ (zC rfl rfl) ?_
  refine zQ (zC rfl rfl) ?_
  refine zQ (zW i rfl (.inl rfl) rfl Tryz.underlying42 rfl (yF hlt) (by exact yH) (bl rfl)) ?_
  refine zQ (yM rfl rfl fl33_1 (by exact sz25) (by decide) (bl rfl) rfl) ?_
  refine aqR (zY rfl rfl ag25 sz25 (bl rfl) (by decide) rfl) ?_
  refine aqR (zK rfl rfl rfl rfl ag25 sz25 (bl rfl) rfl) ?_
  refine zQ (op_eq25 (p := (l.getD i default).flight) (q := f) rfl rfl rfl) ?_; simp only [nA, ↓reduceIte]
  refine yN (hK _ ?_); clear hK K
  refine zL rfl rfl rfl (fun hc => ?_) (fun hc => ?_)
  ·
   have hc2 := hc; rw [if_pos (show flEq (l.getD i default).flight f = true from hc2)] at hmt
   refine AW.quiet mix (by kernel_rfl) ?_
   refine zQ (zC rfl rfl) ?_
   refine zQ (zC rfl rfl) ?_
   refine zQ (zC rfl rfl) ?_
   refine zQ (zW i rfl (.inl rfl) rfl Tryz.underlying42 rfl (yF hlt) (by exact yH) (bl rfl)) ?_
   refine aqR (zY rfl rfl ag33 yH (bl rfl) (by decide) rfl) ?_
   refine aqQ (zT (b := true) rfl en62 (C62 (c := (l.getD i default))) (RL.cons (by exact View.same rfl) (RL.nil)) rfl) ?_; simp only [nA, ↓reduceIte]
   refine zQ (zC rfl rfl) ?_
   refine zQ (zC rfl rfl) ?_
   refine zQ (zW i rfl (.inl rfl) rfl Tryz.underlying42 rfl (yF hlt) (by exact yH) (bl rfl)) ?_
   refine zQ (yM rfl rfl fl33_6 (by exact sz3) (by decide) (bl rfl) rfl) ?_
   refine aqR (yA rfl rfl ag3) ?_
   refine zQ (op_muli rfl rfl rfl (by omega)) ?_
   refine zQ (zR rfl rfl rfl (by omega)) ?_
   refine zQ (zD rfl rfl) ?_
   refine yN ?_
   (try simp only [zI, zJ, Nat.reduceEqDiff, ↓reduceIte])
   refine hK _ ?_; clear hK K; simp only [nA, ↓reduceIte]
   refine zB ?_
   refine zF (zC rfl rfl) ?_
   refine zF (zR rfl rfl rfl (by omega)) ?_
   refine zF (zD rfl rfl) ?_
   skip
   refine zE ?_
   refine ⟨i + 1, by omega, by omega, ⟨rfl, rfl, congrArg (fun z => AV.v (.int .i64 z)) hmt.symm, rfl, trivial⟩, (by rfl), (by rfl)⟩
  have hc2 := hc; rw [if_neg (by rw [show flEq (l.getD i default).flight f = false from hc2]; decide)] at hmt
  refine zM ?_
  (try simp only [zI, zJ, Nat.reduceEqDiff, ↓reduceIte])
  refine hK _ ?_; clear hK K
  refine zB ?_
  refine zF (zC rfl rfl) ?_
  refine zF (zR rfl rfl rfl (by omega)) ?_
  refine zF (zD rfl rfl) ?_
  skip
  refine zE ?_
  refine ⟨i + 1, by omega, by omega, ⟨rfl, rfl, congrArg (fun z => AV.v (.int .i64 z)) (by rw [hmt, Int.add_zero]), rfl, trivial⟩, (by rfl), (by rfl)⟩
 have hc1 := hc; have hnl : ¬ i < l.length := (by simpa using hc1)
 refine yE ?_; try simp only [zI, zJ, Nat.reduceEqDiff, ↓reduceIte]
 clear hK K
 refine hK _ ?_; clear hK K
 refine zA fun K hK => zB ?_
 refine zF (zC rfl rfl) ?_
 refine zF (zD rfl rfl) ?_
 refine zE (hK _ ?_); clear hK K; simp only [nA, ↓reduceIte]
 skip
 refine zO ?_; (try simp only [zI, zJ, Nat.reduceEqDiff, ↓reduceIte]); rw [show mom l f = mom (l.take i) f by rw [List.take_of_length_le (by omega)]]; exact zS rfl (.tmp (bl rfl) rfl rfl .nil)
def lstV (l : List Container) (f : Flight) (p : Piece) (o : Option Nat) : Int := match o with | none => 0 | some j => absI (mom l f + p.weight * (l.getD j default).arm)
theorem bst_yes {l : List Container} {f : Flight} {p : Piece} {i : Nat} (h : (flEq (l.getD i default).flight f && admB (l.getD i default) p) = true)
   (hb : (decide (atI (bestI l f p i) < 0) || decide (absI (mom l f + p.weight * (l.getD i default).arm) < lstV l f p (bestI l f p i))) = true) : bestI l f p (i + 1) = some i := by
 rw [bestI, if_pos h]
 cases hj : bestI l f p i with
 | none => rfl
 | some j =>
   rw [hj] at hb
   have h1 : ¬ atI (some j) < 0 := by show ¬ ((j : Nat) : Int) < 0; omega
   rw [decide_eq_false h1, Bool.false_or, decide_eq_true_eq] at hb
   exact if_pos hb
theorem bst_no {l : List Container} {f : Flight} {p : Piece} {i : Nat} (h : (flEq (l.getD i default).flight f && admB (l.getD i default) p) = true)
   (hb : (decide (atI (bestI l f p i) < 0) || decide (absI (mom l f + p.weight * (l.getD i default).arm) < lstV l f p (bestI l f p i))) = false) : bestI l f p (i + 1) = bestI l f p i := by
 rw [bestI, if_pos h]
 cases hj : bestI l f p i with
 | none =>
   rw [hj] at hb
   exact absurd hb (by show ¬ (decide ((-1 : Int) < 0) || _) = false; simp)
 | some j =>
   rw [hj] at hb
   rw [Bool.or_eq_false_iff, decide_eq_false_iff_not, decide_eq_false_iff_not] at hb
   exact if_neg hb.2
theorem bst_skip {l : List Container} {f : Flight} {p : Piece} {i : Nat} (h : (flEq (l.getD i default).flight f && admB (l.getD i default) p) = false) : bestI l f p (i + 1) = bestI l f p i := by
 rw [bestI, if_neg (by rw [h]; decide)]
theorem C46 {l : List Container} {f : Flight} {p : Piece} (hf : Fit l) (hp : piB p = true) : Fn Tryz.prog 46 [] [.ro (l.map Container.av), .agg f.av, .agg p.av] [.v (.int .i64 (atI (bestV l f p)))] [] := by
 refine Spec.body Tryz.func46 rfl Tryz.ntmps46 (by simp) rfl ?_; intro S0 own0 v0 w0
 refine zA fun K hK => zB ?_
 refine yD (yO rfl rfl rfl sz25 rfl) ?_; simp only [nA, Nat.reduceBEq, Nat.reduceEqDiff, ↓reduceIte]
 refine yD (yO rfl rfl rfl yR rfl) ?_; simp only [nA, Nat.reduceBEq, Nat.reduceEqDiff, ↓reduceIte]
 refine zF (zD rfl rfl) ?_
 refine zE (hK _ ?_); clear hK K; try simp only [nA, Nat.reduceBEq, Nat.reduceEqDiff, ↓reduceIte, Nat.reduceAdd, Nat.reduceSub]
 refine zA fun K hK => zB ?_
 refine zF (zC rfl rfl) ?_
 refine awR (zK rfl rfl rfl rfl ag25 sz25 (bl rfl) rfl) ?_
 refine yD (OpQ.j (zT (b := true) rfl en40 (C40 (l := l) (f := f) hf) (RL.cons (by exact View.same rfl) (RL.cons (by exact View.same rfl) (RL.nil))) rfl)) ?_; simp only [nA, ↓reduceIte]
 refine zF (zD rfl rfl) ?_
 refine zF (zD rfl rfl) ?_
 refine zF (zD rfl rfl) ?_
 refine zE (hK _ ?_); clear hK K; simp only [nA, ↓reduceIte]
 refine zA fun K hK => ?_
 refine zA fun K hK => zB ?_
 refine zF (zD rfl rfl) ?_
 refine zE (hK _ ?_); clear hK K; try simp only [nA, Nat.reduceBEq, Nat.reduceEqDiff, ↓reduceIte, Nat.reduceAdd, Nat.reduceSub]
 refine zN ?_
 refine yC (fun (i : Nat) => [(0, .ro (l.map Container.av)), (4, .ptr 0 1 0 0), (5, .ptr 1 2 0 0), (7, .v (.int .i64 (atI (bestI l f p i)))), (8, .v (.int .i64 (lstV l f p (bestI l f p i)))), (9, .v (.int .i64 (mom l f))), (10, .v (.int .i64 (i : Nat)))]) (fun _ => ⟨[(1, .own 25 [f.av]), (2, .own 35 [p.av])], 3⟩) (fun i => i ≤ l.length) (fun i => l.length - i) 0 (by simp) ⟨rfl, rfl, rfl, rfl, rfl, rfl, rfl, trivial⟩ rfl ?_; intro i ρ hi; simp only [updL]
 refine zA fun K hK => ?_
 refine zA fun K hK => zB ?_
 refine zF (zC rfl rfl) ?_
 refine zF (zC rfl rfl) ?_
 refine zF (zX (n := l.length) rfl rfl Tryz.underlying42 (.inr (.inl ⟨_, rfl, by simp⟩))) ?_
 refine zF (yP rfl rfl rfl) ?_
 refine zE (hK _ ?_); clear hK K; simp only [nA, ↓reduceIte]
 refine zL rfl rfl rfl (fun hc => ?_) (fun hc => ?_)
 ·
  have hc1 := hc; have hlt : i < l.length := (by simpa using hc1); have hlen := hf.len; have hm := hf.mom f; have hpi := piB_inv hp; have ha1 := hf.arm hlt; have hw1 := mul_bd (a := p.weight) (b := (l.getD i default).arm) (m := 999) (n := 50) (by omega) (by omega) ha1.1 ha1.2 (by decide)
  refine zM ?_
  refine hK _ ?_; clear hK K
  refine zA fun K hK => zN ?_
  refine zA fun K hK => ?_
  refine zA fun K hK => ?_
  refine AW.quiet mix (by kernel_rfl) ?_
  refine zQ (zC rfl rfl) ?_
  refine zQ (zC rfl rfl) ?_
  refine zQ (zW i rfl (.inl rfl) rfl Tryz.underlying42 rfl (yF hlt) (by exact yH) (bl rfl)) ?_
  refine zQ (yM rfl rfl fl33_1 (by exact sz25) (by decide) (bl rfl) rfl) ?_
  refine aqR (zY rfl rfl ag25 sz25 (bl rfl) (by decide) rfl) ?_
  refine aqR (zK rfl rfl rfl rfl ag25 sz25 (bl rfl) rfl) ?_
  refine zQ (op_neq25 (p := (l.getD i default).flight) (q := f) rfl rfl rfl) ?_; simp only [nA, ↓reduceIte]
  refine zQ (zC rfl rfl) ?_
  refine' aqOr' [_, _, _, _, _, _, _] [29,30,31,32,33,34,35] rfl rfl rfl rfl rfl rfl rfl rfl rfl rfl rfl rfl (fun hb => ?_) ?_; rotate_left
  ·
   (try simp only [z7] at hb)
   refine zQ (zC rfl rfl) ?_
   refine zQ (zC rfl rfl) ?_
   refine zQ (zW i rfl (.inl rfl) rfl Tryz.underlying42 rfl (yF hlt) (by exact yH) (bl rfl)) ?_
   refine aqR (zY rfl rfl ag33 yH (bl rfl) (by decide) rfl) ?_
   refine aqR (zK rfl rfl rfl rfl ag35 yR (bl rfl) rfl) ?_
   refine aqQ (zT (b := true) rfl en13 (C13 (c := (l.getD i default)) (p := p)) (RL.cons (by exact View.same rfl) (RL.cons (by exact View.same rfl) (RL.nil))) rfl) ?_; simp only [nA, ↓reduceIte]
   refine zQ (op_not rfl rfl rfl) ?_
   (refine yL rfl rfl rfl ?_; repeat (first | exact fun _ _ => rfl | refine zU rfl ?_))
  simp only [nA]
  refine yN (hK _ ?_); clear hK K
  refine zL rfl rfl rfl (fun hc => ?_) (fun hc => ?_)
  ·
   have hc2 := hc; have hu : (flEq (l.getD i default).flight f && admB (l.getD i default) p) = false := (by have h : (!flEq (l.getD i default).flight f || !admB (l.getD i default) p) = true := hc2; cases h1 : flEq (l.getD i default).flight f <;> cases h2 : admB (l.getD i default) p <;> rw [h1, h2] at h <;> first | rfl | cases h); have hb := bst_skip hu
   refine yE ?_; try simp only [zI, zJ, Nat.reduceEqDiff, ↓reduceIte]
   clear hK K
   refine hK _ ?_; clear hK K
   refine zB ?_
   refine zF (zC rfl rfl) ?_
   refine zF (zR rfl rfl rfl (by omega)) ?_
   refine zF (zD rfl rfl) ?_
   skip
   refine zE ?_
   refine ⟨i + 1, by omega, by omega, ⟨rfl, rfl, rfl, (by rw [hb]; rfl), (by rw [hb]; rfl), rfl, rfl, trivial⟩, (by rfl), (by rfl)⟩
  have hc2 := hc; have hu : (flEq (l.getD i default).flight f && admB (l.getD i default) p) = true := (by have h : (!flEq (l.getD i default).flight f || !admB (l.getD i default) p) = false := hc2; cases h1 : flEq (l.getD i default).flight f <;> cases h2 : admB (l.getD i default) p <;> rw [h1, h2] at h <;> first | rfl | cases h)
  refine zM ?_
  refine hK _ ?_; clear hK K
  refine zA fun K hK => ?_
  refine AW.quiet mix (by kernel_rfl) ?_
  refine zQ (zC rfl rfl) ?_
  refine zQ (zH rfl rfl rfl fl35_1 (by exact sz3) (by decide) rfl) ?_
  refine aqR (zG rfl rfl rfl rfl ag3 rfl rfl) ?_
  refine zQ (zC rfl rfl) ?_
  refine zQ (zC rfl rfl) ?_
  refine zQ (zW i rfl (.inl rfl) rfl Tryz.underlying42 rfl (yF hlt) (by exact yH) (bl rfl)) ?_
  refine zQ (yM rfl rfl fl33_6 (by exact sz3) (by decide) (bl rfl) rfl) ?_
  refine aqR (yA rfl rfl ag3) ?_
  refine zQ (op_muli rfl rfl rfl (by omega)) ?_
  refine zQ (zR rfl rfl rfl (by omega)) ?_
  refine aqQ (zT (b := true) rfl en67 (C67 (n := mom l f + p.weight * (l.getD i default).arm) (by omega)) (RL.cons (by exact View.same rfl) (RL.nil)) rfl) ?_; simp only [nA, Nat.reduceEqDiff, ↓reduceIte]
  refine zQ (zD rfl rfl) ?_
  refine yN (hK _ ?_); clear hK K; simp only [nA]
  refine zA fun K hK => zB (yS ?_)
  refine zQ (zC rfl rfl) ?_
  refine zQ (yP rfl rfl rfl) ?_
  refine zQ (zC rfl rfl) ?_
  refine' aqOr' [_, _, _] [51,52,53] rfl rfl rfl rfl rfl rfl rfl rfl rfl rfl rfl rfl (fun hb => ?_) ?_; rotate_left
  ·
   (try simp only [z7] at hb)
   refine zQ (zC rfl rfl) ?_
   refine zQ (zC rfl rfl) ?_
   refine zQ (yP rfl rfl rfl) ?_
   (refine yL rfl rfl rfl ?_; repeat (first | exact fun _ _ => rfl | refine zU rfl ?_))
  simp only [nA, Nat.reduceEqDiff, ↓reduceIte]
  refine yN (hK _ ?_); clear hK K
  refine zL rfl rfl rfl (fun hc => ?_) (fun hc => ?_)
  ·
   have hc3 := hc; have hb := bst_yes hu hc3
   refine zB ?_
   refine zF (zC rfl rfl) ?_
   refine zF (zC rfl rfl) ?_
   refine zF (zD rfl rfl) ?_
   refine zF (zD rfl rfl) ?_
   refine zE ?_
   (try simp only [zI, zJ, Nat.reduceEqDiff, ↓reduceIte])
   refine hK _ ?_; clear hK K; simp only [nA, Nat.reduceEqDiff, ↓reduceIte]
   refine zB ?_
   refine zF (zC rfl rfl) ?_
   refine zF (zR rfl rfl rfl (by omega)) ?_
   refine zF (zD rfl rfl) ?_
   skip
   refine zE ?_
   refine ⟨i + 1, by omega, by omega, ⟨rfl, rfl, rfl, (by rw [hb]; rfl), (by rw [hb]; rfl), rfl, rfl, trivial⟩, (by rfl), (by rfl)⟩
  have hc3 := hc; have hb := bst_no hu hc3
  refine zM ?_
  (try simp only [zI, zJ, Nat.reduceEqDiff, ↓reduceIte])
  refine hK _ ?_; clear hK K
  refine zB ?_
  refine zF (zC rfl rfl) ?_
  refine zF (zR rfl rfl rfl (by omega)) ?_
  refine zF (zD rfl rfl) ?_
  skip
  refine zE ?_
  refine ⟨i + 1, by omega, by omega, ⟨rfl, rfl, rfl, (by rw [hb]; rfl), (by rw [hb]; rfl), rfl, rfl, trivial⟩, (by rfl), (by rfl)⟩
 have hc1 := hc; have hnl : ¬ i < l.length := (by simpa using hc1); have hil : i = l.length := (by omega)
 refine yE ?_; try simp only [zI, zJ, Nat.reduceEqDiff, ↓reduceIte]
 clear hK K
 refine hK _ ?_; clear hK K
 refine zA fun K hK => zB ?_
 refine zF (zC rfl rfl) ?_
 refine zF (zD rfl rfl) ?_
 refine zE (hK _ ?_); clear hK K; simp only [nA, ↓reduceIte]
 skip
 refine zO ?_; (try simp only [zI, zJ, Nat.reduceEqDiff, ↓reduceIte]); rw [show bestV l f p = bestI l f p i by rw [hil]; rfl]; exact zS rfl (.tmp (bl rfl) rfl rfl .nil)
set_option maxRecDepth 100000
theorem mem_takeD {l : List Piece} {k i : Nat} (h : k < i) (hi : i < l.length) : l.getD k default ∈ l.take i := by
 rw [getD_el (by omega)]
 exact List.mem_take_iff_getElem.2 ⟨k, by omega, rfl⟩
theorem C25 {l : List Container} {f : Flight} {bags : List Piece} (hs : Sml l) (hb : bags.length ≤ 1000) : Fn Tryz.prog 25 [] [.ro (l.map Container.av), .agg f.av, .ro (bags.map Piece.av)] [.ro ((asgV l f bags).1.map Container.av), .ro ((asgV l f bags).2.1.map Piece.av), .v (.int .i64 (asgV l f bags).2.2)] [] := by
 refine Spec.body Tryz.func25 rfl Tryz.ntmps25 (by simp) rfl ?_; intro S0 own0 v0 w0
 refine zA fun K hK => zB ?_
 refine yD (yO rfl rfl rfl sz25 rfl) ?_; simp only [nA, Nat.reduceBEq, Nat.reduceEqDiff, ↓reduceIte]
 refine zF (zD rfl rfl) ?_
 refine zF (zD rfl rfl) ?_
 refine zF (zD rfl rfl) ?_
 refine zE (hK _ ?_); clear hK K; try simp only [nA, Nat.reduceBEq, Nat.reduceEqDiff, ↓reduceIte, Nat.reduceAdd, Nat.reduceSub]
 refine zA fun K hK => ?_
 refine zA fun K hK => zB ?_
 refine zF (zC rfl rfl) ?_
 refine yD (OpQ.j (zT (b := true) rfl en39 (C39 (xs := l) hs.len hs.p) (RL.cons (by exact View.same rfl) (RL.nil)) rfl)) ?_; simp only [nA, ↓reduceIte]
 refine zF (zD rfl rfl) ?_
 refine zE (hK _ ?_); clear hK K; simp only [nA]
 refine zA fun K hK => zB ?_
 refine zF (zC rfl rfl) ?_
 refine zF (op_neq rfl rfl rfl) ?_
 refine zE (hK _ ?_); clear hK K; simp only [nA]
 refine zL rfl rfl rfl (fun hc => ?_) (fun hc => ?_)
 ·
  have hc1 := hc; have g1 : chkL l ≠ 0 := (by simpa using hc1)
  refine zA fun K hK => zB ?_
  refine zF (zC rfl rfl) ?_
  refine zF (zD rfl rfl) ?_
  refine zF (zD rfl rfl) ?_
  refine zF (zD rfl rfl) ?_
  refine zE (hK _ ?_); clear hK K; simp only [nA, ↓reduceIte]
  refine AW.gh (Gh.nil (e := 33) 6 (bl rfl) rfl yH) ?_; (simp only [nA, Nat.reduceBEq, Nat.reduceEqDiff, ↓reduceIte]); refine AW.gh (Gh.freeze 6 (bl rfl) rfl rfl (by simp) (es' := ([] : List Container).map Container.av) rfl) ?_; (try simp only [nA, Nat.reduceBEq, Nat.reduceEqDiff, ↓reduceIte, Nat.reduceAdd, Nat.reduceSub]); refine AW.gh (Gh.nil (e := 35) 7 (bl rfl) rfl yR) ?_; (simp only [nA, Nat.reduceBEq, Nat.reduceEqDiff, ↓reduceIte]); refine AW.gh (Gh.freeze 7 (bl rfl) rfl rfl (by simp) (es' := ([] : List Piece).map Piece.av) rfl) ?_; try simp only [nA, Nat.reduceBEq, Nat.reduceEqDiff, ↓reduceIte, Nat.reduceAdd, Nat.reduceSub]
  refine zO ?_; (try simp only [zI, zJ, Nat.reduceEqDiff, ↓reduceIte]); rw [asgV_chk g1]; exact zS rfl (.tmp (bl rfl) rfl rfl (.tmp (bl rfl) rfl rfl (.tmp (bl rfl) rfl rfl .nil)))
 have hc1 := hc; have g1 : chkL l = 0 := (by simpa using hc1)
 refine zM ?_
 refine hK _ ?_; clear hK K
 refine zA fun K hK => ?_
 refine zA fun K hK => zB ?_
 refine zF (zD rfl rfl) ?_
 refine zE (hK _ ?_); clear hK K; try simp only [nA, Nat.reduceBEq, Nat.reduceEqDiff, ↓reduceIte, Nat.reduceAdd, Nat.reduceSub]
 refine zN ?_
 refine yC (fun (i : Nat) => [(0, .ro (l.map Container.av)), (2, .ro (bags.map Piece.av)), (4, .ptr 0 1 0 0), (10, .v (.int .i64 (i : Nat)))]) (fun _ => ⟨[(1, .own 25 [f.av])], 2⟩) (fun i => i ≤ bags.length ∧ ∀ j, j < i → errB l bags j = 0) (fun i => bags.length - i) 0 ⟨by simp, fun j h => by omega⟩ ⟨rfl, rfl, rfl, rfl, trivial⟩ rfl ?_; intro i ρ hI; simp only [updL]
 refine zA fun K hK => ?_
 refine zA fun K hK => zB ?_
 refine zF (zC rfl rfl) ?_
 refine zF (zC rfl rfl) ?_
 refine zF (zX (n := bags.length) rfl rfl Tryz.underlying31 (.inr (.inl ⟨_, rfl, by simp⟩))) ?_
 refine zF (yP rfl rfl rfl) ?_
 refine zE (hK _ ?_); clear hK K; simp only [nA, ↓reduceIte]
 refine zL rfl rfl rfl (fun hc => ?_) (fun hc => ?_)
 ·
  have hc2 := hc; have hlt : i < bags.length := (by simpa using hc2)
  refine zM ?_
  refine hK _ ?_; clear hK K
  refine zA fun K hK => zN ?_
  refine zA fun K hK => ?_
  refine zA fun K hK => zB ?_
  refine zF (zC rfl rfl) ?_
  refine zF (zC rfl rfl) ?_
  refine zF (zW i rfl (.inl rfl) rfl Tryz.underlying31 rfl (yF hlt) (by exact yR) (bl rfl)) ?_
  refine awR (zY rfl rfl ag35 yR (bl rfl) (by decide) rfl) ?_
  refine yD (OpQ.j (zT (b := true) rfl en44 (C44 (p := (bags.getD i default))) (RL.cons (by exact View.same rfl) (RL.nil)) rfl)) ?_; simp only [nA, ↓reduceIte]
  refine zF (op_not rfl rfl rfl) ?_
  refine zE (hK _ ?_); clear hK K; try simp only [nA, Nat.reduceBEq, Nat.reduceEqDiff, ↓reduceIte, Nat.reduceAdd, Nat.reduceSub]
  refine zL rfl rfl rfl (fun hc => ?_) (fun hc => ?_)
  ·
   have hc3 := hc; have g3 : piB (bags.getD i default) = false := (by simpa using hc3)
   refine zA fun K hK => zB ?_
   refine zF (zD rfl rfl) ?_
   refine zF (zD rfl rfl) ?_
   refine zF (zD rfl rfl) ?_
   refine zE (hK _ ?_); clear hK K; try simp only [nA, Nat.reduceBEq, Nat.reduceEqDiff, ↓reduceIte, Nat.reduceAdd, Nat.reduceSub]
   refine AW.gh (Gh.nil (e := 33) 6 (bl rfl) rfl yH) ?_; (simp only [nA, Nat.reduceBEq, Nat.reduceEqDiff, ↓reduceIte]); refine AW.gh (Gh.freeze 6 (bl rfl) rfl rfl (by simp) (es' := ([] : List Container).map Container.av) rfl) ?_; (try simp only [nA, Nat.reduceBEq, Nat.reduceEqDiff, ↓reduceIte, Nat.reduceAdd, Nat.reduceSub]); refine AW.gh (Gh.nil (e := 35) 7 (bl rfl) rfl yR) ?_; (simp only [nA, Nat.reduceBEq, Nat.reduceEqDiff, ↓reduceIte]); refine AW.gh (Gh.freeze 7 (bl rfl) rfl rfl (by simp) (es' := ([] : List Piece).map Piece.av) rfl) ?_; try simp only [nA, Nat.reduceBEq, Nat.reduceEqDiff, ↓reduceIte, Nat.reduceAdd, Nat.reduceSub]
   refine zO ?_; (try simp only [zI, zJ, Nat.reduceEqDiff, ↓reduceIte]); rw [asgV_err g1 (e := 1) (by rw [asgE_at hlt hI.2 (by rw [errB_1 g3]; decide), errB_1 g3]) (by decide)]; exact zS rfl (.tmp (bl rfl) rfl rfl (.tmp (bl rfl) rfl rfl (.tmp (bl rfl) rfl rfl .nil)))
  have hc3 := hc; have g3 : piB (bags.getD i default) = true := (by simpa using hc3)
  refine zM ?_
  refine hK _ ?_; clear hK K
  refine zA fun K hK => ?_
  refine zA fun K hK => zB ?_
  refine zF (zC rfl rfl) ?_
  refine zF (zC rfl rfl) ?_
  refine zF (zC rfl rfl) ?_
  refine zF (zW i rfl (.inl rfl) rfl Tryz.underlying31 rfl (yF hlt) (by exact yR) (bl rfl)) ?_
  refine zF (yM rfl rfl fl35_0 (by exact sz23) (by decide) (bl rfl) rfl) ?_
  refine awR (zY rfl rfl ag23 sz23 (bl rfl) (by decide) rfl) ?_
  refine yD (op_call (b := false) rfl en45 (C45 (xs := l) (p := (bags.getD i default).plate) hs.len hs.p) (RL.cons (by exact View.same rfl) (RL.cons (by exact View.same rfl) (RL.nil))) rfl (fun h => by cases h) rfl rfl) ?_; simp only [nA, ↓reduceIte]
  refine zF (zC rfl rfl) ?_
  refine zF (z6 rfl rfl rfl) ?_
  refine zF (z6 rfl rfl rfl) ?_
  refine zF (zD rfl rfl) ?_
  refine zF (zD rfl rfl) ?_
  refine zE (hK _ ?_); clear hK K; simp only [nA, ↓reduceIte]
  refine zA fun K hK => zB ?_
  refine zF (zC rfl rfl) ?_
  refine zE (hK _ ?_); clear hK K; simp only [nA]
  refine zL rfl rfl rfl (fun hc => ?_) (fun hc => ?_)
  ·
   have hc4 := hc; have g4 : (findL l (bags.getD i default).plate).2 = true := hc4
   refine zA fun K hK => zB ?_
   refine zF (zD rfl rfl) ?_
   refine zF (zD rfl rfl) ?_
   refine zF (zD rfl rfl) ?_
   refine zE (hK _ ?_); clear hK K; try simp only [nA, Nat.reduceBEq, Nat.reduceEqDiff, ↓reduceIte, Nat.reduceAdd, Nat.reduceSub]
   refine AW.gh (Gh.nil (e := 33) 6 (bl rfl) rfl yH) ?_; (simp only [nA, Nat.reduceBEq, Nat.reduceEqDiff, ↓reduceIte]); refine AW.gh (Gh.freeze 6 (bl rfl) rfl rfl (by simp) (es' := ([] : List Container).map Container.av) rfl) ?_; (try simp only [nA, Nat.reduceBEq, Nat.reduceEqDiff, ↓reduceIte, Nat.reduceAdd, Nat.reduceSub]); refine AW.gh (Gh.nil (e := 35) 7 (bl rfl) rfl yR) ?_; (simp only [nA, Nat.reduceBEq, Nat.reduceEqDiff, ↓reduceIte]); refine AW.gh (Gh.freeze 7 (bl rfl) rfl rfl (by simp) (es' := ([] : List Piece).map Piece.av) rfl) ?_; try simp only [nA, Nat.reduceBEq, Nat.reduceEqDiff, ↓reduceIte, Nat.reduceAdd, Nat.reduceSub]
   refine zO ?_; (try simp only [zI, zJ, Nat.reduceEqDiff, ↓reduceIte]); have q5 := errB_5 g3 (by rw [g4]; rfl); rw [asgV_err g1 (e := 5) (by rw [asgE_at hlt hI.2 (by rw [q5]; decide), q5]) (by decide)]; exact zS rfl (.tmp (bl rfl) rfl rfl (.tmp (bl rfl) rfl rfl (.tmp (bl rfl) rfl rfl .nil)))
  have hc4 := hc; have g4 : (findL l (bags.getD i default).plate).2 = false := hc4
  refine zM ?_
  refine hK _ ?_; clear hK K
  refine zA fun K hK => zB ?_
  refine zF (zD rfl rfl) ?_
  refine zE (hK _ ?_); clear hK K; try simp only [nA, Nat.reduceBEq, Nat.reduceEqDiff, ↓reduceIte, Nat.reduceAdd, Nat.reduceSub]
  refine zN ?_
  refine yC (fun (k : Nat) => [(0, .ro (l.map Container.av)), (2, .ro (bags.map Piece.av)), (4, .ptr 0 1 0 0), (10, .v (.int .i64 (i : Nat))), (13, .v (.int .i64 (k : Nat)))]) (fun _ => ⟨[(1, .own 25 [f.av])], 2⟩) (fun k => k ≤ i ∧ ∀ q, q < k → (bags.getD q default).plate ≠ (bags.getD i default).plate) (fun k => i - k) 0 ⟨by simp, fun j h => by omega⟩ ⟨rfl, rfl, rfl, rfl, rfl, trivial⟩ rfl ?_; intro k ρ2 hJ; simp only [updL]
  refine zA fun K hK => ?_
  refine zA fun K hK => zB ?_
  refine zF (zC rfl rfl) ?_
  refine zF (zC rfl rfl) ?_
  refine zF (yP rfl rfl rfl) ?_
  refine zE (hK _ ?_); clear hK K; simp only [nA, ↓reduceIte]
  refine zL rfl rfl rfl (fun hc => ?_) (fun hc => ?_)
  ·
   have hc5 := hc; have hki : k < i := (by simpa using hc5)
   refine zM ?_
   refine hK _ ?_; clear hK K
   refine zA fun K hK => zN ?_
   refine zA fun K hK => ?_
   refine AW.quiet mix (by kernel_rfl) ?_
   refine zQ (zC rfl rfl) ?_
   refine zQ (zC rfl rfl) ?_
   refine zQ (zW k rfl (.inl rfl) rfl Tryz.underlying31 rfl (yF (by omega)) (by exact yR) (bl rfl)) ?_
   refine zQ (yM rfl rfl fl35_0 (by exact sz23) (by decide) (bl rfl) rfl) ?_
   refine aqR (zY rfl rfl ag23 sz23 (bl rfl) (by decide) rfl) ?_
   refine zQ (zC rfl rfl) ?_
   refine zQ (zC rfl rfl) ?_
   refine zQ (zW i rfl (.inl rfl) rfl Tryz.underlying31 rfl (yF hlt) (by exact yR) (bl rfl)) ?_
   refine zQ (yM rfl rfl fl35_0 (by exact sz23) (by decide) (bl rfl) rfl) ?_
   refine aqR (zY rfl rfl ag23 sz23 (bl rfl) (by decide) rfl) ?_
   refine zQ (op_eq23 (p := (bags.getD k default).plate) (q := (bags.getD i default).plate) rfl rfl rfl) ?_; simp only [nA, ↓reduceIte]
   refine yN (hK _ ?_); clear hK K
   refine zL rfl rfl rfl (fun hc => ?_) (fun hc => ?_)
   ·
    have hc6 := hc; have g6 : (bags.getD k default).plate = (bags.getD i default).plate := of_decide_eq_true hc6
    refine zA fun K hK => zB ?_
    refine zF (zD rfl rfl) ?_
    refine zF (zD rfl rfl) ?_
    refine zF (zD rfl rfl) ?_
    refine zE (hK _ ?_); clear hK K; try simp only [nA, Nat.reduceBEq, Nat.reduceEqDiff, ↓reduceIte, Nat.reduceAdd, Nat.reduceSub]
    refine AW.gh (Gh.nil (e := 33) 6 (bl rfl) rfl yH) ?_; (simp only [nA, Nat.reduceBEq, Nat.reduceEqDiff, ↓reduceIte]); refine AW.gh (Gh.freeze 6 (bl rfl) rfl rfl (by simp) (es' := ([] : List Container).map Container.av) rfl) ?_; (try simp only [nA, Nat.reduceBEq, Nat.reduceEqDiff, ↓reduceIte, Nat.reduceAdd, Nat.reduceSub]); refine AW.gh (Gh.nil (e := 35) 7 (bl rfl) rfl yR) ?_; (simp only [nA, Nat.reduceBEq, Nat.reduceEqDiff, ↓reduceIte]); refine AW.gh (Gh.freeze 7 (bl rfl) rfl rfl (by simp) (es' := ([] : List Piece).map Piece.av) rfl) ?_; try simp only [nA, Nat.reduceBEq, Nat.reduceEqDiff, ↓reduceIte, Nat.reduceAdd, Nat.reduceSub]
    refine zO ?_; (try simp only [zI, zJ, Nat.reduceEqDiff, ↓reduceIte]); have q5 := errB_5 g3 (by rw [g4, Bool.false_or, List.any_eq_true]; exact ⟨_, mem_takeD hki hlt, decide_eq_true g6⟩); rw [asgV_err g1 (e := 5) (by rw [asgE_at hlt hI.2 (by rw [q5]; decide), q5]) (by decide)]; exact zS rfl (.tmp (bl rfl) rfl rfl (.tmp (bl rfl) rfl rfl (.tmp (bl rfl) rfl rfl .nil)))
   have hc6 := hc; have g6 : (bags.getD k default).plate ≠ (bags.getD i default).plate := of_decide_eq_false hc6
   refine zM ?_
   (try simp only [zI, zJ, Nat.reduceEqDiff, ↓reduceIte])
   refine hK _ ?_; clear hK K
   refine zB ?_
   refine zF (zC rfl rfl) ?_
   refine zF (zR rfl rfl rfl (by omega)) ?_
   refine zF (zD rfl rfl) ?_
   skip
   refine zE ?_
   refine ⟨k + 1, ⟨by omega, fun q hq => by rcases Nat.lt_or_ge q k with h | h; exact hJ.2 q h; (obtain rfl : q = k := (by omega)); exact g6⟩, by omega, ⟨rfl, rfl, rfl, rfl, rfl, trivial⟩, (by rfl), (by rfl)⟩
  have hc5 := hc; have hki : ¬ k < i := (by simpa using hc5); have q0 := errB_00 (l := l) (bags := bags) (i := i) g3 (by rw [g4, Bool.false_or, List.any_eq_false]; intro z hz; rw [decide_eq_true_eq]; obtain ⟨q, hq, rfl⟩ := List.mem_take_iff_getElem.1 hz; have := hJ.2 q (by omega); rwa [getD_el (by omega)] at this)
  refine yE ?_; try simp only [zI, zJ, Nat.reduceEqDiff, ↓reduceIte]
  clear hK K
  (try simp only [zI, zJ, Nat.reduceEqDiff, ↓reduceIte])
  refine hK _ ?_; clear hK K
  refine zB ?_
  refine zF (zC rfl rfl) ?_
  refine zF (zR rfl rfl rfl (by omega)) ?_
  refine zF (zD rfl rfl) ?_
  skip
  refine zE ?_
  refine ⟨i + 1, ⟨by omega, fun j hj => by rcases Nat.lt_or_ge j i with h | h; exact hI.2 j h; (obtain rfl : j = i := (by omega)); exact q0⟩, by omega, ⟨rfl, rfl, rfl, rfl, trivial⟩, (by rfl), (by rfl)⟩
 have hc2 := hc; obtain hil : i = bags.length := (by have : ¬ i < bags.length := (by simpa using hc2); omega); have hE : asgE l bags = 0 := asgE_no (fun j hj => hI.2 j (by omega)); have hD := asgE_dis hE; have hPi := asgE_pi hE; have hInv := InvO.of g1; have hO := ordV_len bags; have hlen := hInv.len
 refine yE ?_; try simp only [zI, zJ, Nat.reduceEqDiff, ↓reduceIte]
 clear hK K
 refine hK _ ?_; clear hK K
 refine zA fun K hK => zB ?_
 refine zF (zC rfl rfl) ?_
 refine yD (op_call (b := false) rfl en51 (C51 (l := l) (by omega) (fun c hc => by have := (val_inv (hInv.val c hc)).2.1; omega)) (RL.cons (by exact View.same rfl) (RL.nil)) rfl (fun h => by cases h) rfl rfl) ?_; simp only [nA, Nat.reduceBEq, Nat.reduceEqDiff, ↓reduceIte]
 refine zF (zD rfl rfl) ?_
 refine zE (hK _ ?_); clear hK K; simp only [nA]
 refine zA fun K hK => zB ?_
 refine zF (zD rfl rfl) ?_
 refine zE (hK _ ?_); clear hK K; try simp only [nA, Nat.reduceBEq, Nat.reduceEqDiff, ↓reduceIte, Nat.reduceAdd, Nat.reduceSub]
 refine zA fun K hK => zB ?_
 refine zF (zC rfl rfl) ?_
 refine yD (op_call (b := false) rfl en52 (C52 (l := bags) (by omega)) (RL.cons (by exact View.same rfl) (RL.nil)) rfl (fun h => by cases h) rfl rfl) ?_; simp only [nA, ↓reduceIte]
 refine zF (zD rfl rfl) ?_
 refine zE (hK _ ?_); clear hK K; simp only [nA]
 refine zA fun K hK => ?_
 refine zA fun K hK => zB ?_
 refine zF (zD rfl rfl) ?_
 refine zE (hK _ ?_); clear hK K; try simp only [nA, Nat.reduceBEq, Nat.reduceEqDiff, ↓reduceIte, Nat.reduceAdd, Nat.reduceSub]
 refine zN ?_
 refine AW.gh (Gh.nil (e := 35) 15 (bl rfl) rfl yR) ?_; (simp only [nA, Nat.reduceBEq, Nat.reduceEqDiff, ↓reduceIte]); refine yC (fun (q : Nat × Nat × Nat) => [(4, .ptr 0 1 0 0), (14, .sl 1 2 0 (asgF f (l, []) ((ordV bags).take q.1)).1.length), (15, .sl 2 q.2.1 0 (asgF f (l, []) ((ordV bags).take q.1)).2.length), (16, .ro ((ordV bags).map Piece.av)), (17, .v (.int .i64 (q.1 : Nat)))]) (fun q => ⟨[(1, .own 25 [f.av]), (2, .own 33 ((asgF f (l, []) ((ordV bags).take q.1)).1.map Container.av)), (q.2.1, .own 35 ((asgF f (l, []) ((ordV bags).take q.1)).2.map Piece.av))], q.2.2⟩) (fun q => q.1 ≤ (ordV bags).length) (fun q => (ordV bags).length - q.1) (0, _, _) (by simp) ⟨rfl, rfl, rfl, rfl, rfl, trivial⟩ rfl ?_; clear hI hc2 hil; rintro ⟨i, v, ep2⟩ ρ2 hI; dsimp only at hI ⊢; simp only [updL]
 refine zA fun K hK => ?_
 refine zA fun K hK => zB ?_
 refine zF (zC rfl rfl) ?_
 refine zF (zC rfl rfl) ?_
 refine zF (zX (n := (ordV bags).length) rfl rfl Tryz.underlying31 (.inr (.inl ⟨_, rfl, by simp⟩))) ?_
 refine zF (yP rfl rfl rfl) ?_
 refine zE (hK _ ?_); clear hK K; simp only [nA, ↓reduceIte]
 refine zL rfl rfl rfl (fun hc => ?_) (fun hc => ?_)
 ·
  have hc7 := hc; have hlt5 : i < (ordV bags).length := (by simpa using hc7); have hI2 : InvO (asgF f (l, []) ((ordV bags).take i)).1 := InvO.fold _ hInv; have hln := asgF_len (f := f) ((ordV bags).take i) (l, []); have hpi : piB ((ordV bags).getD i default) = true := (hPi _ ((ordV_perm bags).subset (getD_memP hlt5))).1; have hstp := asgF_take (f := f) (s := (l, [])) hlt5; rw [List.length_take, List.length_nil] at hln
  refine zM ?_
  refine hK _ ?_; clear hK K
  refine zA fun K hK => zN ?_
  refine zA fun K hK => ?_
  refine AW.quiet mix (by kernel_rfl) ?_
  refine zQ (zC rfl rfl) ?_
  refine aqR (zK rfl rfl rfl rfl ag25 sz25 (bl rfl) rfl) ?_
  refine zQ (zC rfl rfl) ?_
  refine zQ (zC rfl rfl) ?_
  refine zQ (zW i rfl (.inl rfl) rfl Tryz.underlying31 rfl (yF hlt5) (by exact yR) (bl rfl)) ?_
  refine aqR (zY rfl rfl ag35 yR (bl rfl) (by decide) rfl) ?_
  refine aqQ (zT (b := true) rfl en46 (C46 (l := (asgF f (l, []) ((ordV bags).take i)).1) (f := f) (p := ((ordV bags).getD i default)) hI2.fit hpi) (RL.cons (View.src (.sl rfl (rowsC _))) (RL.cons (by exact View.same rfl) (RL.cons (by exact View.same rfl) (RL.nil)))) rfl) ?_; simp only [nA, ↓reduceIte]
  refine zQ (zD rfl rfl) ?_
  refine yN (hK _ ?_); clear hK K; simp only [nA]
  refine zA fun K hK => ?_
  refine zA fun K hK => zB ?_
  refine zF (zC rfl rfl) ?_
  refine zF (yP rfl rfl rfl) ?_
  refine zE (hK _ ?_); clear hK K; simp only [nA]
  refine zL rfl rfl rfl (fun hc => ?_) (fun hc => ?_)
  ·
   have hc8 := hc; have g6 : bestV (asgF f (l, []) ((ordV bags).take i)).1 f ((ordV bags).getD i default) = none := (by cases hb : bestV (asgF f (l, []) ((ordV bags).take i)).1 f ((ordV bags).getD i default) with | none => rfl | some i => rw [hb] at hc8; exact absurd (of_decide_eq_true hc8) (by show ¬ ((i : Nat) : Int) < 0; omega)); rw [stepA_none g6] at hstp
   refine zA fun K hK => zB ?_
   refine zF (zC rfl rfl) ?_
   refine zF (zC rfl rfl) ?_
   refine zF (zC rfl rfl) ?_
   refine zF (zW i rfl (.inl rfl) rfl Tryz.underlying31 rfl (yF hlt5) (by exact yR) (bl rfl)) ?_
   refine awR (zY rfl rfl ag35 yR (bl rfl) (by decide) rfl) ?_
   refine yD (OpJ.frz (zV rfl [(0, (((ordV bags).getD i default)).av)] [(((ordV bags).getD i default)).av] Tryz.underlying31 ze35 rfl (by simp) rfl (by simp) rfl (bl rfl) (by simp [maxLen])) (by simp [flatA]) rfl) ?_; simp only [nA, ↓reduceIte]
   refine yD (op_app (r := 2) (rows := [(((ordV bags).getD i default)).av]) rfl rfl rfl rfl (by simp) .ro Tryz.underlying31 ze35 (by decide) (av_len [((ordV bags).getD i default)]) (by simp; omega) (by decide) (es' := ((asgF f (l, []) ((ordV bags).take i)).2 ++ [((ordV bags).getD i default)]).map Piece.av) (by simp) (n := ((asgF f (l, []) ((ordV bags).take i)).2 ++ [((ordV bags).getD i default)]).length) (by simp)) ?_; try simp only [nA, Nat.reduceBEq, Nat.reduceEqDiff, ↓reduceIte, Nat.reduceAdd, Nat.reduceSub]
   refine zF (zD rfl rfl) ?_
   refine zE (hK _ ?_); clear hK K; simp only [nA]
   refine yE ?_; try simp only [zI, zJ, Nat.reduceEqDiff, ↓reduceIte]
   clear hK K
   refine hK _ ?_; clear hK K
   refine zB ?_
   refine zF (zC rfl rfl) ?_
   refine zF (zR rfl rfl rfl (by omega)) ?_
   refine zF (zD rfl rfl) ?_
   skip
   refine zE ?_
   refine ⟨(i + 1, _, _), by dsimp only; omega, by dsimp only; omega, ⟨rfl, (by dsimp only; rw [hstp]; rfl), (by dsimp only; rw [hstp]; rfl), rfl, rfl, trivial⟩, (by dsimp only; rw [hstp]), (by rfl)⟩
  have hc8 := hc; obtain ⟨j, hbi⟩ : ∃ j, bestV (asgF f (l, []) ((ordV bags).take i)).1 f ((ordV bags).getD i default) = some j := (by cases hb : bestV (asgF f (l, []) ((ordV bags).take i)).1 f ((ordV bags).getD i default) with | some j => exact ⟨j, rfl⟩ | none => rw [hb] at hc8; exact absurd (of_decide_eq_false hc8) (by show ¬ ¬ (-1 : Int) < 0; decide)); obtain ⟨hjl, _, hadm⟩ := bestV_some hbi; rw [stepA_some hbi] at hstp; have hput := hadm.put; rw [hbi]; have h33 : Fn Tryz.prog 33 [] [.agg ((asgF f (l, []) ((ordV bags).take i)).1.getD j default).av, .agg ((ordV bags).getD i default).av] [.agg (insC ((asgF f (l, []) ((ordV bags).take i)).1.getD j default) ((ordV bags).getD i default)).av, .v (.int .i64 0)] [] := (by have h := C33 (c := ((asgF f (l, []) ((ordV bags).take i)).1.getD j default)) (p := ((ordV bags).getD i default)); rwa [hput] at h)
  refine zM ?_
  refine hK _ ?_; clear hK K
  refine AW.ado (fun T' => ∃ es, T'.slots[1]? = some (2, .own 33 es) ∧ es.length = (asgF f (l, []) ((ordV bags).take i)).1.length) mix rfl ?_
  refine adPo 0 rfl (fun T' ok => zC rfl rfl) ⟨_, rfl, by simp⟩ (by kernel_rfl) (by kernel_rfl) ?_; simp only [nA, Nat.reduceBEq, Nat.reduceEqDiff, ↓reduceIte]
  refine adPo 1 rfl (fun T' ok => zC rfl rfl) ⟨_, rfl, by simp⟩ (by kernel_rfl) (by kernel_rfl) ?_; simp only [nA, ↓reduceIte]
  refine adPo 2 rfl (fun T' ok => zC rfl rfl) ⟨_, rfl, by simp⟩ (by kernel_rfl) (by kernel_rfl) ?_; simp only [nA, ↓reduceIte]
  refine adPo 3 rfl (fun T' ok => zC rfl rfl) ⟨_, rfl, by simp⟩ (by kernel_rfl) (by kernel_rfl) ?_; simp only [nA, ↓reduceIte]
  refine adPo 4 rfl (fun T' ok => op_ia_sl j 11 rfl rfl rfl ok.choose_spec.1 Tryz.underlying42 rfl hjl (by exact yH) (Nat.zero_add _)) ⟨_, rfl, by simp⟩ (by kernel_rfl) (by kernel_rfl) ?_; try simp only [nA, Nat.reduceBEq, Nat.reduceEqDiff, ↓reduceIte, Nat.reduceAdd, Nat.reduceSub]
  refine adPo 6 rfl (fun T' ok => zC rfl rfl) ⟨_, rfl, by simp⟩ (by kernel_rfl) (by kernel_rfl) ?_; simp only [nA, ↓reduceIte]
  refine adPo 7 rfl (fun T' ok => zC rfl rfl) ⟨_, rfl, by simp⟩ (by kernel_rfl) (by kernel_rfl) ?_; simp only [nA, ↓reduceIte]
  refine adPo 8 rfl (fun T' ok => zW i rfl (.inl rfl) rfl Tryz.underlying31 rfl (yF hlt5) (by exact yR) (bl rfl)) ⟨_, rfl, by simp⟩ (by kernel_rfl) (by kernel_rfl) ?_; try simp only [nA, Nat.reduceBEq, Nat.reduceEqDiff, ↓reduceIte, Nat.reduceAdd, Nat.reduceSub]
  refine adRo 9 rfl (fun T' ok => zY rfl rfl ag35 yR (bl rfl) (by decide) rfl) ⟨_, rfl, by simp⟩ (by kernel_rfl) (by kernel_rfl) ?_; try simp only [nA, Nat.reduceBEq, Nat.reduceEqDiff, ↓reduceIte, Nat.reduceAdd, Nat.reduceSub]
  refine adJo 5 rfl (OpR.j (zK (row := (((asgF f (l, []) ((ordV bags).take i)).1.getD j default)).av) rfl rfl rfl (yF hjl) ag33 yH (bl rfl) rfl)) (by kernel_rfl) ⟨_, rfl, by simp⟩ ?_; try simp only [nA, Nat.reduceBEq, Nat.reduceEqDiff, ↓reduceIte, Nat.reduceAdd, Nat.reduceSub]
  refine adFo 10 rfl (fun T' ok => op_callS rfl en33 h33 (RL.cons (by exact View.same rfl) (RL.cons (by exact View.same rfl) (RL.nil))) rfl rfl rfl) ⟨_, rfl, by simp⟩ (by kernel_rfl) (by kernel_rfl) ?_; try simp only [nA, Nat.reduceBEq, Nat.reduceEqDiff, ↓reduceIte, Nat.reduceAdd, Nat.reduceSub]
  refine adPo 11 rfl (fun T' ok => zC rfl rfl) ⟨_, rfl, by simp⟩ (by kernel_rfl) (by kernel_rfl) ?_; simp only [nA]
  refine adPo 12 rfl (fun T' ok => z6 rfl rfl rfl) ⟨_, rfl, by simp⟩ (by kernel_rfl) (by kernel_rfl) ?_; try simp only [nA, Nat.reduceBEq, Nat.reduceEqDiff, ↓reduceIte, Nat.reduceAdd, Nat.reduceSub]
  refine adPo 13 rfl (fun T' ok => z6 rfl rfl rfl) ⟨_, rfl, by simp⟩ (by kernel_rfl) (by kernel_rfl) ?_; try simp only [nA, Nat.reduceBEq, Nat.reduceEqDiff, ↓reduceIte, Nat.reduceAdd, Nat.reduceSub]
  refine adPo 14 rfl (fun T' ok => op_ia_sl j 11 rfl rfl rfl ok.choose_spec.1 Tryz.underlying42 rfl hjl (by exact yH) (Nat.zero_add _)) ⟨_, rfl, by simp⟩ (by kernel_rfl) (by kernel_rfl) ?_; try simp only [nA, Nat.reduceBEq, Nat.reduceEqDiff, ↓reduceIte, Nat.reduceAdd, Nat.reduceSub]
  refine adJo 15 rfl (z8 rfl rfl rfl rfl (yF hjl) rfl yH rfl (bl rfl) (es' := ((asgF f (l, []) ((ordV bags).take i)).1.set j (insC ((asgF f (l, []) ((ordV bags).take i)).1.getD j default) ((ordV bags).getD i default))).map Container.av) (set_C _ hjl)) (by kernel_rfl) ⟨_, rfl, by simp⟩ ?_; try simp only [nA, Nat.reduceBEq, Nat.reduceEqDiff, ↓reduceIte, Nat.reduceAdd, Nat.reduceSub]
  refine adDoneo (by kernel_rfl) ?_
  (try simp only [zI, zJ, Nat.reduceEqDiff, ↓reduceIte])
  refine hK _ ?_; clear hK K
  refine zB ?_
  refine zF (zC rfl rfl) ?_
  refine zF (zR rfl rfl rfl (by omega)) ?_
  refine zF (zD rfl rfl) ?_
  skip
  refine zE ?_
  refine ⟨(i + 1, _, _), by dsimp only; omega, by dsimp only; omega, ⟨rfl, (by dsimp only; rw [hstp, List.length_set]; rfl), (by dsimp only; rw [hstp]; rfl), rfl, rfl, trivial⟩, (by dsimp only; rw [hstp]), (by rfl)⟩
 have hc7 := hc; have hie : i = (ordV bags).length := (by have : ¬ i < (ordV bags).length := (by simpa using hc7); omega); rw [hie, List.take_length]
 refine yE ?_; try simp only [zI, zJ, Nat.reduceEqDiff, ↓reduceIte]
 clear hK K
 refine hK _ ?_; clear hK K
 refine zA fun K hK => zB ?_
 refine zF (zC rfl rfl) ?_
 refine zF (zC rfl rfl) ?_
 refine zF (zD rfl rfl) ?_
 refine zF (zD rfl rfl) ?_
 refine zF (zD rfl rfl) ?_
 refine zE (hK _ ?_); clear hK K; simp only [nA, ↓reduceIte]
 refine AW.gh (Gh.freeze 6 (bl rfl) rfl rfl (flatC _) (es' := (asgF f (l, []) (ordV bags)).1.map Container.av) (List.take_of_length_le (by simp))) ?_; (try simp only [nA, Nat.reduceBEq, Nat.reduceEqDiff, ↓reduceIte, Nat.reduceAdd, Nat.reduceSub]); refine AW.gh (Gh.freeze 7 (bl rfl) rfl rfl (av_flatP _) (es' := (asgF f (l, []) (ordV bags)).2.map Piece.av) (List.take_of_length_le (by simp))) ?_; try simp only [nA, Nat.reduceBEq, Nat.reduceEqDiff, ↓reduceIte, Nat.reduceAdd, Nat.reduceSub]
 refine zO ?_; (try simp only [zI, zJ, Nat.reduceEqDiff, ↓reduceIte]); rw [asgV_yes g1 hE]; exact zS rfl (.tmp (bl rfl) rfl rfl (.tmp (bl rfl) rfl rfl (.tmp (bl rfl) rfl rfl .nil)))
end Go.Proofs.YtmdohphcolffmaaGreat
