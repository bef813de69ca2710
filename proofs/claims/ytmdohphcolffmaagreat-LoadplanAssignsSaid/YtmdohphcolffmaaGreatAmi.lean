import Derived.Test.YtmdohphcolffmaaGreatAmh
import Derived.Deep.Slices
import Derived.OpenShut
import Derived.WalkKit
import Derived.ProofKit
namespace Go.Proofs.YtmdohphcolffmaaGreat
set_option maxHeartbeats 8000000
open Go.RowKit
set_option linter.unusedSimpArgs false
set_option linter.unusedVariables false
set_option maxRecDepth 100000
theorem C16r {l : List Int} {k : Nat} {xs : List Container} (hl : l.length ≤ 2000) (hx : xs.length ≤ 1000) (hb : ∀ c ∈ xs, c.pieces.length ≤ 1000) : Fn Tryz.prog 16 [.own 67 [srcRow l k]] [.ptr 0 0 0 0, .ro (xs.map Container.av)] [.ro ((spoilV l k xs).2.map Container.av)] [.own 67 [srcRow l (spoilV l k xs).1]] := by
 have hbD : ∀ i, i < xs.length → (xs.getD i default).pieces.length ≤ 1000 := fun i hi => by
   rw [List.getD_eq_getElem?_getD, List.getElem?_eq_getElem hi]
   exact hb _ (List.getElem_mem hi)
 refine Spec.body Tryz.func16 rfl Tryz.ntmps16 (by simp) rfl ?_; intro S0 own0 v0 w0
 refine zA fun K hK => zB ?_
 refine zF (zD rfl rfl) ?_; try simp only [nA, Nat.reduceBEq, Nat.reduceEqDiff, ↓reduceIte, Nat.reduceAdd, Nat.reduceSub]
 refine zE (hK _ ?_); clear hK K; try simp only [nA, Nat.reduceBEq, Nat.reduceEqDiff, ↓reduceIte, Nat.reduceAdd, Nat.reduceSub]
 refine zA fun K hK => zB ?_
 refine zF (zD rfl rfl) ?_; try simp only [nA, Nat.reduceBEq, Nat.reduceEqDiff, ↓reduceIte, Nat.reduceAdd, Nat.reduceSub]
 refine zE (hK _ ?_); clear hK K
 refine zA fun K hK => ?_
 refine zA fun K hK => zB ?_
 refine zF (zC rfl rfl) ?_; simp only [nA, ↓reduceIte]
 (refine zF (zX rfl rfl Tryz.underlying42 (by exact .inr (.inl ⟨_, rfl, rfl⟩))) ?_); try simp only [nA, Nat.reduceBEq, Nat.reduceEqDiff, ↓reduceIte, Nat.reduceAdd, Nat.reduceSub]
 refine zF (zC rfl rfl) ?_; try simp only [nA, Nat.reduceBEq, Nat.reduceEqDiff, ↓reduceIte, Nat.reduceAdd, Nat.reduceSub]
 refine zE (hK _ ?_); clear hK K
 refine zN ?_
 refine AW.gh (Gh.nil (e := 33) 5 (bl rfl) rfl yH) ?_; (simp only [nA, Nat.reduceBEq, Nat.reduceEqDiff, ↓reduceIte]); refine yC (fun (q : Nat × Nat × Nat) => [(0, .ptr 0 0 0 0), (1, .ro (xs.map Container.av)), (5, .sl 1 q.2.1 0 q.1), (10, .v (.int .i64 (xs.length : Nat))), (11, .v (.int .i64 (q.1 : Nat)))]) (fun q => ⟨[(0, .own 67 [srcRow l k]), (q.2.1, .own 33 ((xs.take q.1).map oav))], q.2.2⟩) (fun q => q.1 ≤ xs.length) (fun q => xs.length - q.1) (0, 1, 2) (by simp) ⟨rfl, rfl, rfl, rfl, rfl, trivial⟩ rfl ?_; rintro ⟨i, v, ep⟩ ρ hi; simp only at hi; simp only [updL]
 refine zA fun K hK => zB ?_
 refine zF (yP rfl rfl rfl) ?_; try simp only [nA, Nat.reduceBEq, Nat.reduceEqDiff, ↓reduceIte, Nat.reduceAdd, Nat.reduceSub]
 refine zE (hK _ ?_); clear hK K
 refine zA fun K hK => ?_
 refine zL rfl rfl rfl (fun hc => ?_) (fun hc => ?_)
 ·
  (try simp only [z7] at hc); have hc1 := hc; have hlt : i < xs.length := (by simpa using hc1); obtain ⟨c, hci⟩ : ∃ c, xs[i]? = some c := ⟨xs[i], List.getElem?_eq_getElem hlt⟩; have hcl := hb c (List.mem_of_getElem? hci)
  refine zM ?_
  refine hK _ ?_; clear hK K
  refine zA fun K hK => zN ?_
  refine zA fun K hK => zB ?_
  refine zF (zC rfl rfl) ?_; simp only [nA, ↓reduceIte]
  refine zF (zD rfl rfl) ?_; simp only [nA]
  refine zE (hK _ ?_); clear hK K
  refine zA fun K hK => zB ?_
  refine zF (zC rfl rfl) ?_; simp only [nA, ↓reduceIte]
  refine zF (zC rfl rfl) ?_; simp only [nA, ↓reduceIte]
  refine zF (zW i rfl (.inl rfl) rfl Tryz.underlying42 rfl (get_of hci) (by exact yH) (bl rfl)) ?_; try simp only [nA, Nat.reduceBEq, Nat.reduceEqDiff, ↓reduceIte, Nat.reduceAdd, Nat.reduceSub]
  refine awR (zY rfl rfl ag33 yH (bl rfl) (by decide) rfl) ?_; try simp only [nA, Nat.reduceBEq, Nat.reduceEqDiff, ↓reduceIte, Nat.reduceAdd, Nat.reduceSub]
  refine yD (op_alloc rfl ze33 rfl) ?_; simp only [nA, Nat.reduceBEq, Nat.reduceEqDiff, ↓reduceIte]
  refine yD (z8 rfl rfl rfl rfl rfl rfl yH rfl (bl rfl) rfl) ?_; simp only [nA, Nat.reduceBEq, Nat.reduceEqDiff, ↓reduceIte]
  refine zE (hK _ ?_); clear hK K
  refine zA fun K hK => zB ?_
  refine yD (zV rfl [] [] Tryz.underlying31 ze35 rfl (by simp) rfl (by simp) rfl (bl rfl) (by simp [maxLen])) ?_; simp only [nA, Nat.reduceBEq, Nat.reduceEqDiff, ↓reduceIte]
  (refine zF (zH rfl rfl rfl fl33_7 (by exact sz31) (by decide) rfl) ?_); try simp only [nA, Nat.reduceBEq, Nat.reduceEqDiff, ↓reduceIte, Nat.reduceAdd, Nat.reduceSub]
  (refine awR (zG rfl rfl rfl rfl ag31 rfl rfl) ?_); try simp only [nA, Nat.reduceBEq, Nat.reduceEqDiff, ↓reduceIte, Nat.reduceAdd, Nat.reduceSub]
  refine yD (op_app rfl rfl rfl rfl rfl .ro Tryz.underlying31 ze35 (by decide) (av_len _) (by simp; omega) (by decide) (List.nil_append _) rfl) ?_; try simp only [nA, Nat.reduceBEq, Nat.reduceEqDiff, ↓reduceIte, Nat.reduceAdd, Nat.reduceSub]
  (refine zF (zH rfl rfl rfl fl33_7 (by exact sz31) (by decide) rfl) ?_); try simp only [nA, Nat.reduceBEq, Nat.reduceEqDiff, ↓reduceIte, Nat.reduceAdd, Nat.reduceSub]
  refine yD (op_store_nest (r := 2) (q := 3) rfl rfl rfl rfl (row := c.av) rfl sz31 rfl (by decide) (by simp) (by simp) (es2 := [oav c]) rfl) ?_; try simp only [nA, Nat.reduceBEq, Nat.reduceEqDiff, ↓reduceIte, Nat.reduceAdd, Nat.reduceSub]
  refine zE (hK _ ?_); clear hK K
  refine zB ?_
  refine zF (zC rfl rfl) ?_; simp only [nA, ↓reduceIte]
  refine AWL.ghE (GhE.unnest (r := 2) (es := [oav c]) (row := oav c) 0 10 rfl rfl rfl) ?_; intro u hu; (try simp only [nA, Nat.reduceBEq, Nat.reduceEqDiff, ↓reduceIte, Nat.reduceAdd, Nat.reduceSub]); (refine awR (zK rfl rfl rfl rfl ag33 yH (bl rfl) rfl) ?_); try simp only [nA, Nat.reduceBEq, Nat.reduceEqDiff, ↓reduceIte, Nat.reduceAdd, Nat.reduceSub]
  refine yD (zV rfl [(0, nuv c u)] [nuv c u] Tryz.underlying42 ze33 rfl (by simp) rfl (by simp) rfl (bl rfl) (by simp [maxLen])) ?_; simp only [nA, Nat.reduceBEq, Nat.reduceEqDiff, ↓reduceIte]
  refine yD (op_app (rows := [nuv c u]) rfl rfl rfl rfl (by simp; omega) (.sl (es := [nuv c u]) rfl rfl) Tryz.underlying42 ze33 (by decide) (by simp) (by simp; omega) (by decide) (es' := (xs.take i).map oav ++ [nuv c u]) rfl (n := i + 1) (by simp; omega)) ?_; (try simp only [nA, Nat.reduceBEq, Nat.reduceEqDiff, ↓reduceIte, Nat.reduceAdd, Nat.reduceSub]); refine AWL.gh (Gh.nest (r := 1) (q := 4) (row := nuv c u) i 10 rfl (nest_row hci) rfl rfl (by decide) (es2 := (xs.take (i + 1)).map oav) (nest_eq hci)) ?_; try simp only [nA, Nat.reduceBEq, Nat.reduceEqDiff, ↓reduceIte, Nat.reduceAdd, Nat.reduceSub]
  refine zF (zD rfl rfl) ?_; simp only [nA]
  refine zE ?_
  (try simp only [zI, zJ, Nat.reduceEqDiff, ↓reduceIte])
  refine hK _ ?_; clear hK K
  refine zB ?_
  (refine zF (zR rfl rfl rfl (by omega)) ?_); try simp only [nA, Nat.reduceBEq, Nat.reduceEqDiff, ↓reduceIte, Nat.reduceAdd, Nat.reduceSub]
  refine zF (zC rfl rfl) ?_; simp only [nA]
  refine AWL.gh (Gh.drop 2) ?_; try simp only [nA, Nat.reduceBEq, Nat.reduceEqDiff, ↓reduceIte, Nat.reduceAdd, Nat.reduceSub]
  refine zE ?_
  refine ⟨(i + 1, _, _), by dsimp only; omega, by dsimp only; omega, ⟨rfl, rfl, rfl, rfl, rfl, trivial⟩, (by rfl), (by rfl)⟩
 (try simp only [z7] at hc); have hc1 := hc; obtain rfl : i = xs.length := (by omega); simp only [List.take_length]
 refine yE ?_; try simp only [zI, zJ, Nat.reduceEqDiff, ↓reduceIte]
 clear hK K
 refine hK _ ?_; clear hK K
 refine zA fun K hK => ?_
 refine zA fun K hK => zB ?_
 refine zF (zC rfl rfl) ?_; simp only [nA, ↓reduceIte]
 (refine zF (op_len_sl rfl rfl rfl Tryz.underlying42) ?_); try simp only [nA, Nat.reduceBEq, Nat.reduceEqDiff, ↓reduceIte, Nat.reduceAdd, Nat.reduceSub]
 (refine zF (op_eql rfl rfl rfl) ?_); try simp only [nA, Nat.reduceBEq, Nat.reduceEqDiff, ↓reduceIte, Nat.reduceAdd, Nat.reduceSub]
 refine zE (hK _ ?_); clear hK K
 refine zL rfl rfl rfl (fun hc => ?_) (fun hc => ?_)
 ·
  (try simp only [z7] at hc); have hc2 := hc; obtain rfl : xs = [] := List.eq_nil_of_length_eq_zero (by simpa using hc2)
  refine zA fun K hK => zB ?_
  refine zF (zC rfl rfl) ?_; simp only [nA, ↓reduceIte]
  refine zF (op_build2 (xs := [.v (.int .i64 0), .v (.string ⟨#[]⟩), .v (.int .i64 0), .v (.string ⟨#[]⟩), .v (.int .i64 0), .v (.int .i64 0), .v (.int .i64 0), .v (.int .i64 0), .v (.int .i64 0), .v (.int .i64 0), .v (.slice none 0 0)]) rfl pl33 ze33 [] rfl rfl rfl) ?_; try simp only [nA, Nat.reduceBEq, Nat.reduceEqDiff, ↓reduceIte, Nat.reduceAdd, Nat.reduceSub]
  refine yD (zV rfl [(0, nav zeroC)] [nav zeroC] Tryz.underlying42 ze33 rfl (by simp) rfl (by simp) rfl (bl rfl) (by simp [maxLen])) ?_; simp only [nA, Nat.reduceBEq, Nat.reduceEqDiff, ↓reduceIte]
  refine yD (op_app (rows := [nav zeroC]) rfl rfl rfl rfl rfl (.sl (es := [nav zeroC]) rfl rfl) Tryz.underlying42 ze33 (by decide) (by simp) (by simp) (by decide) (List.nil_append _) (n := 1) rfl) ?_; try simp only [nA, Nat.reduceBEq, Nat.reduceEqDiff, ↓reduceIte, Nat.reduceAdd, Nat.reduceSub]
  refine zF (zD rfl rfl) ?_; simp only [nA]
  refine zE (hK _ ?_); clear hK K
  refine AW.gh (Gh.slot (r := 1) (es' := [zeroC.av]) rfl rfl zero_le) ?_; (try simp only [nA, Nat.reduceBEq, Nat.reduceEqDiff, ↓reduceIte, Nat.reduceAdd, Nat.reduceSub]); refine AW.gh (Gh.freeze 4 (bl rfl) rfl rfl (cavf [zeroC]) (es' := [zeroC].map Container.av) rfl) ?_; try simp only [nA, Nat.reduceBEq, Nat.reduceEqDiff, ↓reduceIte, Nat.reduceAdd, Nat.reduceSub]
  refine zO ?_; (try simp only [zI, zJ, Nat.reduceEqDiff, ↓reduceIte]); rw [show spoilV l k [] = (k, [zeroC]) from rfl]; exact RQ.of (.inl rfl) rfl (.tmp (bl rfl) rfl rfl .nil) (by simp) rfl (one_out rfl)
 (try simp only [z7] at hc); have hc2 := hc; have h1 : 1 ≤ xs.length := (by simp at hc2; omega); have hix := idxV_lt l k h1
 refine zM ?_
 refine hK _ ?_; clear hK K
 refine zA fun K hK => zB ?_
 refine zF (zC rfl rfl) ?_; simp only [nA, ↓reduceIte]
 refine zF (zC rfl rfl) ?_; simp only [nA, ↓reduceIte]
 (refine zF (op_len_sl rfl rfl rfl Tryz.underlying42) ?_); try simp only [nA, Nat.reduceBEq, Nat.reduceEqDiff, ↓reduceIte, Nat.reduceAdd, Nat.reduceSub]
 refine yD (yQ rfl en18 (C18n (n := xs.length) hl h1 (by omega)) (by exact rfl) (RL.cons .ptr (RL.cons (.base (by exact View.same rfl)) (RL.nil))) (by exact ⟨_, _, _, rfl, rfl, rfl⟩) (by exact rfl) (by exact rfl) (by exact rfl)) ?_; try simp only [nA, Nat.reduceBEq, Nat.reduceEqDiff, ↓reduceIte, Nat.reduceAdd, Nat.reduceSub]
 refine zF (zD rfl rfl) ?_; simp only [nA]
 refine zE (hK _ ?_); clear hK K
 refine zA fun K hK => ?_
 refine zA fun K hK => zB ?_
 refine zF (zC rfl rfl) ?_; simp only [nA, ↓reduceIte]
 refine yD (yQ rfl en18 (C18 (n := 9) hl (by decide)) (by exact rfl) (RL.cons .ptr (RL.cons (.base (by exact View.same rfl)) (RL.nil))) (by exact ⟨_, _, _, rfl, rfl, rfl⟩) (by exact rfl) (by exact rfl) (by exact rfl)) ?_; try simp only [nA, Nat.reduceBEq, Nat.reduceEqDiff, ↓reduceIte, Nat.reduceAdd, Nat.reduceSub]
 refine zE (hK _ ?_); clear hK K
 refine zN ?_
 refine zA fun K hK => zB ?_
 (refine zF (op_eql rfl rfl rfl) ?_); try simp only [nA, Nat.reduceBEq, Nat.reduceEqDiff, ↓reduceIte, Nat.reduceAdd, Nat.reduceSub]
 refine zF (zD rfl rfl) ?_; simp only [nA]
 refine zE (hK _ ?_); clear hK K
 refine zL rfl rfl rfl (fun hc => ?_) (fun hc => ?_)
 ·
  (try simp only [z7] at hc); have hc3 := hc
  refine zB ?_
  refine zF (zC rfl rfl) ?_; simp only [nA, ↓reduceIte]
  refine zF (zC rfl rfl) ?_; simp only [nA, ↓reduceIte]
  refine zF (zC rfl rfl) ?_; simp only [nA, ↓reduceIte]
  refine yD (zV rfl [(0, iv 0), (1, iv 1), (2, iv 999), (3, iv 1000)] (([0, 1, 999, 1000] : List Int).map iv) Tryz.underlying36 ze3 rfl (by simp) (fold_dense 1 (([0, 1, 999, 1000] : List Int).map iv) (iv_len _)) (iv_len _) rfl (bl rfl) (by simp [maxLen])) ?_; (simp only [nA, Nat.reduceBEq, Nat.reduceEqDiff, ↓reduceIte]); refine AWL.gh (Gh.freeze 51 (bl rfl) rfl rfl (iv_flat [0, 1, 999, 1000]) (es' := ([0, 1, 999, 1000] : List Int).map iv) rfl) ?_; try simp only [nA, Nat.reduceBEq, Nat.reduceEqDiff, ↓reduceIte, Nat.reduceAdd, Nat.reduceSub]
  refine yD (yQ rfl en29 (C29 (xs := [0, 1, 999, 1000]) hl (by decide) (by decide)) (by exact rfl) (RL.cons .ptr (RL.cons (.base (by exact View.same rfl)) (RL.nil))) (by exact ⟨_, _, _, rfl, rfl, rfl⟩) (by exact rfl) (by exact rfl) (by exact rfl)) ?_; try simp only [nA, Nat.reduceBEq, Nat.reduceEqDiff, ↓reduceIte, Nat.reduceAdd, Nat.reduceSub]
  (refine zF (op_ia_sl _ _ rfl rfl rfl rfl Tryz.underlying42 rfl (by omega) (by exact yH) rfl) ?_); try simp only [nA, Nat.reduceBEq, Nat.reduceEqDiff, ↓reduceIte, Nat.reduceAdd, Nat.reduceSub]
  (refine zF (zH rfl rfl rfl fl33_0 (by exact sz3) (by decide) rfl) ?_); try simp only [nA, Nat.reduceBEq, Nat.reduceEqDiff, ↓reduceIte, Nat.reduceAdd, Nat.reduceSub]
  refine yD (z8 rfl rfl rfl rfl (yF (f := oav) hix) rfl sz3 rfl (bl rfl) (oav_set (c' := { (xs.getD (yG l k xs.length) default) with number := yI l (zP l (zP l k)) [0, 1, 999, 1000] }) rfl)) ?_; try simp only [nA, Nat.reduceBEq, Nat.reduceEqDiff, ↓reduceIte, Nat.reduceAdd, Nat.reduceSub]
  refine zE ?_
  (try simp only [zI, zJ, Nat.reduceEqDiff, ↓reduceIte])
  refine hK _ ?_; clear hK K
  refine zA fun K hK => zB ?_
  refine zF (zC rfl rfl) ?_; simp only [nA, ↓reduceIte]
  refine zF (zD rfl rfl) ?_; simp only [nA]
  refine zE (hK _ ?_); clear hK K
  refine AW.gh (Gh.freezeN 4 (bl rfl) rfl rfl (by simpa using flat2_cons (xs.set (yG l k xs.length) { (xs.getD (yG l k xs.length) default) with number := yI l (zP l (zP l k)) [0, 1, 999, 1000] }) []) (es' := (xs.set (yG l k xs.length) { (xs.getD (yG l k xs.length) default) with number := yI l (zP l (zP l k)) [0, 1, 999, 1000] }).map Container.av) (by rw [List.take_of_length_le (by simp)]; simpa using fz_cons (xs.set (yG l k xs.length) { (xs.getD (yG l k xs.length) default) with number := yI l (zP l (zP l k)) [0, 1, 999, 1000] }) [])) ?_; try simp only [nA, Nat.reduceBEq, Nat.reduceEqDiff, ↓reduceIte, Nat.reduceAdd, Nat.reduceSub]
  refine zO ?_; (try simp only [zI, zJ, Nat.reduceEqDiff, ↓reduceIte]); rw [show spoilV l k xs = (zP l (zP l (zP l k)), xs.set (yG l k xs.length) { (xs.getD (yG l k xs.length) default) with number := yI l (zP l (zP l k)) [0, 1, 999, 1000] }) by unfold spoilV spF; rw [if_neg (by omega)]; simp only []; rw [if_pos hc3]]; exact RQ.of (.inl rfl) rfl (.tmp (bl rfl) rfl rfl .nil) (by simp) rfl (one_out rfl)
 (try simp only [z7] at hc); have hc3 := hc
 refine zA fun K hK => zB ?_
 (refine zF (op_eql rfl rfl rfl) ?_); try simp only [nA, Nat.reduceBEq, Nat.reduceEqDiff, ↓reduceIte, Nat.reduceAdd, Nat.reduceSub]
 refine zF (zD rfl rfl) ?_; simp only [nA]
 refine zE (hK _ ?_); clear hK K
 refine zL rfl rfl rfl (fun hc => ?_) (fun hc => ?_)
 ·
  (try simp only [z7] at hc); have hc4 := hc
  refine zB ?_
  refine zF (zC rfl rfl) ?_; simp only [nA, ↓reduceIte]
  refine zF (zC rfl rfl) ?_; simp only [nA, ↓reduceIte]
  refine zF (zC rfl rfl) ?_; simp only [nA, ↓reduceIte]
  refine yD (zV rfl [(0, iv (-1)), (1, iv 31), (2, iv 32)] (([-1, 31, 32] : List Int).map iv) Tryz.underlying36 ze3 rfl (by simp) (fold_dense 1 (([-1, 31, 32] : List Int).map iv) (iv_len _)) (iv_len _) rfl (bl rfl) (by simp [maxLen])) ?_; (simp only [nA, Nat.reduceBEq, Nat.reduceEqDiff, ↓reduceIte]); refine AWL.gh (Gh.freeze 60 (bl rfl) rfl rfl (iv_flat [-1, 31, 32]) (es' := ([-1, 31, 32] : List Int).map iv) rfl) ?_; try simp only [nA, Nat.reduceBEq, Nat.reduceEqDiff, ↓reduceIte, Nat.reduceAdd, Nat.reduceSub]
  refine yD (yQ rfl en29 (C29 (xs := [-1, 31, 32]) hl (by decide) (by decide)) (by exact rfl) (RL.cons .ptr (RL.cons (.base (by exact View.same rfl)) (RL.nil))) (by exact ⟨_, _, _, rfl, rfl, rfl⟩) (by exact rfl) (by exact rfl) (by exact rfl)) ?_; try simp only [nA, Nat.reduceBEq, Nat.reduceEqDiff, ↓reduceIte, Nat.reduceAdd, Nat.reduceSub]
  (refine zF (op_ia_sl _ _ rfl rfl rfl rfl Tryz.underlying42 rfl (by omega) (by exact yH) rfl) ?_); try simp only [nA, Nat.reduceBEq, Nat.reduceEqDiff, ↓reduceIte, Nat.reduceAdd, Nat.reduceSub]
  (refine zF (zH rfl rfl rfl fl33_2 (by exact sz3) (by decide) rfl) ?_); try simp only [nA, Nat.reduceBEq, Nat.reduceEqDiff, ↓reduceIte, Nat.reduceAdd, Nat.reduceSub]
  refine yD (z8 rfl rfl rfl rfl (yF (f := oav) hix) rfl sz3 rfl (bl rfl) (oav_set (c' := { (xs.getD (yG l k xs.length) default) with categories := yI l (zP l (zP l k)) [-1, 31, 32] }) rfl)) ?_; try simp only [nA, Nat.reduceBEq, Nat.reduceEqDiff, ↓reduceIte, Nat.reduceAdd, Nat.reduceSub]
  refine zE ?_
  (try simp only [zI, zJ, Nat.reduceEqDiff, ↓reduceIte])
  refine hK _ ?_; clear hK K
  refine zA fun K hK => zB ?_
  refine zF (zC rfl rfl) ?_; simp only [nA, ↓reduceIte]
  refine zF (zD rfl rfl) ?_; simp only [nA]
  refine zE (hK _ ?_); clear hK K
  refine AW.gh (Gh.freezeN 4 (bl rfl) rfl rfl (by simpa using flat2_cons (xs.set (yG l k xs.length) { (xs.getD (yG l k xs.length) default) with categories := yI l (zP l (zP l k)) [-1, 31, 32] }) []) (es' := (xs.set (yG l k xs.length) { (xs.getD (yG l k xs.length) default) with categories := yI l (zP l (zP l k)) [-1, 31, 32] }).map Container.av) (by rw [List.take_of_length_le (by simp)]; simpa using fz_cons (xs.set (yG l k xs.length) { (xs.getD (yG l k xs.length) default) with categories := yI l (zP l (zP l k)) [-1, 31, 32] }) [])) ?_; try simp only [nA, Nat.reduceBEq, Nat.reduceEqDiff, ↓reduceIte, Nat.reduceAdd, Nat.reduceSub]
  refine zO ?_; (try simp only [zI, zJ, Nat.reduceEqDiff, ↓reduceIte]); rw [show spoilV l k xs = (zP l (zP l (zP l k)), xs.set (yG l k xs.length) { (xs.getD (yG l k xs.length) default) with categories := yI l (zP l (zP l k)) [-1, 31, 32] }) by unfold spoilV spF; rw [if_neg (by omega)]; simp only []; rw [if_neg hc3, if_pos hc4]]; exact RQ.of (.inl rfl) rfl (.tmp (bl rfl) rfl rfl .nil) (by simp) rfl (one_out rfl)
 (try simp only [z7] at hc); have hc4 := hc
 refine zA fun K hK => zB ?_
 (refine zF (op_eql rfl rfl rfl) ?_); try simp only [nA, Nat.reduceBEq, Nat.reduceEqDiff, ↓reduceIte, Nat.reduceAdd, Nat.reduceSub]
 refine zF (zD rfl rfl) ?_; simp only [nA]
 refine zE (hK _ ?_); clear hK K
 refine zL rfl rfl rfl (fun hc => ?_) (fun hc => ?_)
 ·
  (try simp only [z7] at hc); have hc5 := hc
  refine zB ?_
  refine zF (zC rfl rfl) ?_; simp only [nA, ↓reduceIte]
  refine zF (zC rfl rfl) ?_; simp only [nA, ↓reduceIte]
  refine zF (zC rfl rfl) ?_; simp only [nA, ↓reduceIte]
  refine yD (zV rfl [(0, iv (-1)), (1, iv 0), (2, iv 20000), (3, iv 20001)] (([-1, 0, 20000, 20001] : List Int).map iv) Tryz.underlying36 ze3 rfl (by simp) (fold_dense 1 (([-1, 0, 20000, 20001] : List Int).map iv) (iv_len _)) (iv_len _) rfl (bl rfl) (by simp [maxLen])) ?_; (simp only [nA, Nat.reduceBEq, Nat.reduceEqDiff, ↓reduceIte]); refine AWL.gh (Gh.freeze 69 (bl rfl) rfl rfl (iv_flat [-1, 0, 20000, 20001]) (es' := ([-1, 0, 20000, 20001] : List Int).map iv) rfl) ?_; try simp only [nA, Nat.reduceBEq, Nat.reduceEqDiff, ↓reduceIte, Nat.reduceAdd, Nat.reduceSub]
  refine yD (yQ rfl en29 (C29 (xs := [-1, 0, 20000, 20001]) hl (by decide) (by decide)) (by exact rfl) (RL.cons .ptr (RL.cons (.base (by exact View.same rfl)) (RL.nil))) (by exact ⟨_, _, _, rfl, rfl, rfl⟩) (by exact rfl) (by exact rfl) (by exact rfl)) ?_; try simp only [nA, Nat.reduceBEq, Nat.reduceEqDiff, ↓reduceIte, Nat.reduceAdd, Nat.reduceSub]
  (refine zF (op_ia_sl _ _ rfl rfl rfl rfl Tryz.underlying42 rfl (by omega) (by exact yH) rfl) ?_); try simp only [nA, Nat.reduceBEq, Nat.reduceEqDiff, ↓reduceIte, Nat.reduceAdd, Nat.reduceSub]
  (refine zF (zH rfl rfl rfl fl33_3 (by exact sz3) (by decide) rfl) ?_); try simp only [nA, Nat.reduceBEq, Nat.reduceEqDiff, ↓reduceIte, Nat.reduceAdd, Nat.reduceSub]
  refine yD (z8 rfl rfl rfl rfl (yF (f := oav) hix) rfl sz3 rfl (bl rfl) (oav_set (c' := { (xs.getD (yG l k xs.length) default) with limit := yI l (zP l (zP l k)) [-1, 0, 20000, 20001] }) rfl)) ?_; try simp only [nA, Nat.reduceBEq, Nat.reduceEqDiff, ↓reduceIte, Nat.reduceAdd, Nat.reduceSub]
  refine zE ?_
  (try simp only [zI, zJ, Nat.reduceEqDiff, ↓reduceIte])
  refine hK _ ?_; clear hK K
  refine zA fun K hK => zB ?_
  refine zF (zC rfl rfl) ?_; simp only [nA, ↓reduceIte]
  refine zF (zD rfl rfl) ?_; simp only [nA]
  refine zE (hK _ ?_); clear hK K
  refine AW.gh (Gh.freezeN 4 (bl rfl) rfl rfl (by simpa using flat2_cons (xs.set (yG l k xs.length) { (xs.getD (yG l k xs.length) default) with limit := yI l (zP l (zP l k)) [-1, 0, 20000, 20001] }) []) (es' := (xs.set (yG l k xs.length) { (xs.getD (yG l k xs.length) default) with limit := yI l (zP l (zP l k)) [-1, 0, 20000, 20001] }).map Container.av) (by rw [List.take_of_length_le (by simp)]; simpa using fz_cons (xs.set (yG l k xs.length) { (xs.getD (yG l k xs.length) default) with limit := yI l (zP l (zP l k)) [-1, 0, 20000, 20001] }) [])) ?_; try simp only [nA, Nat.reduceBEq, Nat.reduceEqDiff, ↓reduceIte, Nat.reduceAdd, Nat.reduceSub]
  refine zO ?_; (try simp only [zI, zJ, Nat.reduceEqDiff, ↓reduceIte]); rw [show spoilV l k xs = (zP l (zP l (zP l k)), xs.set (yG l k xs.length) { (xs.getD (yG l k xs.length) default) with limit := yI l (zP l (zP l k)) [-1, 0, 20000, 20001] }) by unfold spoilV spF; rw [if_neg (by omega)]; simp only []; rw [if_neg hc3, if_neg hc4, if_pos hc5]]; exact RQ.of (.inl rfl) rfl (.tmp (bl rfl) rfl rfl .nil) (by simp) rfl (one_out rfl)
 (try simp only [z7] at hc); have hc5 := hc
 refine zA fun K hK => zB ?_
 (refine zF (op_eql rfl rfl rfl) ?_); try simp only [nA, Nat.reduceBEq, Nat.reduceEqDiff, ↓reduceIte, Nat.reduceAdd, Nat.reduceSub]
 refine zF (zD rfl rfl) ?_; simp only [nA]
 refine zE (hK _ ?_); clear hK K
 refine zL rfl rfl rfl (fun hc => ?_) (fun hc => ?_)
 ·
  (try simp only [z7] at hc); have hc6 := hc
  refine zB ?_
  refine zF (zC rfl rfl) ?_; simp only [nA, ↓reduceIte]
  refine zF (zC rfl rfl) ?_; simp only [nA, ↓reduceIte]
  refine zF (zC rfl rfl) ?_; simp only [nA, ↓reduceIte]
  refine yD (zV rfl [(0, iv (-1)), (1, iv 1), (2, iv 24), (3, iv 25)] (([-1, 1, 24, 25] : List Int).map iv) Tryz.underlying36 ze3 rfl (by simp) (fold_dense 1 (([-1, 1, 24, 25] : List Int).map iv) (iv_len _)) (iv_len _) rfl (bl rfl) (by simp [maxLen])) ?_; (simp only [nA, Nat.reduceBEq, Nat.reduceEqDiff, ↓reduceIte]); refine AWL.gh (Gh.freeze 78 (bl rfl) rfl rfl (iv_flat [-1, 1, 24, 25]) (es' := ([-1, 1, 24, 25] : List Int).map iv) rfl) ?_; try simp only [nA, Nat.reduceBEq, Nat.reduceEqDiff, ↓reduceIte, Nat.reduceAdd, Nat.reduceSub]
  refine yD (yQ rfl en29 (C29 (xs := [-1, 1, 24, 25]) hl (by decide) (by decide)) (by exact rfl) (RL.cons .ptr (RL.cons (.base (by exact View.same rfl)) (RL.nil))) (by exact ⟨_, _, _, rfl, rfl, rfl⟩) (by exact rfl) (by exact rfl) (by exact rfl)) ?_; try simp only [nA, Nat.reduceBEq, Nat.reduceEqDiff, ↓reduceIte, Nat.reduceAdd, Nat.reduceSub]
  (refine zF (op_ia_sl _ _ rfl rfl rfl rfl Tryz.underlying42 rfl (by omega) (by exact yH) rfl) ?_); try simp only [nA, Nat.reduceBEq, Nat.reduceEqDiff, ↓reduceIte, Nat.reduceAdd, Nat.reduceSub]
  (refine zF (zH rfl rfl rfl fl33_5 (by exact sz3) (by decide) rfl) ?_); try simp only [nA, Nat.reduceBEq, Nat.reduceEqDiff, ↓reduceIte, Nat.reduceAdd, Nat.reduceSub]
  refine yD (z8 rfl rfl rfl rfl (yF (f := oav) hix) rfl sz3 rfl (bl rfl) (oav_set (c' := { (xs.getD (yG l k xs.length) default) with position := yI l (zP l (zP l k)) [-1, 1, 24, 25] }) rfl)) ?_; try simp only [nA, Nat.reduceBEq, Nat.reduceEqDiff, ↓reduceIte, Nat.reduceAdd, Nat.reduceSub]
  refine zE ?_
  (try simp only [zI, zJ, Nat.reduceEqDiff, ↓reduceIte])
  refine hK _ ?_; clear hK K
  refine zA fun K hK => zB ?_
  refine zF (zC rfl rfl) ?_; simp only [nA, ↓reduceIte]
  refine zF (zD rfl rfl) ?_; simp only [nA]
  refine zE (hK _ ?_); clear hK K
  refine AW.gh (Gh.freezeN 4 (bl rfl) rfl rfl (by simpa using flat2_cons (xs.set (yG l k xs.length) { (xs.getD (yG l k xs.length) default) with position := yI l (zP l (zP l k)) [-1, 1, 24, 25] }) []) (es' := (xs.set (yG l k xs.length) { (xs.getD (yG l k xs.length) default) with position := yI l (zP l (zP l k)) [-1, 1, 24, 25] }).map Container.av) (by rw [List.take_of_length_le (by simp)]; simpa using fz_cons (xs.set (yG l k xs.length) { (xs.getD (yG l k xs.length) default) with position := yI l (zP l (zP l k)) [-1, 1, 24, 25] }) [])) ?_; try simp only [nA, Nat.reduceBEq, Nat.reduceEqDiff, ↓reduceIte, Nat.reduceAdd, Nat.reduceSub]
  refine zO ?_; (try simp only [zI, zJ, Nat.reduceEqDiff, ↓reduceIte]); rw [show spoilV l k xs = (zP l (zP l (zP l k)), xs.set (yG l k xs.length) { (xs.getD (yG l k xs.length) default) with position := yI l (zP l (zP l k)) [-1, 1, 24, 25] }) by unfold spoilV spF; rw [if_neg (by omega)]; simp only []; rw [if_neg hc3, if_neg hc4, if_neg hc5, if_pos hc6]]; exact RQ.of (.inl rfl) rfl (.tmp (bl rfl) rfl rfl .nil) (by simp) rfl (one_out rfl)
 (try simp only [z7] at hc); have hc6 := hc
 refine zA fun K hK => zB ?_
 (refine zF (op_eql rfl rfl rfl) ?_); try simp only [nA, Nat.reduceBEq, Nat.reduceEqDiff, ↓reduceIte, Nat.reduceAdd, Nat.reduceSub]
 refine zF (zD rfl rfl) ?_; simp only [nA]
 refine zE (hK _ ?_); clear hK K
 refine zL rfl rfl rfl (fun hc => ?_) (fun hc => ?_)
 ·
  (try simp only [z7] at hc); have hc7 := hc
  refine zB ?_
  refine zF (zC rfl rfl) ?_; simp only [nA, ↓reduceIte]
  refine zF (zC rfl rfl) ?_; simp only [nA, ↓reduceIte]
  refine zF (zC rfl rfl) ?_; simp only [nA, ↓reduceIte]
  refine yD (zV rfl [(0, iv (-51)), (1, iv (-50)), (2, iv 50), (3, iv 51)] (([-51, -50, 50, 51] : List Int).map iv) Tryz.underlying36 ze3 rfl (by simp) (fold_dense 1 (([-51, -50, 50, 51] : List Int).map iv) (iv_len _)) (iv_len _) rfl (bl rfl) (by simp [maxLen])) ?_; (simp only [nA, Nat.reduceBEq, Nat.reduceEqDiff, ↓reduceIte]); refine AWL.gh (Gh.freeze 87 (bl rfl) rfl rfl (iv_flat [-51, -50, 50, 51]) (es' := ([-51, -50, 50, 51] : List Int).map iv) rfl) ?_; try simp only [nA, Nat.reduceBEq, Nat.reduceEqDiff, ↓reduceIte, Nat.reduceAdd, Nat.reduceSub]
  refine yD (yQ rfl en29 (C29 (xs := [-51, -50, 50, 51]) hl (by decide) (by decide)) (by exact rfl) (RL.cons .ptr (RL.cons (.base (by exact View.same rfl)) (RL.nil))) (by exact ⟨_, _, _, rfl, rfl, rfl⟩) (by exact rfl) (by exact rfl) (by exact rfl)) ?_; try simp only [nA, Nat.reduceBEq, Nat.reduceEqDiff, ↓reduceIte, Nat.reduceAdd, Nat.reduceSub]
  (refine zF (op_ia_sl _ _ rfl rfl rfl rfl Tryz.underlying42 rfl (by omega) (by exact yH) rfl) ?_); try simp only [nA, Nat.reduceBEq, Nat.reduceEqDiff, ↓reduceIte, Nat.reduceAdd, Nat.reduceSub]
  (refine zF (zH rfl rfl rfl fl33_6 (by exact sz3) (by decide) rfl) ?_); try simp only [nA, Nat.reduceBEq, Nat.reduceEqDiff, ↓reduceIte, Nat.reduceAdd, Nat.reduceSub]
  refine yD (z8 rfl rfl rfl rfl (yF (f := oav) hix) rfl sz3 rfl (bl rfl) (oav_set (c' := { (xs.getD (yG l k xs.length) default) with arm := yI l (zP l (zP l k)) [-51, -50, 50, 51] }) rfl)) ?_; try simp only [nA, Nat.reduceBEq, Nat.reduceEqDiff, ↓reduceIte, Nat.reduceAdd, Nat.reduceSub]
  refine zE ?_
  (try simp only [zI, zJ, Nat.reduceEqDiff, ↓reduceIte])
  refine hK _ ?_; clear hK K
  refine zA fun K hK => zB ?_
  refine zF (zC rfl rfl) ?_; simp only [nA, ↓reduceIte]
  refine zF (zD rfl rfl) ?_; simp only [nA]
  refine zE (hK _ ?_); clear hK K
  refine AW.gh (Gh.freezeN 4 (bl rfl) rfl rfl (by simpa using flat2_cons (xs.set (yG l k xs.length) { (xs.getD (yG l k xs.length) default) with arm := yI l (zP l (zP l k)) [-51, -50, 50, 51] }) []) (es' := (xs.set (yG l k xs.length) { (xs.getD (yG l k xs.length) default) with arm := yI l (zP l (zP l k)) [-51, -50, 50, 51] }).map Container.av) (by rw [List.take_of_length_le (by simp)]; simpa using fz_cons (xs.set (yG l k xs.length) { (xs.getD (yG l k xs.length) default) with arm := yI l (zP l (zP l k)) [-51, -50, 50, 51] }) [])) ?_; try simp only [nA, Nat.reduceBEq, Nat.reduceEqDiff, ↓reduceIte, Nat.reduceAdd, Nat.reduceSub]
  refine zO ?_; (try simp only [zI, zJ, Nat.reduceEqDiff, ↓reduceIte]); rw [show spoilV l k xs = (zP l (zP l (zP l k)), xs.set (yG l k xs.length) { (xs.getD (yG l k xs.length) default) with arm := yI l (zP l (zP l k)) [-51, -50, 50, 51] }) by unfold spoilV spF; rw [if_neg (by omega)]; simp only []; rw [if_neg hc3, if_neg hc4, if_neg hc5, if_neg hc6, if_pos hc7]]; exact RQ.of (.inl rfl) rfl (.tmp (bl rfl) rfl rfl .nil) (by simp) rfl (one_out rfl)
 (try simp only [z7] at hc); have hc7 := hc
 refine zA fun K hK => zB ?_
 (refine zF (op_eql rfl rfl rfl) ?_); try simp only [nA, Nat.reduceBEq, Nat.reduceEqDiff, ↓reduceIte, Nat.reduceAdd, Nat.reduceSub]
 refine zF (zD rfl rfl) ?_; simp only [nA]
 refine zE (hK _ ?_); clear hK K
 refine zL rfl rfl rfl (fun hc => ?_) (fun hc => ?_)
 ·
  (try simp only [z7] at hc); have hc8 := hc
  have hcl9 : (xs.getD (yG l k xs.length) default).pieces.length ≤ 1000 := hbD _ hix
  refine AW.ghE (GhE.unnest (r := 1) (row := oav (xs.getD (yG l k xs.length) default)) (yG l k xs.length) 10 rfl (yF (f := oav) hix) rfl) ?_; intro u hu; try simp only [nA, Nat.reduceBEq, Nat.reduceEqDiff, ↓reduceIte, Nat.reduceAdd, Nat.reduceSub]
  refine AW.aeo (fun T' => T'.slots[1]? = some (v, .own 33 ((xs.map oav).set (yG l k xs.length) ((oav (xs.getD (yG l k xs.length) default)).set 10 (.v u))))) mix rfl ?_
  refine aePo 0 rfl (fun T' ok => zC rfl rfl) rfl (by kernel_rfl) (by kernel_rfl) ?_; simp only [nA, Nat.reduceBEq, Nat.reduceEqDiff, ↓reduceIte]
  refine aePo 1 rfl (fun T' ok => zC rfl rfl) rfl (by kernel_rfl) (by kernel_rfl) ?_; simp only [nA, ↓reduceIte]
  refine aePo 2 rfl (fun T' ok => zC rfl rfl) rfl (by kernel_rfl) (by kernel_rfl) ?_; simp only [nA, ↓reduceIte]
  refine aePo 3 rfl (fun T' ok => zC rfl rfl) rfl (by kernel_rfl) (by kernel_rfl) ?_; simp only [nA, ↓reduceIte]
  refine aePo 4 rfl (fun T' ok => (op_ia_sl (yG l k xs.length) 11 rfl rfl rfl ok Tryz.underlying42 rfl (by omega) (by exact yH) (Nat.zero_add _))) rfl (by kernel_rfl) (by kernel_rfl) ?_; try simp only [nA, Nat.reduceBEq, Nat.reduceEqDiff, ↓reduceIte, Nat.reduceAdd, Nat.reduceSub]
  refine aePo 5 rfl (fun T' ok => (zH rfl rfl ok fl33_7 (by exact sz31) (by decide) rfl)) rfl (by kernel_rfl) (by kernel_rfl) ?_; try simp only [nA, Nat.reduceBEq, Nat.reduceEqDiff, ↓reduceIte, Nat.reduceAdd, Nat.reduceSub]
  refine aeRo 6 rfl (fun T' ok => zG (row := ((oav (xs.getD (yG l k xs.length) default)).set 10 (.v u))) rfl rfl ok (by simp [hix]) ag31 rfl rfl) rfl (by kernel_rfl) (by kernel_rfl) ?_; try simp only [nA, Nat.reduceBEq, Nat.reduceEqDiff, ↓reduceIte, Nat.reduceAdd, Nat.reduceSub]
  refine aePo 7 rfl (fun T' ok => zC rfl rfl) rfl (by kernel_rfl) (by kernel_rfl) ?_; simp only [nA, ↓reduceIte]
  refine aeJo 8 rfl (yQ rfl en11 (C11 (l := l) (k := (zP l (zP l k))) (n := 9) hl (by decide)) (by exact rfl) (RL.cons .ptr (RL.cons (.base (by exact View.same rfl)) (RL.nil))) (by exact ⟨_, _, _, rfl, rfl, rfl⟩) (by exact rfl) (by exact rfl) (by exact rfl)) (by kernel_rfl) rfl ?_; try simp only [nA, Nat.reduceBEq, Nat.reduceEqDiff, ↓reduceIte, Nat.reduceAdd, Nat.reduceSub]
  refine aeJo 9 rfl (zV rfl [(0, (pieceV l (zP l (zP l k)) 9).av)] [(pieceV l (zP l (zP l k)) 9).av] Tryz.underlying31 ze35 rfl (by simp) rfl (by simp) rfl (bl rfl) (by simp [maxLen])) (by kernel_rfl) rfl ?_; simp only [nA, Nat.reduceBEq, Nat.reduceEqDiff, ↓reduceIte]
  refine aeJo 10 rfl (OpJ.nm (t := 99) (r := 2) rfl rfl (op_app (rows := [(pieceV l (zP l (zP l k)) 9).av]) rfl rfl rfl rfl (by simp) (.sl (es := [(pieceV l (zP l (zP l k)) 9).av]) rfl rfl) Tryz.underlying31 ze35 (by decide) (by simp) (by simp only [List.length_map, List.length_cons, List.length_nil]; omega) (by decide) (es' := ((xs.getD (yG l k xs.length) default).pieces ++ [(pieceV l (zP l (zP l k)) 9)]).map Piece.av) (by simp [ldc_v]) (n := ((xs.getD (yG l k xs.length) default).pieces ++ [(pieceV l (zP l (zP l k)) 9)]).length) (by simp))) (by kernel_rfl) rfl ?_; try simp only [nA, Nat.reduceBEq, Nat.reduceEqDiff, ↓reduceIte, Nat.reduceAdd, Nat.reduceSub]
  refine aePo 11 rfl (fun T' ok => (op_ia_sl (yG l k xs.length) 11 rfl rfl rfl ok Tryz.underlying42 rfl (by omega) (by exact yH) (Nat.zero_add _))) rfl (by kernel_rfl) (by kernel_rfl) ?_; try simp only [nA, Nat.reduceBEq, Nat.reduceEqDiff, ↓reduceIte, Nat.reduceAdd, Nat.reduceSub]
  refine aePo 12 rfl (fun T' ok => (zH rfl rfl ok fl33_7 (by exact sz31) (by decide) rfl)) rfl (by kernel_rfl) (by kernel_rfl) ?_; try simp only [nA, Nat.reduceBEq, Nat.reduceEqDiff, ↓reduceIte, Nat.reduceAdd, Nat.reduceSub]
  refine aeLo 13 rfl (op_store_nest (r := 1) (q := 2) rfl rfl rfl rfl (row := ((oav (xs.getD (yG l k xs.length) default)).set 10 (.v u))) (by simp [hix]) sz31 rfl (by decide) (by simp) (by simp) (cons_put hix _)) (by kernel_rfl) (by kernel_rfl) ?_; try simp only [nA, Nat.reduceBEq, Nat.reduceEqDiff, ↓reduceIte, Nat.reduceAdd, Nat.reduceSub]
  refine aeDoneo (by kernel_rfl) ?_
  (try simp only [zI, zJ, Nat.reduceEqDiff, ↓reduceIte]); refine hK _ ?_; clear hK K; (refine zA ?_; intro K hK); refine zB ?_; refine zF (zC rfl rfl) ?_; (simp only [nA, ↓reduceIte]); refine zF (zD rfl rfl) ?_; (simp only [nA]); refine zE ?_; refine hK _ ?_; clear hK K
  refine AW.gh (Gh.freezeN 4 (bl rfl) rfl rfl (by simpa using flat2_cons (xs.set (yG l k xs.length) (addP (xs.getD (yG l k xs.length) default) (pieceV l (zP l (zP l k)) 9))) []) (es' := (xs.set (yG l k xs.length) (addP (xs.getD (yG l k xs.length) default) (pieceV l (zP l (zP l k)) 9))).map Container.av) (by rw [List.take_of_length_le (by simp)]; simpa using fz_cons (xs.set (yG l k xs.length) (addP (xs.getD (yG l k xs.length) default) (pieceV l (zP l (zP l k)) 9))) [])) ?_; try simp only [nA, Nat.reduceBEq, Nat.reduceEqDiff, ↓reduceIte, Nat.reduceAdd, Nat.reduceSub]
  refine zO ?_; (try simp only [zI, zJ, Nat.reduceEqDiff, ↓reduceIte]); rw [show spoilV l k xs = (nx3 l (zP l (zP l k)), xs.set (yG l k xs.length) (addP (xs.getD (yG l k xs.length) default) (pieceV l (zP l (zP l k)) 9))) by unfold spoilV spF; rw [if_neg (by omega)]; simp only []; rw [if_neg hc3, if_neg hc4, if_neg hc5, if_neg hc6, if_neg hc7, if_pos hc8]]; exact RQ.of (.inl rfl) rfl (.tmp (bl rfl) rfl rfl .nil) (by simp) rfl (one_out rfl)
 (try simp only [z7] at hc); have hc8 := hc
 refine zA fun K hK => zB ?_
 (refine zF (op_eql rfl rfl rfl) ?_); try simp only [nA, Nat.reduceBEq, Nat.reduceEqDiff, ↓reduceIte, Nat.reduceAdd, Nat.reduceSub]
 refine zF (zD rfl rfl) ?_; simp only [nA]
 refine zE (hK _ ?_); clear hK K
 refine zL rfl rfl rfl (fun hc => ?_) (fun hc => ?_)
 ·
  (try simp only [z7] at hc); have hc9 := hc
  have hcl9 : (xs.getD (yG l k xs.length) default).pieces.length ≤ 1000 := hbD _ hix
  refine AW.ghE (GhE.unnest (r := 1) (row := oav (xs.getD (yG l k xs.length) default)) (yG l k xs.length) 10 rfl (yF (f := oav) hix) rfl) ?_; intro u hu; try simp only [nA, Nat.reduceBEq, Nat.reduceEqDiff, ↓reduceIte, Nat.reduceAdd, Nat.reduceSub]
  refine AW.aeo (fun T' => T'.slots[1]? = some (v, .own 33 ((xs.map oav).set (yG l k xs.length) ((oav (xs.getD (yG l k xs.length) default)).set 10 (.v u))))) mix rfl ?_
  refine aePo 0 rfl (fun T' ok => zC rfl rfl) rfl (by kernel_rfl) (by kernel_rfl) ?_; simp only [nA, Nat.reduceBEq, Nat.reduceEqDiff, ↓reduceIte]
  refine aePo 1 rfl (fun T' ok => zC rfl rfl) rfl (by kernel_rfl) (by kernel_rfl) ?_; simp only [nA, ↓reduceIte]
  refine aePo 2 rfl (fun T' ok => zC rfl rfl) rfl (by kernel_rfl) (by kernel_rfl) ?_; simp only [nA, ↓reduceIte]
  refine aePo 3 rfl (fun T' ok => zC rfl rfl) rfl (by kernel_rfl) (by kernel_rfl) ?_; simp only [nA, ↓reduceIte]
  refine aePo 4 rfl (fun T' ok => (op_ia_sl (yG l k xs.length) 11 rfl rfl rfl ok Tryz.underlying42 rfl (by omega) (by exact yH) (Nat.zero_add _))) rfl (by kernel_rfl) (by kernel_rfl) ?_; try simp only [nA, Nat.reduceBEq, Nat.reduceEqDiff, ↓reduceIte, Nat.reduceAdd, Nat.reduceSub]
  refine aePo 5 rfl (fun T' ok => (zH rfl rfl ok fl33_7 (by exact sz31) (by decide) rfl)) rfl (by kernel_rfl) (by kernel_rfl) ?_; try simp only [nA, Nat.reduceBEq, Nat.reduceEqDiff, ↓reduceIte, Nat.reduceAdd, Nat.reduceSub]
  refine aeRo 6 rfl (fun T' ok => zG (row := ((oav (xs.getD (yG l k xs.length) default)).set 10 (.v u))) rfl rfl ok (by simp [hix]) ag31 rfl rfl) rfl (by kernel_rfl) (by kernel_rfl) ?_; try simp only [nA, Nat.reduceBEq, Nat.reduceEqDiff, ↓reduceIte, Nat.reduceAdd, Nat.reduceSub]
  refine aePo 8 rfl (fun T' ok => zC rfl rfl) rfl (by kernel_rfl) (by kernel_rfl) ?_; simp only [nA, ↓reduceIte]
  refine aePo 11 rfl (fun T' ok => zC rfl rfl) rfl (by kernel_rfl) (by kernel_rfl) ?_; simp only [nA, ↓reduceIte]
  refine aeFo 7 rfl (fun T' ok => op_callS rfl en30 (C30 (i := 999)) (RL.cons (by exact View.same rfl) (RL.nil)) rfl rfl rfl) rfl (by kernel_rfl) (by kernel_rfl) ?_; try simp only [nA, Nat.reduceBEq, Nat.reduceEqDiff, ↓reduceIte, Nat.reduceAdd, Nat.reduceSub]
  refine aeJ2o 9 12 rfl rfl (zV rfl [(0, iv 0), (1, iv 1), (2, iv 999), (3, iv 1000)] (([0, 1, 999, 1000] : List Int).map iv) Tryz.underlying36 ze3 rfl (by simp) (fold_dense 1 (([0, 1, 999, 1000] : List Int).map iv) (iv_len _)) (iv_len _) rfl (bl rfl) (by simp [maxLen])) (zV rfl [(0, iv (-1)), (1, iv 4), (2, iv 5)] (([-1, 4, 5] : List Int).map iv) Tryz.underlying36 ze3 rfl (by simp) (fold_dense 1 (([-1, 4, 5] : List Int).map iv) (iv_len _)) (iv_len _) rfl (bl rfl) (by simp [maxLen])) (by kernel_rfl) rfl rfl ?_ ?_
  · (simp only [nA, Nat.reduceBEq, Nat.reduceEqDiff, ↓reduceIte])
    refine aeJ2o 10 12 rfl rfl (op_call2 rfl en29 (C29b (l := l) (k := (zP l (zP l k))) (xs := [0, 1, 999, 1000]) hl (by decide) (by decide)) (by exact rfl) (by exact rfl) (by decide) (RL.cons .ptr (RL.cons .sl RL.nil)) (by exact rfl) (by exact rfl) (by exact rfl) (by exact rfl) (by exact rfl)) (zV rfl [(0, iv (-1)), (1, iv 4), (2, iv 5)] (([-1, 4, 5] : List Int).map iv) Tryz.underlying36 ze3 rfl (by simp) (fold_dense 1 (([-1, 4, 5] : List Int).map iv) (iv_len _)) (iv_len _) rfl (bl rfl) (by simp [maxLen])) (by kernel_rfl) rfl rfl ?_ ?_
    · (try simp only [nA, Nat.reduceBEq, Nat.reduceEqDiff, ↓reduceIte, Nat.reduceAdd, Nat.reduceSub])
      refine aeJo 12 rfl (zV rfl [(0, iv (-1)), (1, iv 4), (2, iv 5)] (([-1, 4, 5] : List Int).map iv) Tryz.underlying36 ze3 rfl (by simp) (fold_dense 1 (([-1, 4, 5] : List Int).map iv) (iv_len _)) (iv_len _) rfl (bl rfl) (by simp [maxLen])) (by kernel_rfl) rfl ?_; simp only [nA, Nat.reduceBEq, Nat.reduceEqDiff, ↓reduceIte]
      refine aeJo 13 rfl (op_call2 rfl en29 (C29b (l := l) (k := zP l (zP l (zP l k))) (xs := [-1, 4, 5]) hl (by decide) (by decide)) (by exact rfl) (by exact rfl) (by decide) (RL.cons .ptr (RL.cons .sl RL.nil)) (by exact rfl) (by exact rfl) (by exact rfl) (by exact rfl) (by exact rfl)) (by kernel_rfl) rfl ?_; try simp only [nA, Nat.reduceBEq, Nat.reduceEqDiff, ↓reduceIte, Nat.reduceAdd, Nat.reduceSub]
      refine aePo 14 rfl (fun T' ok => op_build2 (xs := [_, _, _, _, _]) rfl pl35 ze35 [(0, [_, _, _]), (1, [_]), (2, [_])] rfl rfl rfl) rfl (by kernel_rfl) (by kernel_rfl) ?_; simp only [nA, ↓reduceIte]
      refine aeJo 15 rfl (zV rfl [(0, (⟨yT 999, yI l (zP l (zP l k)) [0, 1, 999, 1000], yI l (zP l (zP l (zP l k))) [-1, 4, 5]⟩ : Piece).av)] [(⟨yT 999, yI l (zP l (zP l k)) [0, 1, 999, 1000], yI l (zP l (zP l (zP l k))) [-1, 4, 5]⟩ : Piece).av] Tryz.underlying31 ze35 rfl (by simp) rfl (by simp) rfl (bl rfl) (by simp [maxLen])) (by kernel_rfl) rfl ?_; simp only [nA, Nat.reduceBEq, Nat.reduceEqDiff, ↓reduceIte]
      refine aeJo 16 rfl (OpJ.nm (t := 114) (r := 2) rfl rfl (op_app (rows := [(⟨yT 999, yI l (zP l (zP l k)) [0, 1, 999, 1000], yI l (zP l (zP l (zP l k))) [-1, 4, 5]⟩ : Piece).av]) rfl rfl rfl rfl (by simp) (.sl (es := [(⟨yT 999, yI l (zP l (zP l k)) [0, 1, 999, 1000], yI l (zP l (zP l (zP l k))) [-1, 4, 5]⟩ : Piece).av]) rfl rfl) Tryz.underlying31 ze35 (by decide) (by simp) (by simp only [List.length_map, List.length_cons, List.length_nil]; omega) (by decide) (es' := ((xs.getD (yG l k xs.length) default).pieces ++ [(⟨yT 999, yI l (zP l (zP l k)) [0, 1, 999, 1000], yI l (zP l (zP l (zP l k))) [-1, 4, 5]⟩ : Piece)]).map Piece.av) (by simp [ldc_v]) (n := ((xs.getD (yG l k xs.length) default).pieces ++ [(⟨yT 999, yI l (zP l (zP l k)) [0, 1, 999, 1000], yI l (zP l (zP l (zP l k))) [-1, 4, 5]⟩ : Piece)]).length) (by simp))) (by kernel_rfl) rfl ?_; try simp only [nA, Nat.reduceBEq, Nat.reduceEqDiff, ↓reduceIte, Nat.reduceAdd, Nat.reduceSub]
      refine aePo 17 rfl (fun T' ok => (op_ia_sl (yG l k xs.length) 11 rfl rfl rfl ok Tryz.underlying42 rfl (by omega) (by exact yH) (Nat.zero_add _))) rfl (by kernel_rfl) (by kernel_rfl) ?_; try simp only [nA, Nat.reduceBEq, Nat.reduceEqDiff, ↓reduceIte, Nat.reduceAdd, Nat.reduceSub]
      refine aePo 18 rfl (fun T' ok => (zH rfl rfl ok fl33_7 (by exact sz31) (by decide) rfl)) rfl (by kernel_rfl) (by kernel_rfl) ?_; try simp only [nA, Nat.reduceBEq, Nat.reduceEqDiff, ↓reduceIte, Nat.reduceAdd, Nat.reduceSub]
      refine aeLo 19 rfl (op_store_nest (r := 1) (q := 2) rfl rfl rfl rfl (row := ((oav (xs.getD (yG l k xs.length) default)).set 10 (.v u))) (by simp [hix]) sz31 rfl (by decide) (by simp) (by simp) (cons_put hix _)) (by kernel_rfl) (by kernel_rfl) ?_; try simp only [nA, Nat.reduceBEq, Nat.reduceEqDiff, ↓reduceIte, Nat.reduceAdd, Nat.reduceSub]
      refine aeDoneo (by kernel_rfl) ?_
      (try simp only [zI, zJ, Nat.reduceEqDiff, ↓reduceIte]); refine hK _ ?_; clear hK K; (refine zA ?_; intro K hK); refine zB ?_; refine zF (zC rfl rfl) ?_; (simp only [nA, ↓reduceIte]); refine zF (zD rfl rfl) ?_; (simp only [nA]); refine zE ?_; refine hK _ ?_; clear hK K
      refine AW.gh (Gh.freezeN 4 (bl rfl) rfl rfl (by simpa using flat2_cons (xs.set (yG l k xs.length) (addP (xs.getD (yG l k xs.length) default) (⟨yT 999, yI l (zP l (zP l k)) [0, 1, 999, 1000], yI l (zP l (zP l (zP l k))) [-1, 4, 5]⟩ : Piece))) []) (es' := (xs.set (yG l k xs.length) (addP (xs.getD (yG l k xs.length) default) (⟨yT 999, yI l (zP l (zP l k)) [0, 1, 999, 1000], yI l (zP l (zP l (zP l k))) [-1, 4, 5]⟩ : Piece))).map Container.av) (by rw [List.take_of_length_le (by simp)]; simpa using fz_cons (xs.set (yG l k xs.length) (addP (xs.getD (yG l k xs.length) default) (⟨yT 999, yI l (zP l (zP l k)) [0, 1, 999, 1000], yI l (zP l (zP l (zP l k))) [-1, 4, 5]⟩ : Piece))) [])) ?_; try simp only [nA, Nat.reduceBEq, Nat.reduceEqDiff, ↓reduceIte, Nat.reduceAdd, Nat.reduceSub]
      refine zO ?_; (try simp only [zI, zJ, Nat.reduceEqDiff, ↓reduceIte]); rw [show spoilV l k xs = (nx2 l (zP l (zP l k)), xs.set (yG l k xs.length) (addP (xs.getD (yG l k xs.length) default) (⟨yT 999, yI l (zP l (zP l k)) [0, 1, 999, 1000], yI l (zP l (zP l (zP l k))) [-1, 4, 5]⟩ : Piece))) by unfold spoilV spF; rw [if_neg (by omega)]; simp only []; rw [if_neg hc3, if_neg hc4, if_neg hc5, if_neg hc6, if_neg hc7, if_neg hc8, if_pos hc9]]; exact RQ.of (.inl rfl) rfl (.tmp (bl rfl) rfl rfl .nil) (by simp) rfl (one_out rfl)
    (simp only [nA, Nat.reduceBEq, Nat.reduceEqDiff, ↓reduceIte])
    refine aeJo 10 rfl (op_call2 rfl en29 (C29b (l := l) (k := (zP l (zP l k))) (xs := [0, 1, 999, 1000]) hl (by decide) (by decide)) (by exact rfl) (by exact rfl) (by decide) (RL.cons .ptr (RL.cons .sl RL.nil)) (by exact rfl) (by exact rfl) (by exact rfl) (by exact rfl) (by exact rfl)) (by kernel_rfl) rfl ?_; try simp only [nA, Nat.reduceBEq, Nat.reduceEqDiff, ↓reduceIte, Nat.reduceAdd, Nat.reduceSub]
    refine aeJo 13 rfl (op_call2 rfl en29 (C29b (l := l) (k := zP l (zP l (zP l k))) (xs := [-1, 4, 5]) hl (by decide) (by decide)) (by exact rfl) (by exact rfl) (by decide) (RL.cons .ptr (RL.cons .sl RL.nil)) (by exact rfl) (by exact rfl) (by exact rfl) (by exact rfl) (by exact rfl)) (by kernel_rfl) rfl ?_; try simp only [nA, Nat.reduceBEq, Nat.reduceEqDiff, ↓reduceIte, Nat.reduceAdd, Nat.reduceSub]
    refine aePo 14 rfl (fun T' ok => op_build2 (xs := [_, _, _, _, _]) rfl pl35 ze35 [(0, [_, _, _]), (1, [_]), (2, [_])] rfl rfl rfl) rfl (by kernel_rfl) (by kernel_rfl) ?_; simp only [nA, ↓reduceIte]
    refine aeJo 15 rfl (zV rfl [(0, (⟨yT 999, yI l (zP l (zP l k)) [0, 1, 999, 1000], yI l (zP l (zP l (zP l k))) [-1, 4, 5]⟩ : Piece).av)] [(⟨yT 999, yI l (zP l (zP l k)) [0, 1, 999, 1000], yI l (zP l (zP l (zP l k))) [-1, 4, 5]⟩ : Piece).av] Tryz.underlying31 ze35 rfl (by simp) rfl (by simp) rfl (bl rfl) (by simp [maxLen])) (by kernel_rfl) rfl ?_; simp only [nA, Nat.reduceBEq, Nat.reduceEqDiff, ↓reduceIte]
    refine aeJo 16 rfl (OpJ.nm (t := 114) (r := 2) rfl rfl (op_app (rows := [(⟨yT 999, yI l (zP l (zP l k)) [0, 1, 999, 1000], yI l (zP l (zP l (zP l k))) [-1, 4, 5]⟩ : Piece).av]) rfl rfl rfl rfl (by simp) (.sl (es := [(⟨yT 999, yI l (zP l (zP l k)) [0, 1, 999, 1000], yI l (zP l (zP l (zP l k))) [-1, 4, 5]⟩ : Piece).av]) rfl rfl) Tryz.underlying31 ze35 (by decide) (by simp) (by simp only [List.length_map, List.length_cons, List.length_nil]; omega) (by decide) (es' := ((xs.getD (yG l k xs.length) default).pieces ++ [(⟨yT 999, yI l (zP l (zP l k)) [0, 1, 999, 1000], yI l (zP l (zP l (zP l k))) [-1, 4, 5]⟩ : Piece)]).map Piece.av) (by simp [ldc_v]) (n := ((xs.getD (yG l k xs.length) default).pieces ++ [(⟨yT 999, yI l (zP l (zP l k)) [0, 1, 999, 1000], yI l (zP l (zP l (zP l k))) [-1, 4, 5]⟩ : Piece)]).length) (by simp))) (by kernel_rfl) rfl ?_; try simp only [nA, Nat.reduceBEq, Nat.reduceEqDiff, ↓reduceIte, Nat.reduceAdd, Nat.reduceSub]
    refine aePo 17 rfl (fun T' ok => (op_ia_sl (yG l k xs.length) 11 rfl rfl rfl ok Tryz.underlying42 rfl (by omega) (by exact yH) (Nat.zero_add _))) rfl (by kernel_rfl) (by kernel_rfl) ?_; try simp only [nA, Nat.reduceBEq, Nat.reduceEqDiff, ↓reduceIte, Nat.reduceAdd, Nat.reduceSub]
    refine aePo 18 rfl (fun T' ok => (zH rfl rfl ok fl33_7 (by exact sz31) (by decide) rfl)) rfl (by kernel_rfl) (by kernel_rfl) ?_; try simp only [nA, Nat.reduceBEq, Nat.reduceEqDiff, ↓reduceIte, Nat.reduceAdd, Nat.reduceSub]
    refine aeLo 19 rfl (op_store_nest (r := 1) (q := 2) rfl rfl rfl rfl (row := ((oav (xs.getD (yG l k xs.length) default)).set 10 (.v u))) (by simp [hix]) sz31 rfl (by decide) (by simp) (by simp) (cons_put hix _)) (by kernel_rfl) (by kernel_rfl) ?_; try simp only [nA, Nat.reduceBEq, Nat.reduceEqDiff, ↓reduceIte, Nat.reduceAdd, Nat.reduceSub]
    refine aeDoneo (by kernel_rfl) ?_
    (try simp only [zI, zJ, Nat.reduceEqDiff, ↓reduceIte]); refine hK _ ?_; clear hK K; (refine zA ?_; intro K hK); refine zB ?_; refine zF (zC rfl rfl) ?_; (simp only [nA, ↓reduceIte]); refine zF (zD rfl rfl) ?_; (simp only [nA]); refine zE ?_; refine hK _ ?_; clear hK K
    refine AW.gh (Gh.freezeN 4 (bl rfl) rfl rfl (by simpa using flat2_cons (xs.set (yG l k xs.length) (addP (xs.getD (yG l k xs.length) default) (⟨yT 999, yI l (zP l (zP l k)) [0, 1, 999, 1000], yI l (zP l (zP l (zP l k))) [-1, 4, 5]⟩ : Piece))) []) (es' := (xs.set (yG l k xs.length) (addP (xs.getD (yG l k xs.length) default) (⟨yT 999, yI l (zP l (zP l k)) [0, 1, 999, 1000], yI l (zP l (zP l (zP l k))) [-1, 4, 5]⟩ : Piece))).map Container.av) (by rw [List.take_of_length_le (by simp)]; simpa using fz_cons (xs.set (yG l k xs.length) (addP (xs.getD (yG l k xs.length) default) (⟨yT 999, yI l (zP l (zP l k)) [0, 1, 999, 1000], yI l (zP l (zP l (zP l k))) [-1, 4, 5]⟩ : Piece))) [])) ?_; try simp only [nA, Nat.reduceBEq, Nat.reduceEqDiff, ↓reduceIte, Nat.reduceAdd, Nat.reduceSub]
    refine zO ?_; (try simp only [zI, zJ, Nat.reduceEqDiff, ↓reduceIte]); rw [show spoilV l k xs = (nx2 l (zP l (zP l k)), xs.set (yG l k xs.length) (addP (xs.getD (yG l k xs.length) default) (⟨yT 999, yI l (zP l (zP l k)) [0, 1, 999, 1000], yI l (zP l (zP l (zP l k))) [-1, 4, 5]⟩ : Piece))) by unfold spoilV spF; rw [if_neg (by omega)]; simp only []; rw [if_neg hc3, if_neg hc4, if_neg hc5, if_neg hc6, if_neg hc7, if_neg hc8, if_pos hc9]]; exact RQ.of (.inl rfl) rfl (.tmp (bl rfl) rfl rfl .nil) (by simp) rfl (one_out rfl)
  (simp only [nA, Nat.reduceBEq, Nat.reduceEqDiff, ↓reduceIte])
  refine aeJo 9 rfl (zV rfl [(0, iv 0), (1, iv 1), (2, iv 999), (3, iv 1000)] (([0, 1, 999, 1000] : List Int).map iv) Tryz.underlying36 ze3 rfl (by simp) (fold_dense 1 (([0, 1, 999, 1000] : List Int).map iv) (iv_len _)) (iv_len _) rfl (bl rfl) (by simp [maxLen])) (by kernel_rfl) rfl ?_; simp only [nA, Nat.reduceBEq, Nat.reduceEqDiff, ↓reduceIte]
  refine aeJo 10 rfl (op_call2 rfl en29 (C29b (l := l) (k := (zP l (zP l k))) (xs := [0, 1, 999, 1000]) hl (by decide) (by decide)) (by exact rfl) (by exact rfl) (by decide) (RL.cons .ptr (RL.cons .sl RL.nil)) (by exact rfl) (by exact rfl) (by exact rfl) (by exact rfl) (by exact rfl)) (by kernel_rfl) rfl ?_; try simp only [nA, Nat.reduceBEq, Nat.reduceEqDiff, ↓reduceIte, Nat.reduceAdd, Nat.reduceSub]
  refine aeJo 13 rfl (op_call2 rfl en29 (C29b (l := l) (k := zP l (zP l (zP l k))) (xs := [-1, 4, 5]) hl (by decide) (by decide)) (by exact rfl) (by exact rfl) (by decide) (RL.cons .ptr (RL.cons .sl RL.nil)) (by exact rfl) (by exact rfl) (by exact rfl) (by exact rfl) (by exact rfl)) (by kernel_rfl) rfl ?_; try simp only [nA, Nat.reduceBEq, Nat.reduceEqDiff, ↓reduceIte, Nat.reduceAdd, Nat.reduceSub]
  refine aePo 14 rfl (fun T' ok => op_build2 (xs := [_, _, _, _, _]) rfl pl35 ze35 [(0, [_, _, _]), (1, [_]), (2, [_])] rfl rfl rfl) rfl (by kernel_rfl) (by kernel_rfl) ?_; simp only [nA, ↓reduceIte]
  refine aeJo 15 rfl (zV rfl [(0, (⟨yT 999, yI l (zP l (zP l k)) [0, 1, 999, 1000], yI l (zP l (zP l (zP l k))) [-1, 4, 5]⟩ : Piece).av)] [(⟨yT 999, yI l (zP l (zP l k)) [0, 1, 999, 1000], yI l (zP l (zP l (zP l k))) [-1, 4, 5]⟩ : Piece).av] Tryz.underlying31 ze35 rfl (by simp) rfl (by simp) rfl (bl rfl) (by simp [maxLen])) (by kernel_rfl) rfl ?_; simp only [nA, Nat.reduceBEq, Nat.reduceEqDiff, ↓reduceIte]
  refine aeJo 16 rfl (OpJ.nm (t := 114) (r := 2) rfl rfl (op_app (rows := [(⟨yT 999, yI l (zP l (zP l k)) [0, 1, 999, 1000], yI l (zP l (zP l (zP l k))) [-1, 4, 5]⟩ : Piece).av]) rfl rfl rfl rfl (by simp) (.sl (es := [(⟨yT 999, yI l (zP l (zP l k)) [0, 1, 999, 1000], yI l (zP l (zP l (zP l k))) [-1, 4, 5]⟩ : Piece).av]) rfl rfl) Tryz.underlying31 ze35 (by decide) (by simp) (by simp only [List.length_map, List.length_cons, List.length_nil]; omega) (by decide) (es' := ((xs.getD (yG l k xs.length) default).pieces ++ [(⟨yT 999, yI l (zP l (zP l k)) [0, 1, 999, 1000], yI l (zP l (zP l (zP l k))) [-1, 4, 5]⟩ : Piece)]).map Piece.av) (by simp [ldc_v]) (n := ((xs.getD (yG l k xs.length) default).pieces ++ [(⟨yT 999, yI l (zP l (zP l k)) [0, 1, 999, 1000], yI l (zP l (zP l (zP l k))) [-1, 4, 5]⟩ : Piece)]).length) (by simp))) (by kernel_rfl) rfl ?_; try simp only [nA, Nat.reduceBEq, Nat.reduceEqDiff, ↓reduceIte, Nat.reduceAdd, Nat.reduceSub]
  refine aePo 17 rfl (fun T' ok => (op_ia_sl (yG l k xs.length) 11 rfl rfl rfl ok Tryz.underlying42 rfl (by omega) (by exact yH) (Nat.zero_add _))) rfl (by kernel_rfl) (by kernel_rfl) ?_; try simp only [nA, Nat.reduceBEq, Nat.reduceEqDiff, ↓reduceIte, Nat.reduceAdd, Nat.reduceSub]
  refine aePo 18 rfl (fun T' ok => (zH rfl rfl ok fl33_7 (by exact sz31) (by decide) rfl)) rfl (by kernel_rfl) (by kernel_rfl) ?_; try simp only [nA, Nat.reduceBEq, Nat.reduceEqDiff, ↓reduceIte, Nat.reduceAdd, Nat.reduceSub]
  refine aeLo 19 rfl (op_store_nest (r := 1) (q := 2) rfl rfl rfl rfl (row := ((oav (xs.getD (yG l k xs.length) default)).set 10 (.v u))) (by simp [hix]) sz31 rfl (by decide) (by simp) (by simp) (cons_put hix _)) (by kernel_rfl) (by kernel_rfl) ?_; try simp only [nA, Nat.reduceBEq, Nat.reduceEqDiff, ↓reduceIte, Nat.reduceAdd, Nat.reduceSub]
  refine aeDoneo (by kernel_rfl) ?_
  (try simp only [zI, zJ, Nat.reduceEqDiff, ↓reduceIte]); refine hK _ ?_; clear hK K; (refine zA ?_; intro K hK); refine zB ?_; refine zF (zC rfl rfl) ?_; (simp only [nA, ↓reduceIte]); refine zF (zD rfl rfl) ?_; (simp only [nA]); refine zE ?_; refine hK _ ?_; clear hK K
  refine AW.gh (Gh.freezeN 4 (bl rfl) rfl rfl (by simpa using flat2_cons (xs.set (yG l k xs.length) (addP (xs.getD (yG l k xs.length) default) (⟨yT 999, yI l (zP l (zP l k)) [0, 1, 999, 1000], yI l (zP l (zP l (zP l k))) [-1, 4, 5]⟩ : Piece))) []) (es' := (xs.set (yG l k xs.length) (addP (xs.getD (yG l k xs.length) default) (⟨yT 999, yI l (zP l (zP l k)) [0, 1, 999, 1000], yI l (zP l (zP l (zP l k))) [-1, 4, 5]⟩ : Piece))).map Container.av) (by rw [List.take_of_length_le (by simp)]; simpa using fz_cons (xs.set (yG l k xs.length) (addP (xs.getD (yG l k xs.length) default) (⟨yT 999, yI l (zP l (zP l k)) [0, 1, 999, 1000], yI l (zP l (zP l (zP l k))) [-1, 4, 5]⟩ : Piece))) [])) ?_; try simp only [nA, Nat.reduceBEq, Nat.reduceEqDiff, ↓reduceIte, Nat.reduceAdd, Nat.reduceSub]
  refine zO ?_; (try simp only [zI, zJ, Nat.reduceEqDiff, ↓reduceIte]); rw [show spoilV l k xs = (nx2 l (zP l (zP l k)), xs.set (yG l k xs.length) (addP (xs.getD (yG l k xs.length) default) (⟨yT 999, yI l (zP l (zP l k)) [0, 1, 999, 1000], yI l (zP l (zP l (zP l k))) [-1, 4, 5]⟩ : Piece))) by unfold spoilV spF; rw [if_neg (by omega)]; simp only []; rw [if_neg hc3, if_neg hc4, if_neg hc5, if_neg hc6, if_neg hc7, if_neg hc8, if_pos hc9]]; exact RQ.of (.inl rfl) rfl (.tmp (bl rfl) rfl rfl .nil) (by simp) rfl (one_out rfl)
 (try simp only [z7] at hc); have hc9 := hc
 refine zA fun K hK => zB ?_
 (refine zF (op_eql rfl rfl rfl) ?_); try simp only [nA, Nat.reduceBEq, Nat.reduceEqDiff, ↓reduceIte, Nat.reduceAdd, Nat.reduceSub]
 refine zF (zD rfl rfl) ?_; simp only [nA]
 refine zE (hK _ ?_); clear hK K
 refine zL rfl rfl rfl (fun hc => ?_) (fun hc => ?_)
 ·
  (try simp only [z7] at hc); have hc10 := hc
  refine zB ?_
  refine zF (zC rfl rfl) ?_; simp only [nA, ↓reduceIte]
  refine zF (zC rfl rfl) ?_; simp only [nA, ↓reduceIte]
  refine zF (zC rfl rfl) ?_; simp only [nA, ↓reduceIte]
  refine yD (zV rfl [(0, iv (-1)), (1, iv 0), (2, iv 60), (3, iv 61)] (([-1, 0, 60, 61] : List Int).map iv) Tryz.underlying36 ze3 rfl (by simp) (fold_dense 1 (([-1, 0, 60, 61] : List Int).map iv) (iv_len _)) (iv_len _) rfl (bl rfl) (by simp [maxLen])) ?_; (simp only [nA, Nat.reduceBEq, Nat.reduceEqDiff, ↓reduceIte]); refine AWL.gh (Gh.freeze 132 (bl rfl) rfl rfl (iv_flat [-1, 0, 60, 61]) (es' := ([-1, 0, 60, 61] : List Int).map iv) rfl) ?_; try simp only [nA, Nat.reduceBEq, Nat.reduceEqDiff, ↓reduceIte, Nat.reduceAdd, Nat.reduceSub]
  refine yD (yQ rfl en29 (C29 (xs := [-1, 0, 60, 61]) hl (by decide) (by decide)) (by exact rfl) (RL.cons .ptr (RL.cons (.base (by exact View.same rfl)) (RL.nil))) (by exact ⟨_, _, _, rfl, rfl, rfl⟩) (by exact rfl) (by exact rfl) (by exact rfl)) ?_; try simp only [nA, Nat.reduceBEq, Nat.reduceEqDiff, ↓reduceIte, Nat.reduceAdd, Nat.reduceSub]
  (refine zF (op_ia_sl _ _ rfl rfl rfl rfl Tryz.underlying42 rfl (by omega) (by exact yH) rfl) ?_); try simp only [nA, Nat.reduceBEq, Nat.reduceEqDiff, ↓reduceIte, Nat.reduceAdd, Nat.reduceSub]
  (refine zF (zH rfl rfl rfl fl33_4 (by exact sz3) (by decide) rfl) ?_); try simp only [nA, Nat.reduceBEq, Nat.reduceEqDiff, ↓reduceIte, Nat.reduceAdd, Nat.reduceSub]
  refine yD (z8 rfl rfl rfl rfl (yF (f := oav) hix) rfl sz3 rfl (bl rfl) (oav_set (c' := { (xs.getD (yG l k xs.length) default) with most := yI l (zP l (zP l k)) [-1, 0, 60, 61] }) rfl)) ?_; try simp only [nA, Nat.reduceBEq, Nat.reduceEqDiff, ↓reduceIte, Nat.reduceAdd, Nat.reduceSub]
  refine zE ?_
  (try simp only [zI, zJ, Nat.reduceEqDiff, ↓reduceIte])
  refine hK _ ?_; clear hK K
  refine zA fun K hK => zB ?_
  refine zF (zC rfl rfl) ?_; simp only [nA, ↓reduceIte]
  refine zF (zD rfl rfl) ?_; simp only [nA]
  refine zE (hK _ ?_); clear hK K
  refine AW.gh (Gh.freezeN 4 (bl rfl) rfl rfl (by simpa using flat2_cons (xs.set (yG l k xs.length) { (xs.getD (yG l k xs.length) default) with most := yI l (zP l (zP l k)) [-1, 0, 60, 61] }) []) (es' := (xs.set (yG l k xs.length) { (xs.getD (yG l k xs.length) default) with most := yI l (zP l (zP l k)) [-1, 0, 60, 61] }).map Container.av) (by rw [List.take_of_length_le (by simp)]; simpa using fz_cons (xs.set (yG l k xs.length) { (xs.getD (yG l k xs.length) default) with most := yI l (zP l (zP l k)) [-1, 0, 60, 61] }) [])) ?_; try simp only [nA, Nat.reduceBEq, Nat.reduceEqDiff, ↓reduceIte, Nat.reduceAdd, Nat.reduceSub]
  refine zO ?_; (try simp only [zI, zJ, Nat.reduceEqDiff, ↓reduceIte]); rw [show spoilV l k xs = (zP l (zP l (zP l k)), xs.set (yG l k xs.length) { (xs.getD (yG l k xs.length) default) with most := yI l (zP l (zP l k)) [-1, 0, 60, 61] }) by unfold spoilV spF; rw [if_neg (by omega)]; simp only []; rw [if_neg hc3, if_neg hc4, if_neg hc5, if_neg hc6, if_neg hc7, if_neg hc8, if_neg hc9, if_pos hc10]]; exact RQ.of (.inl rfl) rfl (.tmp (bl rfl) rfl rfl .nil) (by simp) rfl (one_out rfl)
 (try simp only [z7] at hc); have hc10 := hc
 refine zB ?_
 refine zF (zC rfl rfl) ?_; simp only [nA, ↓reduceIte]
 refine zF (zC rfl rfl) ?_; simp only [nA, ↓reduceIte]
 (refine zF (op_ia_sl _ _ rfl rfl rfl rfl Tryz.underlying42 rfl (by omega) (by exact yH) rfl) ?_); try simp only [nA, Nat.reduceBEq, Nat.reduceEqDiff, ↓reduceIte, Nat.reduceAdd, Nat.reduceSub]
 (refine zF (zH rfl rfl rfl fl33_1 (by exact sz25) (by decide) rfl) ?_); try simp only [nA, Nat.reduceBEq, Nat.reduceEqDiff, ↓reduceIte, Nat.reduceAdd, Nat.reduceSub]
 (refine zF (zH rfl rfl rfl fl25_3 (by exact sz3) (by decide) rfl) ?_); simp only [nA, Nat.reduceBEq, Nat.reduceEqDiff, ↓reduceIte]
 refine yD (z8 rfl rfl rfl rfl (yF (f := oav) hix) rfl sz3 rfl (bl rfl) (oav_set (c' := { (xs.getD (yG l k xs.length) default) with flight := { (xs.getD (yG l k xs.length) default).flight with day := -1 } }) rfl)) ?_; try simp only [nA, Nat.reduceBEq, Nat.reduceEqDiff, ↓reduceIte, Nat.reduceAdd, Nat.reduceSub]
 refine zE ?_
 (try simp only [zI, zJ, Nat.reduceEqDiff, ↓reduceIte])
 refine hK _ ?_; clear hK K
 refine zA fun K hK => zB ?_
 refine zF (zC rfl rfl) ?_; simp only [nA, ↓reduceIte]
 refine zF (zD rfl rfl) ?_; simp only [nA]
 refine zE (hK _ ?_); clear hK K
 refine AW.gh (Gh.freezeN 4 (bl rfl) rfl rfl (by simpa using flat2_cons (xs.set (yG l k xs.length) { (xs.getD (yG l k xs.length) default) with flight := { (xs.getD (yG l k xs.length) default).flight with day := -1 } }) []) (es' := (xs.set (yG l k xs.length) { (xs.getD (yG l k xs.length) default) with flight := { (xs.getD (yG l k xs.length) default).flight with day := -1 } }).map Container.av) (by rw [List.take_of_length_le (by simp)]; simpa using fz_cons (xs.set (yG l k xs.length) { (xs.getD (yG l k xs.length) default) with flight := { (xs.getD (yG l k xs.length) default).flight with day := -1 } }) [])) ?_; try simp only [nA, Nat.reduceBEq, Nat.reduceEqDiff, ↓reduceIte, Nat.reduceAdd, Nat.reduceSub]
 refine zO ?_; (try simp only [zI, zJ, Nat.reduceEqDiff, ↓reduceIte]); rw [show spoilV l k xs = ((zP l (zP l k)), xs.set (yG l k xs.length) { (xs.getD (yG l k xs.length) default) with flight := { (xs.getD (yG l k xs.length) default).flight with day := -1 } }) by unfold spoilV spF; rw [if_neg (by omega)]; simp only []; rw [if_neg hc3, if_neg hc4, if_neg hc5, if_neg hc6, if_neg hc7, if_neg hc8, if_neg hc9, if_neg hc10]]; exact RQ.of (.inl rfl) rfl (.tmp (bl rfl) rfl rfl .nil) (by simp) rfl (one_out rfl)
set_option maxRecDepth 100000
abbrev sv (s : ByteArray) : List AV := [.v (.string s)]
def textV (l : List Int) (k : Nat) (ss : List ByteArray) : ByteArray := ss.getD (gmod (rawV l k) (ss.length : Nat)).toNat default
abbrev carL : List ByteArray := [⟨#[83, 75]⟩, ⟨#[66, 65]⟩, ⟨#[76, 72]⟩]
abbrev flS (l : List Int) (k : Nat) : Flight := ⟨textV l k carL, 1 + gmod (rawV l (zP l k)) 3, ⟨#[]⟩, 1 + gmod (rawV l (zP l (zP l k))) 3⟩
inductive Sh where
 | int (k : IntKind)
 | str
 | bool
 | sl (row : List Sh)
inductive Mt : AV → Sh → Prop
 | int {k : IntKind} {n : Int} (h : (Lit.int k n).wf = true) : Mt (.v (.int k n)) (.int k)
 | str {s : ByteArray} (h : s.size ≤ maxLen) : Mt (.v (.string s)) .str
 | bool {b : Bool} : Mt (.v (.bool b)) .bool
 | sl {row : List Sh} {es : List (List AV)} (hs : es.length ≤ maxLen) (h : ∀ e ∈ es, e.length = row.length) (hc : ∀ e ∈ es, ∀ (i : Nat) (x : AV) (s : Sh), e[i]? = some x → row[i]? = some s → Mt x s) : Mt (.ro es) (.sl row)
theorem Mt.rows {es : List (List AV)} {row : List Sh} (h : Mt (.ro es) (.sl row)) : ∀ e ∈ es, RL Mt e row := by
 cases h with
 | sl hs h hc => exact fun e he => ⟨h e he, hc e he⟩
theorem rows_of {α : Type} {f : α → List AV} : ∀ {es : List (List AV)}, (∀ e ∈ es, ∃ p, e = f p) → ∃ ps : List α, es = ps.map f
 | [], _ => ⟨[], rfl⟩
 | e :: es, h => by
   obtain ⟨p, rfl⟩ := h e (by simp)
   obtain ⟨ps, rfl⟩ := rows_of (es := es) fun e he => h e (by simp [he])
   exact ⟨p :: ps, rfl⟩
def fieldsSh (sh : TypeId → Option (List Sh)) (P : Program) : Nat → List Field → Option (List Sh)
 | _, [] => some []
 | o, f :: fs => if f.offset = o then (sh f.type).bind fun r => if r.length = P.cellsOf f.type then (fieldsSh sh P (o + r.length) fs).map (r ++ ·) else none else none
def copies (r : List Sh) : Nat → List Sh
 | 0 => []
 | n + 1 => r ++ copies r n
def shOf (P : Program) : Nat → TypeId → Option (List Sh)
 | 0, _ => none
 | n + 1, t => match P.underlying t with
   | some (.int k) => some [.int k]
   | some .string => some [.str]
   | some .bool => some [.bool]
   | some (.slice e) => (shOf P n e).map fun r => [.sl r]
   | some (.struct fs) => (fieldsSh (shOf P n) P 0 fs.toList).bind fun r => if r.length = P.cellsOf t then some r else none
   | some (.array k e) => (shOf P n e).bind fun r => if r.length = P.cellsOf e ∧ P.cellsOf t = k * P.cellsOf e then some (copies r k) else none
   | _ => none
theorem RL.cons' {α β : Type} {R : α → β → Prop} {us : List α} {xs : List β} {u : α} (h : RL R (u :: us) xs) : ∃ x xs', xs = x :: xs' ∧ R u x ∧ RL R us xs' := by
 cases xs with
 | nil => have := h.1; simp at this
 | cons x xs => exact ⟨x, xs, rfl, h.2 0 u x rfl rfl, by have := h.1; simpa using this, fun i a b ha hb => h.2 (i + 1) a b (by simpa using ha) (by simpa using hb)⟩
theorem take_split {α : Type} (l : List α) (o m n : Nat) : (l.drop o).take (m + n) = (l.drop o).take m ++ (l.drop (o + m)).take n := by
 rw [List.take_add, List.drop_drop]
theorem flat_idx {α : Type} {sz : Nat} : ∀ {es : List (List α)}, (∀ e ∈ es, e.length = sz) → ∀ {j : Nat}, j < es.flatten.length → ∃ e u, es[j / sz]? = some e ∧ e[j % sz]? = some u ∧ es.flatten[j]? = some u
 | [], _, j, h => by simp at h
 | e :: es, hs, j, h => by
   have he : e.length = sz := hs e (by simp)
   have hs' : ∀ e ∈ es, e.length = sz := fun e he => hs e (by simp [he])
   rw [List.flatten_cons] at h ⊢
   by_cases hj : j < sz
   · rw [List.getElem?_append_left (by omega), Nat.div_eq_of_lt hj, Nat.mod_eq_of_lt hj]
     exact ⟨e, e[j]'(by omega), rfl, List.getElem?_eq_getElem _, List.getElem?_eq_getElem _⟩
   rw [List.length_append] at h
   obtain ⟨e1, u, h1, h2, h3⟩ := flat_idx hs' (j := j - sz) (by omega)
   have h0 : 0 < sz := by
     rcases Nat.eq_zero_or_pos sz with h0 | h0
     · subst h0
       have : es.flatten = [] := List.flatten_eq_nil_iff.2 fun e he => List.eq_nil_of_length_eq_zero (hs' e he)
       rw [this] at h
       simp at h
       omega
     exact h0
   rw [List.getElem?_append_right (by omega), he, Nat.div_eq_sub_div h0 (by omega), Nat.mod_eq_sub_mod (by omega)]
   exact ⟨e1, u, by simpa using h1, h2, h3⟩
section
variable {H : Type} {enc : TypeId × Value → H} {P : Program} {w : World} {base : Nat} {spare : Nat → Bool} {held : Bool}
theorem fields_open {S : Nat → Prop} {sh : TypeId → Option (List Sh)} {n : Nat} {cs : List Value} (ih : ∀ t cs x r, sh t = some r → DataW.trod enc P w base spare held n t cs = some x → ∃ xs, RL (Rep P S w []) cs xs ∧ RL Mt xs r) :
   ∀ (fs : List Field) (o : Nat) (r : List Sh), fieldsSh sh P o fs = some r → (∀ f ∈ fs, ∃ y, DataW.trod enc P w base spare held n f.type ((cs.drop f.offset).take (P.cellsOf f.type)) = some y) →
     ∃ xs, RL (Rep P S w []) ((cs.drop o).take r.length) xs ∧ RL Mt xs r
 | [], o, r, h, _ => by
   simp only [fieldsSh, Option.some.injEq] at h
   subst h
   exact ⟨[], by simpa using RL.nil, RL.nil⟩
 | f :: fs, o, r, h, hf => by
   unfold fieldsSh at h
   split at h
   · rename_i ho
     obtain ⟨r1, h1, h2⟩ := Option.bind_eq_some_iff.1 h
     split at h2
     · rename_i hl
       obtain ⟨r2, h3, h4⟩ := Option.map_eq_some_iff.1 h2
       subst h4
       obtain ⟨y, hy⟩ := hf f (by simp)
       obtain ⟨xs1, a1, a2⟩ := ih _ _ _ _ h1 hy
       obtain ⟨xs2, b1, b2⟩ := fields_open ih fs (o + r1.length) r2 h3 fun f hf' => hf f (by simp [hf'])
       refine ⟨xs1 ++ xs2, ?_, a2.append b2⟩
       rw [List.length_append, take_split]
       rw [ho, ← hl] at a1
       exact a1.append b1
     cases h2
   cases h
theorem copies_open {S : Nat → Prop} {r : List Sh} {n c : Nat} {e : TypeId} {cs : List Value} (hr : r.length = c) (ih : ∀ cs x, DataW.trod enc P w base spare held n e cs = some x → ∃ xs, RL (Rep P S w []) cs xs ∧ RL Mt xs r) :
   ∀ (m o : Nat), (∀ i, i < m → ∃ y, DataW.trod enc P w base spare held n e ((cs.drop (o + i * c)).take c) = some y) → ∃ xs, RL (Rep P S w []) ((cs.drop o).take (m * c)) xs ∧ RL Mt xs (copies r m)
 | 0, o, _ => ⟨[], by simpa using RL.nil, RL.nil⟩
 | m + 1, o, h => by
   obtain ⟨y, hy⟩ := h 0 (by omega)
   rw [Nat.zero_mul, Nat.add_zero] at hy
   obtain ⟨xs1, a1, a2⟩ := ih _ _ hy
   obtain ⟨xs2, b1, b2⟩ := copies_open hr ih m (o + c) fun i hi => by
     have := h (i + 1) (by omega)
     rw [show o + (i + 1) * c = o + c + i * c by rw [Nat.succ_mul]; omega] at this
     exact this
   refine ⟨xs1 ++ xs2, ?_, a2.append b2⟩
   rw [Nat.succ_mul, Nat.add_comm (m * c) c, take_split]
   exact a1.append b1
theorem Rep.small {S : Nat → Prop} {A : Option Addr} {len c : Nat} {es : List (List AV)} (h : Rep P S w [] (.slice A len c) (.ro es)) : es.length ≤ maxLen := by
 obtain ⟨-, A', c', sz, us, e, h1, h2, -⟩ := h.ro_inv
 exact Nat.le_trans h1 h2
theorem open_sh : ∀ (m fuel : Nat) (t : TypeId) (cs : List Value) (x : DataW H × List MemPlace) (r : List Sh), shOf P m t = some r → DataW.trod enc P w base spare held fuel t cs = some x → ∃ xs, RL (Rep P (fun k => k < w.heap.size) w []) cs xs ∧ RL Mt xs r
 | 0, _, _, _, _, _, h, _ => by simp [shOf] at h
 | m + 1, fuel, t, cs, x, r, h, hx => by
   unfold shOf at h
   split at h
   · rename_i k ht
     injection h with h; subst h
     obtain ⟨n, rfl, _, hw⟩ := DataW.trod_int ht hx
     exact ⟨_, .cons (.v rfl) .nil, .cons (.int hw) .nil⟩
   · rename_i ht
     injection h with h; subst h
     obtain ⟨s, rfl, _, hw⟩ := DataW.trod_string ht hx
     exact ⟨_, .cons (.v rfl) .nil, .cons (.str hw) .nil⟩
   · rename_i ht
     injection h with h; subst h
     obtain ⟨b, rfl, _⟩ := DataW.trod_bool ht hx
     exact ⟨_, .cons (.v rfl) .nil, .cons .bool .nil⟩
   · rename_i e ht
     obtain ⟨row, h1, h2⟩ := Option.map_eq_some_iff.1 h
     subst h2
     rcases Go.Deep.open_slice ht hx with ⟨rfl, _⟩ | ⟨a, len, cap, mm, n, D, Pl, rfl, hb, hl, hm, hmm, _, hel⟩
     · exact ⟨_, .cons rep_ro_nil .nil, .cons (.sl (Nat.zero_le _) (by simp) (by simp)) .nil⟩
     have hlm : len ≤ mm := by rw [hmm]; split <;> omega
     have key : ∀ i, i < len → ∃ p : List Value × List AV, w.cells? base (a.add (i * P.cellsOf e)) (P.cellsOf e) = some p.1 ∧ RL (Rep P (fun k => k < w.heap.size) w []) p.1 p.2 ∧ RL Mt p.2 row := fun i hi => by
       obtain ⟨cs', c1, c2⟩ := hel i (by omega)
       obtain ⟨xs, c3, c4⟩ := open_sh m _ _ _ _ _ h1 c2
       exact ⟨(cs', xs), c1, c3, c4⟩
     obtain ⟨F, hF⟩ := Go.Deep.choose_lt key
     have lv : ∀ l ∈ (List.range len).map (fun i => (F i).1), l.length = P.cellsOf e := fun l hl' => by
       obtain ⟨i, hi, rfl⟩ := List.mem_map.1 hl'
       exact (World.cells?_some (hF i (List.mem_range.1 hi)).1).2.1
     have lx : ∀ l ∈ (List.range len).map (fun i => (F i).2), l.length = P.cellsOf e := fun l hl' => by
       obtain ⟨i, hi, rfl⟩ := List.mem_map.1 hl'
       rw [← (hF i (List.mem_range.1 hi)).2.1.1]
       exact (World.cells?_some (hF i (List.mem_range.1 hi)).1).2.1
     have hlen : ((List.range len).map fun i => (F i).2).length = len := by simp
     have hfl : ((List.range len).map fun i => (F i).1).flatten.length = ((List.range len).map fun i => (F i).2).flatten.length := by
       rw [List.length_flatten, List.length_flatten]
       congr 1
       rw [List.map_map, List.map_map]
       exact List.map_congr_left fun i hi => (hF i (List.mem_range.1 hi)).2.1.1
     have hrep : Rep P (fun k => k < w.heap.size) w [] (.slice (some a) ((List.range len).map fun i => (F i).2).length cap) (.ro ((List.range len).map fun i => (F i).2)) := by
       refine Rep.ro (sz := P.cellsOf e) (us := ((List.range len).map fun i => (F i).1).flatten) (by rw [hlen]; exact hl) hm lx (fun hn => ?_) hfl fun i u x hu hx' => ?_
       · have hget : ∀ j u, ((List.range len).map fun i => (F i).1).flatten[j]? = some u → w.cell? (a.add j) = some u := fun j u hu => by
           obtain ⟨l, u', q1, q2, q3⟩ := flat_idx lv (j := j) (List.getElem?_eq_some_iff.1 hu).1
           rw [q3] at hu
           injection hu with hu; subst hu
           rw [List.getElem?_map] at q1
           have hq : j / P.cellsOf e < len := by
             have := (List.getElem?_eq_some_iff.1 (show ((List.range len).map fun i => (F i).1)[j / P.cellsOf e]? = some l by rw [List.getElem?_map]; exact q1)).1
             simpa using this
           rw [List.getElem?_range hq] at q1
           injection q1 with q1; subst q1
           have hc := (World.cells?_some (hF _ hq).1)
           have hp : 0 < P.cellsOf e := by
             have := (List.getElem?_eq_some_iff.1 q2).1
             rw [hc.2.1] at this; omega
           have hcell := hc.2.2 (j % P.cellsOf e) (Nat.mod_lt _ hp)
           rw [q2, Go.Deep.add_add, Nat.mul_comm, Nat.div_add_mod] at hcell
           exact hcell
         have h0 := hget 0 _ (List.getElem?_eq_getElem hn)
         obtain ⟨g, o, sp⟩ := a
         have : sp = none := by simpa [Addr.add] using World.cell?_spot h0
         subst this
         refine ⟨g, o, rfl, World.block_lt_of_cell? w _ h0, fun j u hu => ?_⟩
         have := hget j u hu
         rw [add_off] at this
         exact this
       obtain ⟨l, u', q1, q2, q3⟩ := flat_idx lv (j := i) (List.getElem?_eq_some_iff.1 hu).1
       obtain ⟨l2, u2, p1, p2, p3⟩ := flat_idx lx (j := i) (List.getElem?_eq_some_iff.1 hx').1
       rw [q3] at hu
       injection hu with hu; subst hu
       rw [p3] at hx'
       injection hx' with hx'; subst hx'
       rw [List.getElem?_map] at q1 p1
       have hq : i / P.cellsOf e < len := by
         have := (List.getElem?_eq_some_iff.1 (show ((List.range len).map fun i => (F i).1)[i / P.cellsOf e]? = some l by rw [List.getElem?_map]; exact q1)).1
         simpa using this
       rw [List.getElem?_range hq] at q1 p1
       injection q1 with q1; subst q1
       injection p1 with p1; subst p1
       exact (hF _ hq).2.1.2 _ _ _ q2 p2
     rw [hlen] at hrep
     refine ⟨_, .cons hrep .nil, .cons (.sl hrep.small (fun l hl' => ?_) fun l hl' => ?_) .nil⟩
     · obtain ⟨i, hi, rfl⟩ := List.mem_map.1 hl'
       exact (hF i (List.mem_range.1 hi)).2.2.1
     obtain ⟨i, hi, rfl⟩ := List.mem_map.1 hl'
     exact (hF i (List.mem_range.1 hi)).2.2.2
   · rename_i fs ht
     obtain ⟨r1, h1, h2⟩ := Option.bind_eq_some_iff.1 h
     split at h2
     · rename_i hl
       injection h2 with h2; subst h2
       obtain ⟨ys, n, _, _, hcl, hyl, hf⟩ := DataW.trod_struct ht hx
       obtain ⟨xs, a1, a2⟩ := fields_open (fun t cs x r => open_sh m n t cs x r) fs.toList 0 r1 h1 (cs := cs) fun f hf' => by
         obtain ⟨i, hi, rfl⟩ := List.getElem_of_mem hf'
         have := hf i fs.toList[i] (by simp at hi; simp [hi])
         exact ⟨_, this.trans (List.getElem?_eq_getElem (by rw [hyl]; simpa using hi))⟩
       rw [List.drop_zero, hl, ← hcl, List.take_length] at a1
       exact ⟨xs, a1, a2⟩
     cases h2
   · rename_i k e ht
     obtain ⟨r1, h1, h2⟩ := Option.bind_eq_some_iff.1 h
     split at h2
     · rename_i hl
       injection h2 with h2; subst h2
       obtain ⟨ys, n, _, _, hcl, hyl, hf⟩ := DataW.trod_array ht hx
       obtain ⟨xs, a1, a2⟩ := copies_open (cs := cs) hl.1 (fun cs x hx => open_sh m n e cs x r1 h1 hx) k 0 fun i hi => by
         have := hf i hi
         rw [Nat.zero_add]
         exact ⟨_, this.trans (List.getElem?_eq_getElem (by omega))⟩
       rw [List.drop_zero, ← hl.2, ← hcl, List.take_length] at a1
       exact ⟨xs, a1, a2⟩
     cases h2
   cases h
/-- A datum of several cells. -/
theorem open_agg {m : Nat} {t : TypeId} {us : Array Value} {r : List Sh} {d : DataW H} {ps : List MemPlace} (hs : shOf P m t = some r) (h : DataW.Trod enc P w base spare held t (.agg us) d ps) : ∃ xs, AggOK P (fun k => k < w.heap.size) w (insT []) [] (.agg us) (.agg xs) ∧ RL Mt xs r := by
 obtain ⟨fuel, hf⟩ := h
 obtain ⟨xs, a1, a2⟩ := open_sh m fuel t us.toList _ r hs hf
 exact ⟨xs, ⟨us, rfl, a1.mono fun u x h => h.ref⟩, a2⟩
/-- A datum of one cell. -/
theorem open_one {m : Nat} {t : TypeId} {v : Value} {s : Sh} {d : DataW H} {ps : List MemPlace} (hs : shOf P m t = some [s]) (hv : v.cells = #[v]) (h : DataW.Trod enc P w base spare held t v d ps) : ∃ x, AggOK P (fun k => k < w.heap.size) w (insT []) [] v x ∧ Mt x s := by
 obtain ⟨fuel, hf⟩ := h
 rw [hv] at hf
 obtain ⟨xs, a1, a2⟩ := open_sh m fuel t [v] _ [s] hs hf
 obtain ⟨x, xs', rfl, b1, b2⟩ := a1.cons'
 obtain ⟨x2, xs2, q, c1, -⟩ := a2.cons'
 injection q with q _
 subst q
 refine ⟨x, ?_, c1⟩
 have hr := b1.ref (T := insT []) (vals := [])
 cases c1 <;> exact hr
end
theorem Spec.small {P : Program} {f : FuncId} {ins xs : List AV} {Q : List AV → List AV → Prop} {es : List (List AV)} (k : Nat) (hk : xs[k]? = some (.ro es)) (h : es.length ≤ 9223372036854775807 → Spec P f ins xs Q) : Spec P f ins xs Q := fun w S vals bss vs c => by
 obtain ⟨u, hu, hr⟩ := c.args.at_ hk
 have hr : Rep P S w [] u (.ro es) := hr
 obtain ⟨-, A, cc, sz, us, e, h1, h2, -⟩ := hr.ro_inv
 exact h (Nat.le_trans (Nat.le_trans h1 h2) (by decide)) w S vals bss vs c
/-- What a cell may hold, taken apart. -/
theorem Mt.i64 {x : AV} (h : Mt x (.int .i64)) : ∃ n, x = .v (.int .i64 n) := by cases h; exact ⟨_, rfl⟩
theorem Mt.u8 {x : AV} (h : Mt x (.int .u8)) : ∃ n, x = .v (.int .u8 n) := by cases h; exact ⟨_, rfl⟩
theorem Mt.s_ {x : AV} (h : Mt x .str) : ∃ n, x = .v (.string n) := by cases h; exact ⟨_, rfl⟩
theorem Mt.sl_ {x : AV} {r : List Sh} (h : Mt x (.sl r)) : ∃ es, x = .ro es := by cases h; exact ⟨_, rfl⟩
set_option maxRecDepth 100000
abbrev lav (l : List Container) : List AV := [.ro (l.map Container.av)]
theorem lav_flat (ls : List (List Container)) : ∀ r ∈ ls.map lav, ∀ c ∈ r, flatA c = true := fun r hr c hc => by
 obtain ⟨l, _, rfl⟩ := List.mem_map.1 hr
 simp only [lav, List.mem_cons, List.not_mem_nil, or_false] at hc
 subst hc
 rfl
theorem fl_flat (ls : List Flight) : ∀ r ∈ ls.map Flight.av, ∀ c ∈ r, flatA c = true := fun r hr c hc => by
 obtain ⟨l, _, rfl⟩ := List.mem_map.1 hr
 simp only [Flight.av, List.mem_cons, List.not_mem_nil, or_false] at hc
 rcases hc with rfl | rfl | rfl | rfl <;> rfl
theorem pi_flat (ls : List Piece) : ∀ r ∈ ls.map Piece.av, ∀ c ∈ r, flatA c = true := fun r hr c hc => by
 obtain ⟨l, _, rfl⟩ := List.mem_map.1 hr
 simp only [Piece.av, List.mem_cons, List.not_mem_nil, or_false] at hc
 rcases hc with rfl | rfl | rfl | rfl | rfl <;> rfl
theorem small_inv {xs : List Container} (h : smallB xs = true) : xs.length ≤ 30 ∧ ∀ c ∈ xs, c.pieces.length ≤ 70 := by
 unfold smallB at h
 simp only [Bool.and_eq_true, List.all_eq_true, decide_eq_true_eq] at h
 exact ⟨by omega, h.1⟩
def FitL (ys : List Container) : Prop := ys.length ≤ 1000 ∧ ∀ c ∈ ys, c.pieces.length ≤ 1000
theorem FitL.sml {ys : List Container} (h : FitL ys) : Sml ys := ⟨by have := h.1; omega, fun c hc => Nat.le_trans (h.2 c hc) (by omega)⟩
theorem fit3 {a b c : List Container} (h1 : FitL a) (h2 : FitL b) (h3 : FitL c) : ∀ y ∈ [a, b, c], FitL y := fun y hy => by
 simp only [List.mem_cons, List.not_mem_nil, or_false] at hy
 rcases hy with rfl | rfl | rfl <;> assumption
theorem hl20 (l : List Int) : (l.take 2000).length ≤ 2000 := by simp; omega
set_option maxRecDepth 100000
abbrev pav (l : List Piece) : List AV := [.ro (l.map Piece.av)]
theorem pav_flat (ls : List (List Piece)) : ∀ r ∈ ls.map pav, ∀ c ∈ r, flatA c = true := fun r hr c hc => by
 obtain ⟨l, _, rfl⟩ := List.mem_map.1 hr
 simp only [pav, List.mem_cons, List.not_mem_nil, or_false] at hc
 subst hc
 rfl
theorem len4 {a b c d : List Piece} (h1 : a.length ≤ 50) (h2 : b.length ≤ 50) (h3 : c.length ≤ 50) (h4 : d.length ≤ 50) : ∀ y ∈ [a, b, c, d], y.length ≤ 50 := fun y hy => by
 simp only [List.mem_cons, List.not_mem_nil, or_false] at hy
 rcases hy with rfl | rfl | rfl | rfl <;> assumption
theorem listEq_self {α : Type} [Inhabited α] {eq : α → α → Bool} (he : ∀ a, eq a a = true) (a : List α) : listEq eq a a = true := by
 unfold listEq
 simp [he]
theorem asgV_sml (l : List Container) (f : Flight) (bags : List Piece) : Sml (asgV l f bags).1 ∧ (asgV l f bags).2.1.length ≤ bags.length := by
 have h0 : Sml ([] : List Container) := ⟨Nat.zero_le _, fun c hc => by cases hc⟩
 unfold asgV
 split
 · exact ⟨h0, Nat.zero_le _⟩
 split
 · exact ⟨h0, Nat.zero_le _⟩
 rename_i h1 _
 have hI := InvO.fold (f := f) (ordV bags) (s := (l, [])) (InvO.of (by simpa using h1))
 refine ⟨⟨by have := hI.len; dsimp only; omega, fun c hc => by have := (val_inv (hI.val c hc)).2.1; omega⟩, ?_⟩
 have := (asgF_len (f := f) (ordV bags) (l, [])).2
 rw [ordV_len] at this
 simpa using this
theorem C5 {xs : List Container} {l : List Int} {f : Flight} {od : List Piece} : Fn Tryz.prog 5 [] [.ro (xs.map Container.av), .ro (l.map iv), .agg f.av, .ro (od.map Piece.av)] [.v (.bool true)] [] := by
 refine Spec.small 0 rfl fun hx => ?_
 rw [List.length_map] at hx
 refine Spec.small 3 rfl fun hx3 => ?_
 rw [List.length_map] at hx3
 obtain ⟨k0, cs, hC10, hinv, hcl⟩ := conts21 (l.take 2000) 0 6 9 (hl20 l) (by omega) (by omega)
 refine Spec.body Tryz.func5 rfl Tryz.ntmps5 (by simp) rfl ?_; intro S0 own0 v0 w0
 refine zA fun K hK => zB ?_
 refine yD (yO rfl rfl rfl sz25 rfl) ?_; simp only [nA, Nat.reduceBEq, Nat.reduceEqDiff, ↓reduceIte]
 refine zF (zD rfl rfl) ?_; try simp only [nA, Nat.reduceBEq, Nat.reduceEqDiff, ↓reduceIte, Nat.reduceAdd, Nat.reduceSub]
 refine zE (hK _ ?_); clear hK K; try simp only [nA, Nat.reduceBEq, Nat.reduceEqDiff, ↓reduceIte, Nat.reduceAdd, Nat.reduceSub]
 refine zA fun K hK => ?_
 refine zA fun K hK => zB (yS ?_)
 refine zQ (zC rfl rfl) ?_; simp only [nA, ↓reduceIte]
 refine aqQ (zT (b := true) rfl en15 (C15 (xs := xs) hx) (RL.cons (by exact View.same rfl) (RL.nil)) rfl) ?_; try simp only [nA, Nat.reduceBEq, Nat.reduceEqDiff, ↓reduceIte, Nat.reduceAdd, Nat.reduceSub]
 refine zQ (op_not rfl rfl rfl) ?_; try simp only [nA, Nat.reduceBEq, Nat.reduceEqDiff, ↓reduceIte, Nat.reduceAdd, Nat.reduceSub]
 refine zQ (zC rfl rfl) ?_; simp only [nA]
 refine' aqOr' [_, _, _] [28,29,30] rfl rfl rfl rfl rfl rfl rfl rfl rfl rfl rfl rfl (fun hb => ?_) ?_; rotate_left
 ·
  (try simp only [z7] at hb)
  refine zQ (zC rfl rfl) ?_; simp only [nA, ↓reduceIte]
  (refine zQ (zX rfl rfl Tryz.underlying31 (by exact .inr (.inl ⟨_, rfl, rfl⟩))) ?_); try simp only [nA, Nat.reduceBEq, Nat.reduceEqDiff, ↓reduceIte, Nat.reduceAdd, Nat.reduceSub]
  refine zQ (op_gtr rfl rfl rfl) ?_; try simp only [nA, Nat.reduceBEq, Nat.reduceEqDiff, ↓reduceIte, Nat.reduceAdd, Nat.reduceSub]
  (refine yL rfl rfl rfl ?_; repeat (first | exact fun _ _ => rfl | refine zU rfl ?_))
 refine yN (hK _ ?_); clear hK K
 refine zL rfl rfl rfl (fun hc => ?_) (fun hc => ?_)
 ·
  (try simp only [z7] at hc); have hc1 := hc
  refine zA fun K hK => zB ?_
  refine zF (zD rfl rfl) ?_; try simp only [nA, Nat.reduceBEq, Nat.reduceEqDiff, ↓reduceIte, Nat.reduceAdd, Nat.reduceSub]
  refine zE (hK _ ?_); clear hK K
  skip
  refine zO ?_; (try simp only [zI, zJ, Nat.reduceEqDiff, ↓reduceIte]); exact zS rfl (.tmp (bl rfl) rfl rfl .nil)
 (try simp only [z7] at hc); have hc1 := hc; obtain ⟨hs0, hod⟩ : smallB xs = true ∧ od.length ≤ 30 := (by cases h : smallB xs <;> rw [h] at hc1 <;> simp at hc1; exact ⟨rfl, by omega⟩); have hsm := small_inv hs0; have hcb : ∀ c ∈ cs, c.pieces.length ≤ 1000 := (fun c hc => Nat.le_trans (hinv.len c hc) (by omega)); have hsp := spoil_len (l.take 2000) (bagsV (l.take 2000) k0 20).1 (b := 100) (fun c hc => Nat.le_trans (hinv.len c hc) (by omega)); have hfit : ∀ y ∈ [xs, cs, (spoilV (l.take 2000) (bagsV (l.take 2000) k0 20).1 cs).2], FitL y := fit3 ⟨by omega, fun c hc => Nat.le_trans (hsm.2 c hc) (by omega)⟩ ⟨by omega, hcb⟩ ⟨Nat.le_trans hsp.2.1 (by omega), fun c hc => Nat.le_trans (hsp.2.2 c hc) (by omega)⟩; have hbl := (bagsV_good (l.take 2000) k0 20).2
 refine zM ?_
 refine hK _ ?_; clear hK K
 refine zA fun K hK => zB ?_
 refine zF (zC rfl rfl) ?_; simp only [nA, Nat.reduceEqDiff, ↓reduceIte]
 refine yD (op_callB rfl en6 (C6) (RL.cons (by exact View.same rfl) (RL.nil))) ?_; simp only [nA, Nat.reduceBEq, Nat.reduceEqDiff, ↓reduceIte]
 refine zF (zD rfl rfl) ?_; simp only [nA]
 refine zE (hK _ ?_); clear hK K
 refine zA fun K hK => zB ?_
 refine zF (zC rfl rfl) ?_; simp only [nA]
 refine yD (yQ rfl en10 hC10 (by exact rfl) (RL.cons .ptr (RL.cons (.base (by exact View.same rfl)) (RL.cons (.base (by exact View.same rfl)) (RL.nil)))) (by exact ⟨_, _, _, rfl, rfl, rfl⟩) (by exact rfl) (by exact rfl) (by exact rfl)) ?_; (simp only [nA, Nat.reduceBEq, Nat.reduceEqDiff, ↓reduceIte]); refine AWL.gh (Gh.freezeN 35 (bl rfl) rfl rfl (by simpa using flat2_cons cs []) (es' := cs.map Container.av) (by rw [List.take_of_length_le (by simp)]; simpa using fz_cons cs [])) ?_; try simp only [nA, Nat.reduceBEq, Nat.reduceEqDiff, ↓reduceIte, Nat.reduceAdd, Nat.reduceSub]
 refine zF (zC rfl rfl) ?_; simp only [nA, ↓reduceIte]
 refine yD (yQ rfl en23 (C23 (l := (l.take 2000)) (k0 := k0) (m := 20) (hl20 l) (by decide)) (by exact rfl) (RL.cons .ptr (RL.cons (.base (by exact View.same rfl)) (RL.nil))) (by exact ⟨_, _, _, rfl, rfl, rfl⟩) (by exact rfl) (by exact rfl) (by exact rfl)) ?_; try simp only [nA, Nat.reduceBEq, Nat.reduceEqDiff, ↓reduceIte, Nat.reduceAdd, Nat.reduceSub]
 refine zF (zD rfl rfl) ?_; simp only [nA, ↓reduceIte]
 refine zF (zD rfl rfl) ?_; simp only [nA, ↓reduceIte]
 refine zE (hK _ ?_); clear hK K
 refine zA fun K hK => ?_
 refine zA fun K hK => zB ?_
 refine zF (zC rfl rfl) ?_; simp only [nA, Nat.reduceEqDiff, ↓reduceIte]
 refine zF (zC rfl rfl) ?_; simp only [nA, ↓reduceIte]
 refine zF (zC rfl rfl) ?_; simp only [nA, ↓reduceIte]
 refine zF (zC rfl rfl) ?_; simp only [nA, ↓reduceIte]
 refine yD (yQ rfl en16 (C16r (l := (l.take 2000)) (k := (bagsV (l.take 2000) k0 20).1) (xs := cs) (hl20 l) (by omega) hcb) (by exact rfl) (RL.cons .ptr (RL.cons (.base (by exact View.same rfl)) (RL.nil))) (by exact ⟨_, _, _, rfl, rfl, rfl⟩) (by exact rfl) (by exact rfl) (by exact rfl)) ?_; try simp only [nA, Nat.reduceBEq, Nat.reduceEqDiff, ↓reduceIte, Nat.reduceAdd, Nat.reduceSub]
 refine yD (OpJ.frz (zV rfl [(0, lav xs), (1, lav cs), (2, lav (spoilV (l.take 2000) (bagsV (l.take 2000) k0 20).1 cs).2)] ([xs, cs, (spoilV (l.take 2000) (bagsV (l.take 2000) k0 20).1 cs).2].map lav) Tryz.underlying50 ze42 rfl (by simp) rfl (by simp) rfl (bl rfl) (by simp [maxLen])) (lav_flat [xs, cs, (spoilV (l.take 2000) (bagsV (l.take 2000) k0 20).1 cs).2]) rfl) ?_; try simp only [nA, Nat.reduceBEq, Nat.reduceEqDiff, ↓reduceIte, Nat.reduceAdd, Nat.reduceSub]
 (refine zF (zX rfl rfl Tryz.underlying50 (by exact .inr (.inl ⟨_, rfl, rfl⟩))) ?_); simp only [nA, Nat.reduceBEq, Nat.reduceEqDiff, ↓reduceIte]
 refine zF (zC rfl rfl) ?_; try simp only [nA, Nat.reduceBEq, Nat.reduceEqDiff, ↓reduceIte, Nat.reduceAdd, Nat.reduceSub]
 refine zE (hK _ ?_); clear hK K
 refine zN ?_
 refine AW.gh (Gh.drop 2) ?_; (try simp only [nA, Nat.reduceBEq, Nat.reduceEqDiff, ↓reduceIte, Nat.reduceAdd, Nat.reduceSub]); obtain ⟨ls, hls⟩ : ∃ ls, ls = [xs, cs, (spoilV (l.take 2000) (bagsV (l.take 2000) k0 20).1 cs).2] := ⟨_, rfl⟩; have hll : ls.length = 3 := (by rw [hls]; rfl); rw [← hls] at hfit; obtain ⟨bs, hbs⟩ : ∃ bs, bs = (bagsV (l.take 2000) k0 20).2 := ⟨_, rfl⟩; rw [← hbs] at hbl; refine yC (fun (q : Nat × Nat × Nat) => [(6, .ptr 0 1 0 0), (9, .ptr 1 2 0 0), (3, .ro (od.map Piece.av)), (11, .ro (bs.map Piece.av)), (43, .ro (ls.map lav)), (44, .v (.int .i64 (3 : Nat))), (45, .v (.int .i64 (q.1 : Nat)))]) (fun q => ⟨[(1, .own 25 [f.av]), (2, .own 67 [srcRow (l.take 2000) q.2.1])], q.2.2⟩) (fun q => q.1 ≤ 3) (fun q => 3 - q.1) (0, (spoilV (l.take 2000) (bagsV (l.take 2000) k0 20).1 cs).1, _) (by simp) ⟨rfl, rfl, rfl, by rw [hbs]; rfl, by rw [hls]; rfl, rfl, rfl, trivial⟩ rfl ?_; rintro ⟨i, k, e⟩ ρ hi; simp only at hi; simp only [updL]
 refine zA fun K hK => zB ?_
 refine zF (yP rfl rfl rfl) ?_; try simp only [nA, Nat.reduceBEq, Nat.reduceEqDiff, ↓reduceIte, Nat.reduceAdd, Nat.reduceSub]
 refine zE (hK _ ?_); clear hK K
 refine zA fun K hK => ?_
 refine zL rfl rfl rfl (fun hc => ?_) (fun hc => ?_)
 ·
  (try simp only [z7] at hc); have hc2 := hc; have hlt : i < ls.length := (by rw [hll]; omega); obtain ⟨ys, hyi⟩ : ∃ ys, ls[i]? = some ys := ⟨ls[i], List.getElem?_eq_getElem hlt⟩; have hS := (hfit ys (List.mem_of_getElem? hyi)).sml; have hpb : ∀ y ∈ [od, bs, bs ++ [(pieceV (l.take 2000) k 30)], bs ++ od], y.length ≤ 50 := len4 (by omega) (by omega) (by rw [List.length_append]; simp only [List.length_cons, List.length_nil]; omega) (by rw [List.length_append]; omega)
  refine zM ?_
  refine hK _ ?_; clear hK K
  refine zA fun K hK => zN ?_
  refine zA fun K hK => zB ?_
  refine zF (zW i rfl (.inl rfl) rfl Tryz.underlying50 rfl (get_of hyi) (by exact sz42) (bl rfl)) ?_; try simp only [nA, Nat.reduceBEq, Nat.reduceEqDiff, ↓reduceIte, Nat.reduceAdd, Nat.reduceSub]
  (refine awR (yA rfl rfl ag42) ?_); try simp only [nA, Nat.reduceBEq, Nat.reduceEqDiff, ↓reduceIte, Nat.reduceAdd, Nat.reduceSub]
  refine zF (zD rfl rfl) ?_; simp only [nA]
  refine zE (hK _ ?_); clear hK K
  refine zA fun K hK => ?_
  refine AW.ad [] mix rfl ?_
  refine adP 0 rfl (fun T' ok => zC rfl rfl) (by exact trivial) (by kernel_rfl) (by kernel_rfl) ?_; simp only [nA, Nat.reduceBEq, Nat.reduceEqDiff, ↓reduceIte]
  refine adP 1 rfl (fun T' ok => zC rfl rfl) (by exact trivial) (by kernel_rfl) (by kernel_rfl) ?_; simp only [nA, ↓reduceIte]
  refine adP 2 rfl (fun T' ok => zC rfl rfl) (by exact trivial) (by kernel_rfl) (by kernel_rfl) ?_; simp only [nA, ↓reduceIte]
  refine adP 3 rfl (fun T' ok => zC rfl rfl) (by exact trivial) (by kernel_rfl) (by kernel_rfl) ?_; simp only [nA, ↓reduceIte]
  refine adP 4 rfl (fun T' ok => zX (n := bs.length) rfl rfl Tryz.underlying31 (.inr (.inl ⟨_, rfl, by simp⟩))) (by exact trivial) (by kernel_rfl) (by kernel_rfl) ?_; try simp only [nA, Nat.reduceBEq, Nat.reduceEqDiff, ↓reduceIte, Nat.reduceAdd, Nat.reduceSub]
  refine adP 5 rfl (fun T' ok => zC rfl rfl) (by exact trivial) (by kernel_rfl) (by kernel_rfl) ?_; simp only [nA, ↓reduceIte]
  refine adP 6 rfl (fun T' ok => zX (n := bs.length) rfl rfl Tryz.underlying31 (.inr (.inl ⟨_, rfl, by simp⟩))) (by exact trivial) (by kernel_rfl) (by kernel_rfl) ?_; try simp only [nA, Nat.reduceBEq, Nat.reduceEqDiff, ↓reduceIte, Nat.reduceAdd, Nat.reduceSub]
  refine adP 7 rfl (fun T' ok => op_slice_full bs.length rfl (.inl rfl) rfl rfl (by simp) Tryz.underlying31 yR (av_len _) (es' := bs.map Piece.av) (by rw [List.take_of_length_le (by simp)])) (by exact trivial) (by kernel_rfl) (by kernel_rfl) ?_; try simp only [nA, Nat.reduceBEq, Nat.reduceEqDiff, ↓reduceIte, Nat.reduceAdd, Nat.reduceSub]
  refine adP 8 rfl (fun T' ok => zC rfl rfl) (by exact trivial) (by kernel_rfl) (by kernel_rfl) ?_; simp only [nA, ↓reduceIte]
  refine adP 12 rfl (fun T' ok => zC rfl rfl) (by exact trivial) (by kernel_rfl) (by kernel_rfl) ?_; simp only [nA, ↓reduceIte]
  refine adP 13 rfl (fun T' ok => zC rfl rfl) (by exact trivial) (by kernel_rfl) (by kernel_rfl) ?_; simp only [nA, ↓reduceIte]
  refine adP 14 rfl (fun T' ok => zX (n := bs.length) rfl rfl Tryz.underlying31 (.inr (.inl ⟨_, rfl, by simp⟩))) (by exact trivial) (by kernel_rfl) (by kernel_rfl) ?_; try simp only [nA, Nat.reduceBEq, Nat.reduceEqDiff, ↓reduceIte, Nat.reduceAdd, Nat.reduceSub]
  refine adP 15 rfl (fun T' ok => zC rfl rfl) (by exact trivial) (by kernel_rfl) (by kernel_rfl) ?_; simp only [nA, ↓reduceIte]
  refine adP 16 rfl (fun T' ok => zX (n := bs.length) rfl rfl Tryz.underlying31 (.inr (.inl ⟨_, rfl, by simp⟩))) (by exact trivial) (by kernel_rfl) (by kernel_rfl) ?_; try simp only [nA, Nat.reduceBEq, Nat.reduceEqDiff, ↓reduceIte, Nat.reduceAdd, Nat.reduceSub]
  refine adP 17 rfl (fun T' ok => op_slice_full bs.length rfl (.inl rfl) rfl rfl (by simp) Tryz.underlying31 yR (av_len _) (es' := bs.map Piece.av) (by rw [List.take_of_length_le (by simp)])) (by exact trivial) (by kernel_rfl) (by kernel_rfl) ?_; try simp only [nA, Nat.reduceBEq, Nat.reduceEqDiff, ↓reduceIte, Nat.reduceAdd, Nat.reduceSub]
  refine adP 18 rfl (fun T' ok => zC rfl rfl) (by exact trivial) (by kernel_rfl) (by kernel_rfl) ?_; simp only [nA, ↓reduceIte]
  refine adP 22 rfl (fun T' ok => zC rfl rfl) (by exact trivial) (by kernel_rfl) (by kernel_rfl) ?_; try simp only [nA, Nat.reduceBEq, Nat.reduceEqDiff, ↓reduceIte, Nat.reduceAdd, Nat.reduceSub]
  refine adJ 9 rfl (yQ rfl en11 (C11 (l := (l.take 2000)) (k := k) (n := 30) (hl20 l) (by decide)) (by exact rfl) (RL.cons .ptr (RL.cons (.base (by exact View.same rfl)) (RL.nil))) (by exact ⟨_, _, _, rfl, rfl, rfl⟩) (by exact rfl) (by exact rfl) (by exact rfl)) (by kernel_rfl) (by exact trivial) ?_; try simp only [nA, Nat.reduceBEq, Nat.reduceEqDiff, ↓reduceIte, Nat.reduceAdd, Nat.reduceSub]
  refine adJ 10 rfl (OpJ.frz (zV rfl [(0, (pieceV (l.take 2000) k 30).av)] [(pieceV (l.take 2000) k 30).av] Tryz.underlying31 ze35 rfl (by simp) rfl (by simp) rfl (bl rfl) (by simp [maxLen])) (pi_flat [(pieceV (l.take 2000) k 30)]) rfl) (by kernel_rfl) (by exact trivial) ?_; try simp only [nA, Nat.reduceBEq, Nat.reduceEqDiff, ↓reduceIte, Nat.reduceAdd, Nat.reduceSub]
  refine adJ 11 rfl (op_app_rof (sz := 5) (es := bs.map Piece.av) (rows := [(pieceV (l.take 2000) k 30).av]) rfl rfl rfl .ro Tryz.underlying31 ze35 (by decide) (av_len _) (av_len [(pieceV (l.take 2000) k 30)]) (by simp only [List.length_map, List.length_cons, List.length_nil]; omega) (by decide) (es' := (bs ++ [(pieceV (l.take 2000) k 30)]).map Piece.av) (by rw [List.map_append]; rfl)) (by kernel_rfl) (by exact trivial) ?_; try simp only [nA, Nat.reduceBEq, Nat.reduceEqDiff, ↓reduceIte, Nat.reduceAdd, Nat.reduceSub]
  refine adJ 19 rfl (op_app_rof (sz := 5) (es := bs.map Piece.av) (rows := od.map Piece.av) rfl rfl rfl .ro Tryz.underlying31 ze35 (by decide) (av_len _) (av_len _) (by simp only [List.length_map]; omega) (by decide) (es' := (bs ++ od).map Piece.av) (by rw [List.map_append])) (by kernel_rfl) (by exact trivial) ?_; try simp only [nA, Nat.reduceBEq, Nat.reduceEqDiff, ↓reduceIte, Nat.reduceAdd, Nat.reduceSub]
  refine adJ 20 rfl (OpJ.frz (zV rfl [(0, pav od), (1, pav bs), (2, pav (bs ++ [(pieceV (l.take 2000) k 30)])), (3, pav (bs ++ od))] ([od, bs, bs ++ [(pieceV (l.take 2000) k 30)], bs ++ od].map pav) Tryz.underlying60 ze31 rfl (by simp) rfl (by simp) rfl (bl rfl) (by simp [maxLen])) (pav_flat [od, bs, bs ++ [(pieceV (l.take 2000) k 30)], bs ++ od]) rfl) (by kernel_rfl) (by exact trivial) ?_; try simp only [nA, Nat.reduceBEq, Nat.reduceEqDiff, ↓reduceIte, Nat.reduceAdd, Nat.reduceSub]
  (refine adP 21 rfl (fun T' ok => zX rfl rfl Tryz.underlying60 (by exact .inr (.inl ⟨_, rfl, rfl⟩))) (by exact trivial) (by kernel_rfl) (by kernel_rfl) ?_); simp only [nA, Nat.reduceBEq, Nat.reduceEqDiff, ↓reduceIte]
  refine adDone (by kernel_rfl) ?_
  refine hK _ ?_; clear hK K
  refine zN ?_
  obtain ⟨pl, hpl⟩ : ∃ pl, pl = [od, bs, bs ++ [(pieceV (l.take 2000) k 30)], bs ++ od] := ⟨_, rfl⟩; have hpn : pl.length = 4 := (by rw [hpl]; rfl); rw [← hpl] at hpb; refine yC (fun (q : Nat × Nat × Nat) => [(6, .ptr 0 1 0 0), (9, .ptr 1 2 0 0), (3, .ro (od.map Piece.av)), (11, .ro (bs.map Piece.av)), (43, .ro (ls.map lav)), (44, .v (.int .i64 (3 : Nat))), (45, .v (.int .i64 (i : Nat))), (13, .ro (ys.map Container.av)), (69, .ro (pl.map pav)), (70, .v (.int .i64 (4 : Nat))), (71, .v (.int .i64 (q.1 : Nat)))]) (fun q => ⟨[(1, .own 25 [f.av]), (2, .own 67 [srcRow (l.take 2000) q.2.1])], q.2.2⟩) (fun q => q.1 ≤ 4) (fun q => 4 - q.1) (0, _, _) (by simp) ⟨rfl, rfl, rfl, rfl, rfl, rfl, rfl, rfl, by rw [hpl]; rfl, rfl, rfl, trivial⟩ rfl ?_; rintro ⟨j, k2, e2⟩ ρ hj; simp only at hj; simp only [updL]
  refine zA fun K hK => zB ?_
  refine zF (yP rfl rfl rfl) ?_; try simp only [nA, Nat.reduceBEq, Nat.reduceEqDiff, ↓reduceIte, Nat.reduceAdd, Nat.reduceSub]
  refine zE (hK _ ?_); clear hK K
  refine zA fun K hK => ?_
  refine zL rfl rfl rfl (fun hc => ?_) (fun hc => ?_)
  ·
   (try simp only [z7] at hc); have hc3 := hc; have hjl : j < pl.length := (by rw [hpn]; omega); obtain ⟨zs, hzj⟩ : ∃ zs, pl[j]? = some zs := ⟨pl[j], List.getElem?_eq_getElem hjl⟩; have hzl := hpb zs (List.mem_of_getElem? hzj); obtain ⟨g0, hg0⟩ : ∃ g0 : Flight, Fn Tryz.prog 17 [] [.v (.int .i64 (gmod (rawV (l.take 2000) k2) 3))] [.agg g0.av] [] := ⟨_, C17 _ (gmod_bd (by decide))⟩
   refine zM ?_
   refine hK _ ?_; clear hK K
   refine zA fun K hK => zN ?_
   refine zA fun K hK => zB ?_
   refine zF (zW j rfl (.inl rfl) rfl Tryz.underlying60 rfl (get_of hzj) (by exact sz31) (bl rfl)) ?_; try simp only [nA, Nat.reduceBEq, Nat.reduceEqDiff, ↓reduceIte, Nat.reduceAdd, Nat.reduceSub]
   (refine awR (yA rfl rfl ag31) ?_); try simp only [nA, Nat.reduceBEq, Nat.reduceEqDiff, ↓reduceIte, Nat.reduceAdd, Nat.reduceSub]
   refine zF (zD rfl rfl) ?_; simp only [nA]
   refine zE (hK _ ?_); clear hK K
   refine zA fun K hK => ?_
   refine AW.ad [(0, 1, .own 25 [f.av])] mix rfl ?_
   (refine adR 0 rfl (fun T' ok => zK rfl rfl (by exact ok.1) rfl ag25 sz25 (bl rfl) rfl) (by exact ⟨rfl, trivial⟩) (by kernel_rfl) (by kernel_rfl) ?_); simp only [nA, Nat.reduceBEq, Nat.reduceEqDiff, ↓reduceIte]
   refine adP 1 rfl (fun T' ok => zC rfl rfl) (by exact ⟨rfl, trivial⟩) (by kernel_rfl) (by kernel_rfl) ?_; simp only [nA, ↓reduceIte]
   refine adP 6 rfl (fun T' ok => zC rfl rfl) (by exact ⟨rfl, trivial⟩) (by kernel_rfl) (by kernel_rfl) ?_; try simp only [nA, Nat.reduceBEq, Nat.reduceEqDiff, ↓reduceIte, Nat.reduceAdd, Nat.reduceSub]
   refine adJ 2 rfl (yQ rfl en18 (C18 (l := (l.take 2000)) (k := k2) (n := 3) (hl20 l) (by decide)) (by exact rfl) (RL.cons .ptr (RL.cons (.base (by exact View.same rfl)) (RL.nil))) (by exact ⟨_, _, _, rfl, rfl, rfl⟩) (by exact rfl) (by exact rfl) (by exact rfl)) (by kernel_rfl) (by exact ⟨rfl, trivial⟩) ?_; try simp only [nA, Nat.reduceBEq, Nat.reduceEqDiff, ↓reduceIte, Nat.reduceAdd, Nat.reduceSub]
   refine adF 3 rfl (fun T' ok => op_callS rfl en17 hg0 (RL.cons (by exact View.same rfl) (RL.nil)) rfl rfl rfl) (by exact ⟨rfl, trivial⟩) (by kernel_rfl) (by kernel_rfl) ?_; try simp only [nA, Nat.reduceBEq, Nat.reduceEqDiff, ↓reduceIte, Nat.reduceAdd, Nat.reduceSub]
   refine adJ 4 rfl (OpJ.frz (zV rfl [(0, f.av), (1, g0.av)] ([f, g0].map Flight.av) Tryz.underlying53 ze25 rfl (by simp) rfl (by simp) rfl (bl rfl) (by simp [maxLen])) (fl_flat [f, g0]) rfl) (by kernel_rfl) (by exact ⟨rfl, trivial⟩) ?_; try simp only [nA, Nat.reduceBEq, Nat.reduceEqDiff, ↓reduceIte, Nat.reduceAdd, Nat.reduceSub]
   (refine adP 5 rfl (fun T' ok => zX rfl rfl Tryz.underlying53 (by exact .inr (.inl ⟨_, rfl, rfl⟩))) (by exact ⟨rfl, trivial⟩) (by kernel_rfl) (by kernel_rfl) ?_); simp only [nA, Nat.reduceBEq, Nat.reduceEqDiff, ↓reduceIte]
   refine adDone (by kernel_rfl) ?_
   refine hK _ ?_; clear hK K
   refine zN ?_
   obtain ⟨fs, hfs⟩ : ∃ fs, fs = [f, g0] := ⟨_, rfl⟩; have hfl : fs.length = 2 := (by rw [hfs]; rfl); refine yC (fun (q : Nat × Nat) => [(6, .ptr 0 1 0 0), (9, .ptr 1 2 0 0), (3, .ro (od.map Piece.av)), (11, .ro (bs.map Piece.av)), (43, .ro (ls.map lav)), (44, .v (.int .i64 (3 : Nat))), (45, .v (.int .i64 (i : Nat))), (13, .ro (ys.map Container.av)), (69, .ro (pl.map pav)), (70, .v (.int .i64 (4 : Nat))), (71, .v (.int .i64 (j : Nat))), (15, .ro (zs.map Piece.av)), (79, .ro (fs.map Flight.av)), (80, .v (.int .i64 (2 : Nat))), (81, .v (.int .i64 (q.1 : Nat)))]) (fun q => ⟨[(1, .own 25 [f.av]), (2, .own 67 [srcRow (l.take 2000) (zP (l.take 2000) k2)])], q.2⟩) (fun q => q.1 ≤ 2) (fun q => 2 - q.1) (0, _) (by simp) ⟨rfl, rfl, rfl, rfl, rfl, rfl, rfl, rfl, rfl, rfl, rfl, rfl, by rw [hfs]; rfl, rfl, rfl, trivial⟩ rfl ?_; rintro ⟨m, e3⟩ ρ hm; simp only at hm; simp only [updL]
   refine zA fun K hK => zB ?_
   refine zF (yP rfl rfl rfl) ?_; try simp only [nA, Nat.reduceBEq, Nat.reduceEqDiff, ↓reduceIte, Nat.reduceAdd, Nat.reduceSub]
   refine zE (hK _ ?_); clear hK K
   refine zA fun K hK => ?_
   refine zL rfl rfl rfl (fun hc => ?_) (fun hc => ?_)
   ·
    (try simp only [z7] at hc); have hc4 := hc; have hml : m < fs.length := (by rw [hfl]; omega); obtain ⟨g, hgm⟩ : ∃ g, fs[m]? = some g := ⟨fs[m], List.getElem?_eq_getElem hml⟩; obtain ⟨hA1, hA2⟩ := asgV_sml ys g zs; have hC24 := C24 (l := ys) (f := g) (bags := zs) hS (by omega); have hC25 := C25 (l := ys) (f := g) (bags := zs) hS (by omega); generalize asgV ys g zs = A at hA1 hA2 hC24 hC25; have h26 := C26 (a := A.1) (b := A.1) hA1.len hA1.p; rw [listEq_self sameC_self] at h26; have h27 := C27 (a := A.2.1) (b := A.2.1) (by omega); rw [listEq_self piEq_self] at h27
    refine zM ?_
    refine hK _ ?_; clear hK K
    refine zA fun K hK => zN ?_
    refine zA fun K hK => zB ?_
    refine zF (zW m rfl (.inl rfl) rfl Tryz.underlying53 rfl (get_of hgm) (by exact sz25) (bl rfl)) ?_; try simp only [nA, Nat.reduceBEq, Nat.reduceEqDiff, ↓reduceIte, Nat.reduceAdd, Nat.reduceSub]
    (refine awR (zY rfl rfl ag25 sz25 (bl rfl) (by decide) rfl) ?_); try simp only [nA, Nat.reduceBEq, Nat.reduceEqDiff, ↓reduceIte, Nat.reduceAdd, Nat.reduceSub]
    refine yD (op_alloc rfl ze25 rfl) ?_; simp only [nA, Nat.reduceBEq, Nat.reduceEqDiff, ↓reduceIte]
    refine yD (z8 rfl rfl rfl rfl rfl rfl sz25 rfl (bl rfl) rfl) ?_; simp only [nA, Nat.reduceBEq, Nat.reduceEqDiff, ↓reduceIte]
    refine zE (hK _ ?_); clear hK K
    refine zA fun K hK => zB ?_
    refine zF (zC rfl rfl) ?_; simp only [nA, ↓reduceIte]
    (refine awR (zK rfl rfl rfl rfl ag25 sz25 (bl rfl) rfl) ?_); try simp only [nA, Nat.reduceBEq, Nat.reduceEqDiff, ↓reduceIte, Nat.reduceAdd, Nat.reduceSub]
    refine zF (zC rfl rfl) ?_; simp only [nA, ↓reduceIte]
    refine yD (op_call (b := false) rfl en24 hC24 (RL.cons (by exact View.same rfl) (RL.cons (by exact View.same rfl) (RL.cons (by exact View.same rfl) (RL.nil)))) rfl (fun h => by cases h) rfl rfl) ?_; try simp only [nA, Nat.reduceBEq, Nat.reduceEqDiff, ↓reduceIte, Nat.reduceAdd, Nat.reduceSub]
    refine zF (zC rfl rfl) ?_; simp only [nA]
    refine zF (z6 rfl rfl rfl) ?_; try simp only [nA, Nat.reduceBEq, Nat.reduceEqDiff, ↓reduceIte, Nat.reduceAdd, Nat.reduceSub]
    refine zF (z6 rfl rfl rfl) ?_; try simp only [nA, Nat.reduceBEq, Nat.reduceEqDiff, ↓reduceIte, Nat.reduceAdd, Nat.reduceSub]
    refine zF (z6 rfl rfl rfl) ?_; try simp only [nA, Nat.reduceBEq, Nat.reduceEqDiff, ↓reduceIte, Nat.reduceAdd, Nat.reduceSub]
    refine zF (zD rfl rfl) ?_; simp only [nA, ↓reduceIte]
    refine zF (zD rfl rfl) ?_; simp only [nA, ↓reduceIte]
    refine zF (zD rfl rfl) ?_; simp only [nA, ↓reduceIte]
    refine zE (hK _ ?_); clear hK K
    refine zA fun K hK => zB ?_
    refine zF (zC rfl rfl) ?_; simp only [nA, ↓reduceIte]
    (refine awR (zK rfl rfl rfl rfl ag25 sz25 (bl rfl) rfl) ?_); try simp only [nA, Nat.reduceBEq, Nat.reduceEqDiff, ↓reduceIte, Nat.reduceAdd, Nat.reduceSub]
    refine zF (zC rfl rfl) ?_; simp only [nA, ↓reduceIte]
    refine yD (op_call (b := false) rfl en25 hC25 (RL.cons (by exact View.same rfl) (RL.cons (by exact View.same rfl) (RL.cons (by exact View.same rfl) (RL.nil)))) rfl (fun h => by cases h) rfl rfl) ?_; try simp only [nA, Nat.reduceBEq, Nat.reduceEqDiff, ↓reduceIte, Nat.reduceAdd, Nat.reduceSub]
    refine zF (zC rfl rfl) ?_; simp only [nA]
    refine zF (z6 rfl rfl rfl) ?_; try simp only [nA, Nat.reduceBEq, Nat.reduceEqDiff, ↓reduceIte, Nat.reduceAdd, Nat.reduceSub]
    refine zF (z6 rfl rfl rfl) ?_; try simp only [nA, Nat.reduceBEq, Nat.reduceEqDiff, ↓reduceIte, Nat.reduceAdd, Nat.reduceSub]
    refine zF (z6 rfl rfl rfl) ?_; try simp only [nA, Nat.reduceBEq, Nat.reduceEqDiff, ↓reduceIte, Nat.reduceAdd, Nat.reduceSub]
    refine zF (zD rfl rfl) ?_; simp only [nA, ↓reduceIte]
    refine zF (zD rfl rfl) ?_; simp only [nA, ↓reduceIte]
    refine zF (zD rfl rfl) ?_; simp only [nA, ↓reduceIte]
    refine zE (hK _ ?_); clear hK K
    refine zA fun K hK => zB (yS ?_)
    refine zQ (zC rfl rfl) ?_; simp only [nA, ↓reduceIte]
    refine zQ (zC rfl rfl) ?_; simp only [nA, ↓reduceIte]
    (refine zQ (op_neq rfl rfl rfl) ?_); try simp only [nA, Nat.reduceBEq, Nat.reduceEqDiff, ↓reduceIte, Nat.reduceAdd, Nat.reduceSub]
    refine zQ (zC rfl rfl) ?_; simp only [nA]
    refine' aqOr' [_, _, _, _] [105,106,107,108] rfl rfl rfl rfl rfl rfl rfl rfl rfl rfl rfl rfl (fun hb => ?_) ?_; rotate_left
    ·
     (try simp only [z7] at hb)
     refine zQ (zC rfl rfl) ?_; simp only [nA, ↓reduceIte]
     refine zQ (zC rfl rfl) ?_; simp only [nA, ↓reduceIte]
     refine aqQ (zT (b := true) rfl en26 h26 (RL.cons (by exact View.same rfl) (RL.cons (by exact View.same rfl) (RL.nil))) rfl) ?_; try simp only [nA, Nat.reduceBEq, Nat.reduceEqDiff, ↓reduceIte, Nat.reduceAdd, Nat.reduceSub]
     refine zQ (op_not rfl rfl rfl) ?_; try simp only [nA, Nat.reduceBEq, Nat.reduceEqDiff, ↓reduceIte, Nat.reduceAdd, Nat.reduceSub]
     (refine yL rfl rfl rfl ?_; repeat (first | exact fun _ _ => rfl | refine zU rfl ?_))
    refine zQ (zC rfl rfl) ?_; simp only [nA]
    refine' aqOr' [_, _, _, _] [111,112,113,114] rfl rfl rfl rfl rfl rfl rfl rfl rfl rfl rfl rfl (fun hb => ?_) ?_; rotate_left
    ·
     (try simp only [z7] at hb)
     refine zQ (zC rfl rfl) ?_; simp only [nA, Nat.reduceEqDiff, ↓reduceIte]
     refine zQ (zC rfl rfl) ?_; simp only [nA, Nat.reduceEqDiff, ↓reduceIte]
     refine aqQ (zT (b := true) rfl en27 h27 (RL.cons (by exact View.same rfl) (RL.cons (by exact View.same rfl) (RL.nil))) rfl) ?_; try simp only [nA, Nat.reduceBEq, Nat.reduceEqDiff, ↓reduceIte, Nat.reduceAdd, Nat.reduceSub]
     refine zQ (op_not rfl rfl rfl) ?_; try simp only [nA, Nat.reduceBEq, Nat.reduceEqDiff, ↓reduceIte, Nat.reduceAdd, Nat.reduceSub]
     (refine yL rfl rfl rfl ?_; repeat (first | exact fun _ _ => rfl | refine zU rfl ?_))
    refine yN (hK _ ?_); clear hK K
    refine zL rfl rfl rfl (fun hc => ?_) (fun hc => ?_)
    ·
     (try simp only [z7] at hc); have hc5 := hc
     refine zA fun K hK => zB ?_
     refine zF (zD rfl rfl) ?_; try simp only [nA, Nat.reduceBEq, Nat.reduceEqDiff, ↓reduceIte, Nat.reduceAdd, Nat.reduceSub]
     refine zE (hK _ ?_); clear hK K
     skip
     refine zO ?_; (try simp only [zI, zJ, Nat.reduceEqDiff, ↓reduceIte]); exfalso; simp at hc
    (try simp only [z7] at hc); have hc5 := hc
    refine zM ?_
    (try simp only [zI, zJ, Nat.reduceEqDiff, ↓reduceIte])
    refine hK _ ?_; clear hK K
    refine zB ?_
    (refine zF (zR rfl rfl rfl (by omega)) ?_); try simp only [nA, Nat.reduceBEq, Nat.reduceEqDiff, ↓reduceIte, Nat.reduceAdd, Nat.reduceSub]
    refine zF (zC rfl rfl) ?_; simp only [nA]
    refine AWL.gh (Gh.drop 2) ?_; try simp only [nA, Nat.reduceBEq, Nat.reduceEqDiff, ↓reduceIte, Nat.reduceAdd, Nat.reduceSub]
    refine zE ?_
    refine ⟨(m + 1, _), by dsimp only; omega, by dsimp only; omega, ⟨rfl, rfl, rfl, rfl, rfl, rfl, rfl, rfl, rfl, rfl, rfl, rfl, rfl, rfl, rfl, trivial⟩, (by rfl), (by rfl)⟩
   (try simp only [z7] at hc); have hc4 := hc
   refine yE ?_; try simp only [zI, zJ, Nat.reduceEqDiff, ↓reduceIte]
   clear hK K
   (try simp only [zI, zJ, Nat.reduceEqDiff, ↓reduceIte])
   refine hK _ ?_; clear hK K
   refine zB ?_
   (refine zF (zR rfl rfl rfl (by omega)) ?_); try simp only [nA, Nat.reduceBEq, Nat.reduceEqDiff, ↓reduceIte, Nat.reduceAdd, Nat.reduceSub]
   refine zF (zC rfl rfl) ?_; simp only [nA]
   skip
   refine zE ?_
   refine ⟨(j + 1, zP (l.take 2000) k2, _), by dsimp only; omega, by dsimp only; omega, ⟨rfl, rfl, rfl, rfl, rfl, rfl, rfl, rfl, rfl, rfl, rfl, trivial⟩, (by rfl), (by rfl)⟩
  (try simp only [z7] at hc); have hc3 := hc
  refine yE ?_; try simp only [zI, zJ, Nat.reduceEqDiff, ↓reduceIte]
  clear hK K
  (try simp only [zI, zJ, Nat.reduceEqDiff, ↓reduceIte])
  refine hK _ ?_; clear hK K
  refine zB ?_
  (refine zF (zR rfl rfl rfl (by omega)) ?_); try simp only [nA, Nat.reduceBEq, Nat.reduceEqDiff, ↓reduceIte, Nat.reduceAdd, Nat.reduceSub]
  refine zF (zC rfl rfl) ?_; simp only [nA]
  skip
  refine zE ?_
  refine ⟨(i + 1, k2, _), by dsimp only; omega, by dsimp only; omega, ⟨rfl, rfl, rfl, rfl, rfl, rfl, rfl, trivial⟩, (by rfl), (by rfl)⟩
 (try simp only [z7] at hc); have hc2 := hc
 refine yE ?_; try simp only [zI, zJ, Nat.reduceEqDiff, ↓reduceIte]
 clear hK K
 refine hK _ ?_; clear hK K
 refine zA fun K hK => zB ?_
 refine yD (OpQ.j (zT (b := true) rfl en14 (C14) (RL.nil) rfl)) ?_; try simp only [nA, Nat.reduceBEq, Nat.reduceEqDiff, ↓reduceIte, Nat.reduceAdd, Nat.reduceSub]
 refine zF (zD rfl rfl) ?_; simp only [nA]
 refine zE (hK _ ?_); clear hK K
 skip
 refine zO ?_; (try simp only [zI, zJ, Nat.reduceEqDiff, ↓reduceIte]); exact zS rfl (.tmp (bl rfl) rfl rfl .nil)
set_option maxRecDepth 100000
abbrev decIntSh : List Sh := [.int .i64]
theorem decInt {xs : List AV} (h : RL Mt xs decIntSh) : ∃ c : Int, xs = iv c := by
 obtain ⟨x0, xs, rfl, h0, h⟩ := h.cons_inv
 obtain rfl := h.nil_inv
 obtain ⟨v0, rfl⟩ := Mt.i64 h0
 exact ⟨v0, rfl⟩
abbrev decIntsSh : Sh := .sl decIntSh
theorem decInts {x : AV} (h : Mt x decIntsSh) : ∃ l : List Int, x = .ro (l.map iv) := by
 obtain ⟨es, rfl⟩ := h.sl_
 obtain ⟨l, rfl⟩ := rows_of fun e he => decInt (h.rows e he)
 exact ⟨l, rfl⟩
abbrev decPieceSh : List Sh := [.int .i64, .int .i64, .int .i64, .int .i64, .int .i64]
theorem decPiece {xs : List AV} (h : RL Mt xs decPieceSh) : ∃ c : Piece, xs = Piece.av c := by
 obtain ⟨x0, xs, rfl, h0, h⟩ := h.cons_inv
 obtain ⟨x1, xs, rfl, h1, h⟩ := h.cons_inv
 obtain ⟨x2, xs, rfl, h2, h⟩ := h.cons_inv
 obtain ⟨x3, xs, rfl, h3, h⟩ := h.cons_inv
 obtain ⟨x4, xs, rfl, h4, h⟩ := h.cons_inv
 obtain rfl := h.nil_inv
 obtain ⟨v0, rfl⟩ := Mt.i64 h0
 obtain ⟨v1, rfl⟩ := Mt.i64 h1
 obtain ⟨v2, rfl⟩ := Mt.i64 h2
 obtain ⟨v3, rfl⟩ := Mt.i64 h3
 obtain ⟨v4, rfl⟩ := Mt.i64 h4
 exact ⟨⟨⟨v0, v1, v2⟩, v3, v4⟩, rfl⟩
abbrev decPlateSh : List Sh := [.int .i64, .int .i64, .int .i64]
abbrev decContSh : List Sh := [.int .i64, .str, .int .i64, .str, .int .i64, .int .i64, .int .i64, .int .i64, .int .i64, .int .i64, .sl decPieceSh]
theorem decCont {xs : List AV} (h : RL Mt xs decContSh) : ∃ c : Container, xs = Container.av c := by
 obtain ⟨x0, xs, rfl, h0, h⟩ := h.cons_inv
 obtain ⟨x1, xs, rfl, h1, h⟩ := h.cons_inv
 obtain ⟨x2, xs, rfl, h2, h⟩ := h.cons_inv
 obtain ⟨x3, xs, rfl, h3, h⟩ := h.cons_inv
 obtain ⟨x4, xs, rfl, h4, h⟩ := h.cons_inv
 obtain ⟨x5, xs, rfl, h5, h⟩ := h.cons_inv
 obtain ⟨x6, xs, rfl, h6, h⟩ := h.cons_inv
 obtain ⟨x7, xs, rfl, h7, h⟩ := h.cons_inv
 obtain ⟨x8, xs, rfl, h8, h⟩ := h.cons_inv
 obtain ⟨x9, xs, rfl, h9, h⟩ := h.cons_inv
 obtain ⟨x10, xs, rfl, h10, h⟩ := h.cons_inv
 obtain rfl := h.nil_inv
 obtain ⟨v0, rfl⟩ := Mt.i64 h0
 obtain ⟨v1, rfl⟩ := Mt.s_ h1
 obtain ⟨v2, rfl⟩ := Mt.i64 h2
 obtain ⟨v3, rfl⟩ := Mt.s_ h3
 obtain ⟨v4, rfl⟩ := Mt.i64 h4
 obtain ⟨v5, rfl⟩ := Mt.i64 h5
 obtain ⟨v6, rfl⟩ := Mt.i64 h6
 obtain ⟨v7, rfl⟩ := Mt.i64 h7
 obtain ⟨v8, rfl⟩ := Mt.i64 h8
 obtain ⟨v9, rfl⟩ := Mt.i64 h9
 obtain ⟨e10, rfl⟩ := Mt.sl_ h10
 obtain ⟨v10, rfl⟩ := rows_of (fun e he => decPiece (h10.rows e he))
 exact ⟨⟨v0, ⟨v1, v2, v3, v4⟩, v5, v6, v7, v8, v9, v10⟩, rfl⟩
abbrev decContsSh : Sh := .sl decContSh
theorem decConts {x : AV} (h : Mt x decContsSh) : ∃ l : List Container, x = .ro (l.map Container.av) := by
 obtain ⟨es, rfl⟩ := h.sl_
 obtain ⟨l, rfl⟩ := rows_of fun e he => decCont (h.rows e he)
 exact ⟨l, rfl⟩
set_option maxRecDepth 100000
abbrev decFlightSh : List Sh := [.str, .int .i64, .str, .int .i64]
theorem decFlight {xs : List AV} (h : RL Mt xs decFlightSh) : ∃ c : Flight, xs = Flight.av c := by
 obtain ⟨x0, xs, rfl, h0, h⟩ := h.cons_inv
 obtain ⟨x1, xs, rfl, h1, h⟩ := h.cons_inv
 obtain ⟨x2, xs, rfl, h2, h⟩ := h.cons_inv
 obtain ⟨x3, xs, rfl, h3, h⟩ := h.cons_inv
 obtain rfl := h.nil_inv
 obtain ⟨v0, rfl⟩ := Mt.s_ h0
 obtain ⟨v1, rfl⟩ := Mt.i64 h1
 obtain ⟨v2, rfl⟩ := Mt.s_ h2
 obtain ⟨v3, rfl⟩ := Mt.i64 h3
 exact ⟨⟨v0, v1, v2, v3⟩, rfl⟩
abbrev decPiecesSh : Sh := .sl decPieceSh
theorem decPieces {x : AV} (h : Mt x decPiecesSh) : ∃ l : List Piece, x = .ro (l.map Piece.av) := by
 obtain ⟨es, rfl⟩ := h.sl_
 obtain ⟨l, rfl⟩ := rows_of fun e he => decPiece (h.rows e he)
 exact ⟨l, rfl⟩
abbrev decLegSh : List Sh := [.str, .int .i64, .str, .int .i64, .str, .str]
abbrev decBagSh : List Sh := [.int .i64, .int .i64, .int .i64, .str, .int .i64, .str, .int .i64, .str, .str, .str, .int .i64, .str, .int .i64, .str, .str, .sl decLegSh, .int .i64, .int .i64, .int .i64, .bool, .str, .str, .int .i64, .str, .bool]
end Go.Proofs.YtmdohphcolffmaaGreat
