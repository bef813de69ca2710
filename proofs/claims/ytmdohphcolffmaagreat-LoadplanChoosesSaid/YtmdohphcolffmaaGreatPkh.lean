import Derived.Test.YtmdohphcolffmaaGreatPkg
import Derived.Deep.Slices
import Derived.OpenShut
import Derived.WalkKit
import Derived.ProofKit
namespace Go.Proofs.YtmdohphcolffmaaGreat
set_option maxHeartbeats 8000000
open Go.RowKit
set_option linter.unusedSimpArgs false
set_option linter.unusedVariables false
set_option maxRecDepth 100000
abbrev awBag : List AV := [.v (.int .i64 0), .v (.int .i64 0), .v (.int .i64 0), .v (.string ⟨#[]⟩), .v (.int .i64 0), .v (.string ⟨#[]⟩), .v (.int .i64 0), .v (.string ⟨#[]⟩), .v (.string ⟨#[]⟩), .v (.string ⟨#[]⟩), .v (.int .i64 0), .v (.string ⟨#[]⟩), .v (.int .i64 0), .v (.string ⟨#[]⟩), .v (.string ⟨#[]⟩), .v (.slice none 0 0), .v (.int .i64 0), .v (.int .i64 0), .v (.int .i64 0), .v (.bool false), .v (.string ⟨#[]⟩), .v (.string ⟨#[]⟩), .v (.int .i64 2), .v (.string ⟨#[]⟩), .v (.bool false)]
theorem C8 : Fn Tryz.prog 8 [] [.agg awBag] [.v (.int .i64 3)] [] := by
 refine Spec.body Tryz.func8 rfl Tryz.ntmps8 (by simp) rfl ?_; intro S0 own0 v0 w0
 refine zA fun K hK => zB ?_
 refine yB (yL rfl rfl rfl sz30 rfl) ?_; simp only [nA, Nat.reduceBEq, Nat.reduceEqDiff, ↓reduceIte]
 refine zF (zD rfl rfl) ?_; try simp only [nA, Nat.reduceBEq, Nat.reduceEqDiff, ↓reduceIte, Nat.reduceAdd, Nat.reduceSub]
 refine zE (hK _ ?_); clear hK K; try simp only [nA, Nat.reduceBEq, Nat.reduceEqDiff, ↓reduceIte, Nat.reduceAdd, Nat.reduceSub]
 refine zA fun K hK => zP ?_
 refine zA fun K hK => zB ?_
 (refine zF (zH rfl rfl rfl fl30_10 (by exact sz3) (by decide) rfl) ?_); try simp only [nA, Nat.reduceBEq, Nat.reduceEqDiff, ↓reduceIte, Nat.reduceAdd, Nat.reduceSub]
 (refine awR (zG rfl rfl rfl rfl ag3 rfl rfl) ?_); try simp only [nA, Nat.reduceBEq, Nat.reduceEqDiff, ↓reduceIte, Nat.reduceAdd, Nat.reduceSub]
 (refine zF (op_eql rfl rfl rfl) ?_); try simp only [nA, Nat.reduceBEq, Nat.reduceEqDiff, ↓reduceIte, Nat.reduceAdd, Nat.reduceSub]
 refine zF (zD rfl rfl) ?_; simp only [nA]
 refine zE (hK _ ?_); clear hK K
 refine zL rfl rfl rfl (fun hc => ?_) (fun hc => ?_)
 · (cases hc; done)
 (try simp only [zY] at hc); have hc1 := hc
 refine zA fun K hK => zB ?_
 (refine zF (zH rfl rfl rfl fl30_10 (by exact sz3) (by decide) rfl) ?_); try simp only [nA, Nat.reduceBEq, Nat.reduceEqDiff, ↓reduceIte, Nat.reduceAdd, Nat.reduceSub]
 (refine awR (zG rfl rfl rfl rfl ag3 rfl rfl) ?_); try simp only [nA, Nat.reduceBEq, Nat.reduceEqDiff, ↓reduceIte, Nat.reduceAdd, Nat.reduceSub]
 (refine zF (op_eql rfl rfl rfl) ?_); try simp only [nA, Nat.reduceBEq, Nat.reduceEqDiff, ↓reduceIte, Nat.reduceAdd, Nat.reduceSub]
 refine zF (zD rfl rfl) ?_; simp only [nA]
 refine zE (hK _ ?_); clear hK K
 refine zL rfl rfl rfl (fun hc => ?_) (fun hc => ?_)
 ·
  (try simp only [zY] at hc); have hc2 := hc
  refine zA fun K hK => zB ?_
  refine zF (zD rfl rfl) ?_; try simp only [nA, Nat.reduceBEq, Nat.reduceEqDiff, ↓reduceIte, Nat.reduceAdd, Nat.reduceSub]
  refine zE (hK _ ?_); clear hK K
  skip
  refine zO ?_; (try simp only [zJ, zK, Nat.reduceEqDiff, ↓reduceIte]); exact zS rfl (.tmp (bl rfl) rfl rfl .nil)
 (cases hc; done)
abbrev pairC (i : Nat) : Container := ⟨(i : Nat) + 1, flightN 0, 31, 100, 9, 0, if i = 0 then -10 else 10, []⟩
abbrev pairL (i : Nat) : List Container := (List.range i).map pairC
theorem nilC_le : ∀ (l : List Container), (∀ c ∈ l, c.pieces = []) → RL (Le2 Tryz.prog) (l.map nilC).flatten (l.map Container.av).flatten
 | [], _ => RL.nil
 | c :: l, h => by
   rw [List.map_cons, List.map_cons, List.flatten_cons, List.flatten_cons]
   refine RL.append ?_ (nilC_le l fun x hx => h x (by simp [hx]))
   have hc := h c (by simp)
   unfold nilC Container.av
   rw [hc]
   exact RL.cons .same (RL.cons .same (RL.cons .same (RL.cons .same (RL.cons .same (RL.cons .same (RL.cons .same (RL.cons .same (RL.cons .same (RL.cons .same (RL.cons .nil RL.nil))))))))))
theorem nilC_lens (l : List Container) : (l.map Container.av).map List.length = (l.map nilC).map List.length := by simp
theorem nilC_len (l : List Container) : ∀ x ∈ l.map nilC, x.length = 11 := fun x hx => by obtain ⟨c, _, rfl⟩ := List.mem_map.1 hx; rfl
theorem flat_nilC (c : Container) : ∀ r ∈ [nilC c], ∀ x ∈ r, flatA x = true := fun r hr x hx => by
 simp only [List.mem_cons, List.not_mem_nil, or_false] at hr
 subst hr
 simp only [nilC, Container.av, List.set, List.mem_cons, List.not_mem_nil, or_false] at hx
 rcases hx with rfl | rfl | rfl | rfl | rfl | rfl | rfl | rfl | rfl | rfl | rfl <;> rfl
theorem C34 : Fn Tryz.prog 34 [] [] [.ro ((pairL 2).map Container.av)] [] := by
 refine Spec.body Tryz.func34 rfl Tryz.ntmps34 (by simp) rfl ?_; intro S0 own0 v0 w0
 refine zA fun K hK => zB ?_
 refine zF (zD rfl rfl) ?_; try simp only [nA, Nat.reduceBEq, Nat.reduceEqDiff, ↓reduceIte, Nat.reduceAdd, Nat.reduceSub]
 refine zE (hK _ ?_); clear hK K; try simp only [nA, Nat.reduceBEq, Nat.reduceEqDiff, ↓reduceIte, Nat.reduceAdd, Nat.reduceSub]
 refine zA fun K hK => zB ?_
 refine zF (zD rfl rfl) ?_; try simp only [nA, Nat.reduceBEq, Nat.reduceEqDiff, ↓reduceIte, Nat.reduceAdd, Nat.reduceSub]
 refine zE (hK _ ?_); clear hK K
 refine zA fun K hK => ?_
 refine zA fun K hK => zB ?_
 refine yB (OpJ.frz (zV rfl [(0, iv (-10)), (1, iv 10)] [iv (-10), iv 10] Tryz.underlying36 ze3 rfl (by simp) rfl (by simp) rfl (bl rfl) (by simp [maxLen])) (by simp [flatA]) rfl) ?_; try simp only [nA, Nat.reduceBEq, Nat.reduceEqDiff, ↓reduceIte, Nat.reduceAdd, Nat.reduceSub]
 refine zF (yA (n := 2) rfl rfl Tryz.underlying36 (.inr (.inl ⟨_, rfl, rfl⟩))) ?_; try simp only [nA, Nat.reduceBEq, Nat.reduceEqDiff, ↓reduceIte, Nat.reduceAdd, Nat.reduceSub]
 refine zF (zC rfl rfl) ?_; try simp only [nA, Nat.reduceBEq, Nat.reduceEqDiff, ↓reduceIte, Nat.reduceAdd, Nat.reduceSub]
 refine zE (hK _ ?_); clear hK K
 refine zP ?_
 refine AW.gh (Gh.nil (e := 33) 1 (bl rfl) rfl yH) ?_; (simp only [nA, Nat.reduceBEq, Nat.reduceEqDiff, ↓reduceIte]); refine yG (fun (q : Nat × Nat × Nat) => [(1, .sl 0 q.2.1 0 q.1), (4, .ro [iv (-10), iv 10]), (5, .v (.int .i64 2)), (6, .v (.int .i64 (q.1 : Nat)))]) (fun q => ⟨[(q.2.1, .own 33 ((pairL q.1).map nilC))], q.2.2⟩) (fun q => q.1 ≤ 2) (fun q => 2 - q.1) (0, _, _) (by simp) ⟨rfl, rfl, rfl, rfl, trivial⟩ rfl ?_; rintro ⟨i, v, ep⟩ ρ hI; dsimp only at hI ⊢; simp only [updL]
 refine zA fun K hK => zB ?_
 refine zF (op_lss rfl rfl rfl) ?_; try simp only [nA, Nat.reduceBEq, Nat.reduceEqDiff, ↓reduceIte, Nat.reduceAdd, Nat.reduceSub]
 refine zE (hK _ ?_); clear hK K
 refine zA fun K hK => ?_
 refine zL rfl rfl rfl (fun hc => ?_) (fun hc => ?_)
 ·
  (try simp only [zY] at hc); have hc1 := hc; have hlt : i < 2 := (by omega); have hrow : [iv (-10), iv 10][i]? = some (iv (if i = 0 then -10 else 10)) := (by rcases (by omega : i = 0 ∨ i = 1) with rfl | rfl <;> rfl)
  refine zN ?_
  refine hK _ ?_; clear hK K
  refine zA fun K hK => zP ?_
  refine zA fun K hK => zB ?_
  refine zF (zC rfl rfl) ?_; simp only [nA, ↓reduceIte]
  refine zF (zX i rfl (.inl rfl) rfl Tryz.underlying36 rfl hrow (by exact sz3) (bl rfl)) ?_; try simp only [nA, Nat.reduceBEq, Nat.reduceEqDiff, ↓reduceIte, Nat.reduceAdd, Nat.reduceSub]
  (refine awR (z6 rfl rfl ag3) ?_); try simp only [nA, Nat.reduceBEq, Nat.reduceEqDiff, ↓reduceIte, Nat.reduceAdd, Nat.reduceSub]
  refine zF (zD rfl rfl) ?_; simp only [nA, ↓reduceIte]
  refine zF (zD rfl rfl) ?_; simp only [nA, ↓reduceIte]
  refine zE (hK _ ?_); clear hK K
  refine zB ?_
  refine zF (zC rfl rfl) ?_; simp only [nA, ↓reduceIte]
  refine zF (zC rfl rfl) ?_; simp only [nA, ↓reduceIte]
  (refine zF (zR rfl rfl rfl (by omega)) ?_); try simp only [nA, Nat.reduceBEq, Nat.reduceEqDiff, ↓reduceIte, Nat.reduceAdd, Nat.reduceSub]
  refine yB (op_call (b := false) rfl en17 C17_0 (RL.cons (by exact View.same rfl) (RL.nil)) rfl (fun h => by cases h) rfl rfl) ?_; try simp only [nA, Nat.reduceBEq, Nat.reduceEqDiff, ↓reduceIte, Nat.reduceAdd, Nat.reduceSub]
  refine zF (zC rfl rfl) ?_; simp only [nA, ↓reduceIte]
  refine zF (op_build2 (xs := [_, _, _, _, _, _, _, _, .v (.int .i64 0), _, .v (.slice none 0 0)]) rfl pl33 ze33 [(0, [_]), (1, [_, _, _, _]), (2, [_]), (3, [_]), (4, [_]), (6, [_])] rfl rfl rfl) ?_; simp only [nA, ↓reduceIte]
  refine yB (OpJ.frz (zV rfl [(0, nilC (pairC i))] [nilC (pairC i)] Tryz.underlying42 ze33 rfl (by simp) rfl (by simp) rfl (bl rfl) (by simp [maxLen])) (flat_nilC _) rfl) ?_; try simp only [nA, Nat.reduceBEq, Nat.reduceEqDiff, ↓reduceIte, Nat.reduceAdd, Nat.reduceSub]
  refine yB (op_app (r := 0) (rows := [nilC (pairC i)]) rfl rfl rfl rfl (by simp) .ro Tryz.underlying42 ze33 (by decide) (nilC_len [pairC i]) (by simp; omega) (by decide) (es' := (pairL (i + 1)).map nilC) (by unfold pairL; rw [List.range_succ, List.map_append, List.map_append]; rfl) (n := i + 1) (by simp)) ?_; try simp only [nA, Nat.reduceBEq, Nat.reduceEqDiff, ↓reduceIte, Nat.reduceAdd, Nat.reduceSub]
  refine zF (zD rfl rfl) ?_; simp only [nA]
  refine zE ?_
  (try simp only [zJ, zK, Nat.reduceEqDiff, ↓reduceIte])
  refine hK _ ?_; clear hK K
  refine zB ?_
  (refine zF (zR rfl rfl rfl (by omega)) ?_); try simp only [nA, Nat.reduceBEq, Nat.reduceEqDiff, ↓reduceIte, Nat.reduceAdd, Nat.reduceSub]
  refine zF (zC rfl rfl) ?_; simp only [nA]
  refine AWL.gh (Gh.drop 1) ?_; try simp only [nA, Nat.reduceBEq, Nat.reduceEqDiff, ↓reduceIte, Nat.reduceAdd, Nat.reduceSub]
  refine zE ?_
  refine ⟨(i + 1, _, _), by dsimp only; omega, by dsimp only; omega, ⟨rfl, rfl, rfl, rfl, trivial⟩, (by rfl), (by rfl)⟩
 (try simp only [zY] at hc); have hc1 := hc; obtain rfl : i = 2 := (by omega)
 refine yI ?_; try simp only [zJ, zK, Nat.reduceEqDiff, ↓reduceIte]
 clear hK K
 refine hK _ ?_; clear hK K
 refine zA fun K hK => zB ?_
 refine zF (zC rfl rfl) ?_; simp only [nA, ↓reduceIte]
 refine zF (zD rfl rfl) ?_; simp only [nA]
 refine zE (hK _ ?_); clear hK K
 refine AW.gh (Gh.slot2 (r := 0) (es' := (pairL 2).map Container.av) rfl (nilC_lens _) (nilC_le _ (fun c hc => by obtain ⟨k, _, rfl⟩ := List.mem_map.1 hc; rfl))) ?_; (try simp only [nA, Nat.reduceBEq, Nat.reduceEqDiff, ↓reduceIte, Nat.reduceAdd, Nat.reduceSub]); refine AW.gh (Gh.freeze 0 (bl rfl) rfl rfl (flatC _) (es' := (pairL 2).map Container.av) rfl) ?_; try simp only [nA, Nat.reduceBEq, Nat.reduceEqDiff, ↓reduceIte, Nat.reduceAdd, Nat.reduceSub]
 refine zO ?_; (try simp only [zJ, zK, Nat.reduceEqDiff, ↓reduceIte]); exact zS rfl (.tmp (bl rfl) rfl rfl .nil)
abbrev awB1 : Piece := ⟨platesP 1, 15, 0⟩
abbrev awB2 : Piece := ⟨platesP 2, 20, 0⟩
abbrev awB3 : Piece := ⟨platesP 1, 20, 0⟩
abbrev awOut : List Container := [⟨1, flightN 0, 31, 100, 9, 0, -10, [awB2]⟩, ⟨2, flightN 0, 31, 100, 9, 0, 10, [awB1]⟩]
theorem aw_asg : asgV (pairL 2) (flightN 0) [awB1, awB2] = (awOut, [], 0) := by kernel_rfl
theorem aw_cho : choV (pairL 2) (flightN 0) awB3 = (1, 0) := by kernel_rfl
theorem aw_mom : momV awOut (flightN 0) = -50 := by kernel_rfl
theorem aw_sml : Sml (pairL 2) := ⟨by simp, fun c hc => by obtain ⟨k, _, rfl⟩ := List.mem_map.1 hc; exact Nat.zero_le _⟩
theorem aw_sml2 : Sml awOut := ⟨by simp, fun c hc => by
 simp only [List.mem_cons, List.not_mem_nil, or_false] at hc
 rcases hc with rfl | rfl <;> decide⟩
theorem awC12 : Fn Tryz.prog 24 [] [.ro ((pairL 2).map Container.av), .agg (flightN 0).av, .ro ([awB1, awB2].map Piece.av)] [.ro (awOut.map Container.av), .ro ([] : List (List AV)), .v (.int .i64 0)] [] := by
 have h := C24 (l := pairL 2) (f := flightN 0) (bags := [awB1, awB2]) aw_sml (by decide)
 rw [aw_asg] at h
 exact h
theorem awC15 : Fn Tryz.prog 21 [] [.ro ((pairL 2).map Container.av), .agg (flightN 0).av, .agg awB3.av] [.v (.int .i64 1), .v (.int .i64 0)] [] := by
 have h := C21 (l := pairL 2) (f := flightN 0) (p := awB3) aw_sml
 rw [aw_cho] at h
 exact h
theorem awC29 : Fn Tryz.prog 19 [] [.ro (awOut.map Container.av), .agg (flightN 0).av] [.v (.int .i64 (-50))] [] := by
 have h := C19 (l := awOut) (f := flightN 0) aw_sml2
 rw [aw_mom] at h
 exact h
set_option maxRecDepth 100000
theorem pl30 : plIs Tryz.prog 30 [(0, 3), (3, 6), (9, 6), (15, 1), (16, 1), (17, 1), (18, 1), (19, 1), (20, 1), (21, 1), (22, 1), (23, 1), (24, 1)] := ⟨_, Tryz.underlying30, by kernel_rfl⟩
theorem C14 : Fn Tryz.prog 14 [] [] [.v (.bool true)] [] := by
 refine Spec.body Tryz.func14 rfl Tryz.ntmps14 (by simp) rfl ?_; intro S0 own0 v0 w0
 refine zA fun K hK => zB ?_
 refine zF (zD rfl rfl) ?_
 refine zE (hK _ ?_); clear hK K; try simp only [nA, Nat.reduceBEq, Nat.reduceEqDiff, ↓reduceIte, Nat.reduceAdd, Nat.reduceSub]
 refine zA fun K hK => zB ?_
 refine yB (op_call (b := false) rfl en17 C17_0 (RL.cons (by exact View.same rfl) (RL.nil)) rfl (fun h => by cases h) rfl rfl) ?_; try simp only [nA, Nat.reduceBEq, Nat.reduceEqDiff, ↓reduceIte, Nat.reduceAdd, Nat.reduceSub]
 refine yB (op_alloc rfl ze25 rfl) ?_; simp only [nA, Nat.reduceBEq, Nat.reduceEqDiff, ↓reduceIte]
 refine yB (z8 rfl rfl rfl rfl rfl rfl sz25 rfl (bl rfl) rfl) ?_; simp only [nA, Nat.reduceBEq, Nat.reduceEqDiff, ↓reduceIte]
 refine zE (hK _ ?_); clear hK K
 refine zA fun K hK => ?_
 refine AW.ad [(0, 1, .own 25 [(flightN 0).av])] mix rfl ?_
 (refine adR 1 rfl (fun T' ok => zI rfl rfl (by exact ok.1) rfl ag25 sz25 (bl rfl) rfl) (by exact ⟨rfl, trivial⟩) (by kernel_rfl) (by kernel_rfl) ?_)
 refine adF 0 rfl (fun T' ok => op_callS rfl en34 (C34) (RL.nil) rfl rfl rfl) (by exact ⟨rfl, trivial⟩) (by kernel_rfl) (by kernel_rfl) ?_; simp only [nA, Nat.reduceBEq, Nat.reduceEqDiff, ↓reduceIte]
 refine adF 2 rfl (fun T' ok => op_callS rfl en30 (C30 (i := 1)) (RL.cons (by exact View.same rfl) (RL.nil)) rfl rfl rfl) (by exact ⟨rfl, trivial⟩) (by kernel_rfl) (by kernel_rfl) ?_; try simp only [nA, Nat.reduceBEq, Nat.reduceEqDiff, ↓reduceIte, Nat.reduceAdd, Nat.reduceSub]
 refine adP 3 rfl (fun T' ok => op_build2 (xs := [_, _, _, _, .v (.int .i64 0)]) rfl pl35 ze35 [(0, [_, _, _]), (1, [_])] rfl rfl rfl) (by exact ⟨rfl, trivial⟩) (by kernel_rfl) (by kernel_rfl) ?_
 refine adF 4 rfl (fun T' ok => op_callS rfl en30 (C30 (i := 2)) (RL.cons (by exact View.same rfl) (RL.nil)) rfl rfl rfl) (by exact ⟨rfl, trivial⟩) (by kernel_rfl) (by kernel_rfl) ?_; try simp only [nA, Nat.reduceBEq, Nat.reduceEqDiff, ↓reduceIte, Nat.reduceAdd, Nat.reduceSub]
 refine adP 5 rfl (fun T' ok => op_build2 (xs := [_, _, _, _, .v (.int .i64 0)]) rfl pl35 ze35 [(0, [_, _, _]), (1, [_])] rfl rfl rfl) (by exact ⟨rfl, trivial⟩) (by kernel_rfl) (by kernel_rfl) ?_
 refine adF 6 rfl (fun T' ok => OpJ.frz (zV rfl [(0, awB1.av), (1, awB2.av)] [awB1.av, awB2.av] Tryz.underlying31 ze35 rfl (by simp) rfl (by simp) rfl (bl rfl) (by simp [maxLen])) (av_flatP [awB1, awB2]) rfl) (by exact ⟨rfl, trivial⟩) (by kernel_rfl) (by kernel_rfl) ?_; try simp only [nA, Nat.reduceBEq, Nat.reduceEqDiff, ↓reduceIte, Nat.reduceAdd, Nat.reduceSub]
 refine adF 7 rfl (fun T' ok => op_callS rfl en24 awC12 (RL.cons (by exact View.same rfl) (RL.cons (by exact View.same rfl) (RL.cons (by exact View.same rfl) (RL.nil)))) rfl rfl rfl) (by exact ⟨rfl, trivial⟩) (by kernel_rfl) (by kernel_rfl) ?_; try simp only [nA, Nat.reduceBEq, Nat.reduceEqDiff, ↓reduceIte, Nat.reduceAdd, Nat.reduceSub]
 refine adP 8 rfl (fun T' ok => zC rfl rfl) (by exact ⟨rfl, trivial⟩) (by kernel_rfl) (by kernel_rfl) ?_
 refine adP 9 rfl (fun T' ok => zZ rfl rfl rfl) (by exact ⟨rfl, trivial⟩) (by kernel_rfl) (by kernel_rfl) ?_
 refine adP 10 rfl (fun T' ok => zZ rfl rfl rfl) (by exact ⟨rfl, trivial⟩) (by kernel_rfl) (by kernel_rfl) ?_
 refine adP 11 rfl (fun T' ok => zZ rfl rfl rfl) (by exact ⟨rfl, trivial⟩) (by kernel_rfl) (by kernel_rfl) ?_
 refine adP 12 rfl (fun T' ok => zD rfl rfl) (by exact ⟨rfl, trivial⟩) (by kernel_rfl) (by kernel_rfl) ?_
 refine adP 13 rfl (fun T' ok => zD rfl rfl) (by exact ⟨rfl, trivial⟩) (by kernel_rfl) (by kernel_rfl) ?_
 refine adP 14 rfl (fun T' ok => zD rfl rfl) (by exact ⟨rfl, trivial⟩) (by kernel_rfl) (by kernel_rfl) ?_
 refine adDone (by kernel_rfl) ?_
 refine hK _ ?_; clear hK K; simp only [nA, ↓reduceIte]
 refine zA fun K hK => ?_
 refine AW.ad [(0, 1, .own 25 [(flightN 0).av])] mix rfl ?_
 (refine adR 1 rfl (fun T' ok => zI rfl rfl (by exact ok.1) rfl ag25 sz25 (bl rfl) rfl) (by exact ⟨rfl, trivial⟩) (by kernel_rfl) (by kernel_rfl) ?_)
 refine adF 0 rfl (fun T' ok => op_callS rfl en34 (C34) (RL.nil) rfl rfl rfl) (by exact ⟨rfl, trivial⟩) (by kernel_rfl) (by kernel_rfl) ?_; simp only [nA, Nat.reduceBEq, Nat.reduceEqDiff, ↓reduceIte]
 refine adF 2 rfl (fun T' ok => op_callS rfl en30 (C30 (i := 1)) (RL.cons (by exact View.same rfl) (RL.nil)) rfl rfl rfl) (by exact ⟨rfl, trivial⟩) (by kernel_rfl) (by kernel_rfl) ?_; try simp only [nA, Nat.reduceBEq, Nat.reduceEqDiff, ↓reduceIte, Nat.reduceAdd, Nat.reduceSub]
 refine adP 3 rfl (fun T' ok => op_build2 (xs := [_, _, _, _, .v (.int .i64 0)]) rfl pl35 ze35 [(0, [_, _, _]), (1, [_])] rfl rfl rfl) (by exact ⟨rfl, trivial⟩) (by kernel_rfl) (by kernel_rfl) ?_
 refine adF 4 rfl (fun T' ok => op_callS rfl en21 awC15 (RL.cons (by exact View.same rfl) (RL.cons (by exact View.same rfl) (RL.cons (by exact View.same rfl) (RL.nil)))) rfl rfl rfl) (by exact ⟨rfl, trivial⟩) (by kernel_rfl) (by kernel_rfl) ?_; try simp only [nA, Nat.reduceBEq, Nat.reduceEqDiff, ↓reduceIte, Nat.reduceAdd, Nat.reduceSub]
 refine adP 5 rfl (fun T' ok => zC rfl rfl) (by exact ⟨rfl, trivial⟩) (by kernel_rfl) (by kernel_rfl) ?_
 refine adP 6 rfl (fun T' ok => zZ rfl rfl rfl) (by exact ⟨rfl, trivial⟩) (by kernel_rfl) (by kernel_rfl) ?_
 refine adP 7 rfl (fun T' ok => zZ rfl rfl rfl) (by exact ⟨rfl, trivial⟩) (by kernel_rfl) (by kernel_rfl) ?_
 refine adP 8 rfl (fun T' ok => zD rfl rfl) (by exact ⟨rfl, trivial⟩) (by kernel_rfl) (by kernel_rfl) ?_
 refine adP 9 rfl (fun T' ok => zD rfl rfl) (by exact ⟨rfl, trivial⟩) (by kernel_rfl) (by kernel_rfl) ?_
 refine adDone (by kernel_rfl) ?_
 refine hK _ ?_; clear hK K; simp only [nA, ↓reduceIte]
 refine zA fun K hK => zB (AWL.quiet ?_)
 refine zQ (zC rfl rfl) ?_
 refine zQ (op_eql rfl rfl rfl) ?_
 refine zQ (zC rfl rfl) ?_
 refine' yE [_, _, _] [31,32,33] rfl rfl rfl rfl rfl rfl rfl rfl rfl rfl rfl rfl (fun hb => ?_) ?_; rotate_left
 ·
  (try simp only [zY] at hb)
  refine zQ (zC rfl rfl) ?_
  refine zQ (yA rfl rfl Tryz.underlying31 (by exact .inr (.inl ⟨_, rfl, rfl⟩))) ?_
  refine zQ (op_eql rfl rfl rfl) ?_
  (refine yJ rfl rfl rfl ?_; repeat (first | exact fun _ _ => rfl | refine zU rfl ?_))
 simp only [nA, ↓reduceIte]
 refine zQ (zC rfl rfl) ?_
 refine' yE [_, _, _] [36,37,38] rfl rfl rfl rfl rfl rfl rfl rfl rfl rfl rfl rfl (fun hb => ?_) ?_; rotate_left
 ·
  (try simp only [zY] at hb)
  refine zQ (zC rfl rfl) ?_
  refine zQ (yA rfl rfl Tryz.underlying42 (by exact .inr (.inl ⟨_, rfl, rfl⟩))) ?_
  refine zQ (op_eql rfl rfl rfl) ?_
  (refine yJ rfl rfl rfl ?_; repeat (first | exact fun _ _ => rfl | refine zU rfl ?_))
 simp only [nA, Nat.reduceBEq, Nat.reduceEqDiff, ↓reduceIte]
 refine zQ (zC rfl rfl) ?_
 refine' yE [_, _, _, _, _, _] [41,42,43,44,45,46] rfl rfl rfl rfl rfl rfl rfl rfl rfl rfl rfl rfl (fun hb => ?_) ?_; rotate_left
 ·
  (try simp only [zY] at hb)
  refine zQ (zC rfl rfl) ?_
  refine zQ (zX (es := awOut.map Container.av) 0 rfl (.inl rfl) rfl Tryz.underlying42 rfl rfl (by exact yH) (bl rfl)) ?_
  refine zQ (yK rfl rfl fl33_7 (by exact sz31) (by decide) (bl rfl) rfl) ?_
  refine aqR (z6 rfl rfl ag31) ?_
  refine zQ (yA rfl rfl Tryz.underlying31 (by exact .inr (.inl ⟨_, rfl, rfl⟩))) ?_
  refine zQ (op_eql rfl rfl rfl) ?_
  (refine yJ rfl rfl rfl ?_; repeat (first | exact fun _ _ => rfl | refine zU rfl ?_))
 simp only [nA]
 refine zQ (zC rfl rfl) ?_
 refine' yE [_, _, _, _, _, _, _, _] [49,50,51,52,53,54,55,56] rfl rfl rfl rfl rfl rfl rfl rfl rfl rfl rfl rfl (fun hb => ?_) ?_; rotate_left
 ·
  (try simp only [zY] at hb)
  refine zQ (zC rfl rfl) ?_
  refine zQ (zX (es := awOut.map Container.av) 0 rfl (.inl rfl) rfl Tryz.underlying42 rfl rfl (by exact yH) (bl rfl)) ?_
  refine zQ (yK rfl rfl fl33_7 (by exact sz31) (by decide) (bl rfl) rfl) ?_
  refine aqR (z6 rfl rfl ag31) ?_
  refine zQ (zX (es := [awB2.av]) 0 rfl (.inl rfl) rfl Tryz.underlying31 rfl rfl (by exact sz35) (bl rfl)) ?_
  refine zQ (yK rfl rfl fl35_1 (by exact sz3) (by decide) (bl rfl) rfl) ?_
  refine aqR (z6 rfl rfl ag3) ?_
  refine zQ (op_eql rfl rfl rfl) ?_
  (refine yJ rfl rfl rfl ?_; repeat (first | exact fun _ _ => rfl | refine zU rfl ?_))
 simp only [nA]
 refine zQ (zC rfl rfl) ?_
 refine' yE [_, _, _, _] [59,60,61,62] rfl rfl rfl rfl rfl rfl rfl rfl rfl rfl rfl rfl (fun hb => ?_) ?_; rotate_left
 ·
  (try simp only [zY] at hb)
  refine zQ (zC rfl rfl) ?_
  refine aqR (zI rfl rfl rfl rfl ag25 sz25 (bl rfl) rfl) ?_
  refine aqQ (zT (b := true) rfl en19 awC29 (RL.cons (by exact View.same rfl) (RL.cons (by exact View.same rfl) (RL.nil))) rfl) ?_; simp only [nA, Nat.reduceEqDiff, ↓reduceIte]
  refine zQ (op_eql rfl rfl rfl) ?_
  (refine yJ rfl rfl rfl ?_; repeat (first | exact fun _ _ => rfl | refine zU rfl ?_))
 simp only [nA]
 refine zQ (zC rfl rfl) ?_
 refine' yE [_, _] [65,66] rfl rfl rfl rfl rfl rfl rfl rfl rfl rfl rfl rfl (fun hb => ?_) ?_; rotate_left
 ·
  (try simp only [zY] at hb)
  refine zQ (zC rfl rfl) ?_
  refine zQ (op_eql rfl rfl rfl) ?_
  (refine yJ rfl rfl rfl ?_; repeat (first | exact fun _ _ => rfl | refine zU rfl ?_))
 simp only [nA]
 refine zQ (zC rfl rfl) ?_
 refine' yE [_, _] [69,70] rfl rfl rfl rfl rfl rfl rfl rfl rfl rfl rfl rfl (fun hb => ?_) ?_; rotate_left
 ·
  (try simp only [zY] at hb)
  refine zQ (zC rfl rfl) ?_
  refine zQ (op_eql rfl rfl rfl) ?_
  (refine yJ rfl rfl rfl ?_; repeat (first | exact fun _ _ => rfl | refine zU rfl ?_))
 simp only [nA]
 refine zQ (zC rfl rfl) ?_
 refine' yE [_, _, _] [73,74,75] rfl rfl rfl rfl rfl rfl rfl rfl rfl rfl rfl rfl (fun hb => ?_) ?_; rotate_left
 ·
  (try simp only [zY] at hb)
  refine zQ (op_build2 (xs := [.v (.int .i64 0), .v (.int .i64 0), .v (.int .i64 0), .v (.string ⟨#[]⟩), .v (.int .i64 0), .v (.string ⟨#[]⟩), .v (.int .i64 0), .v (.string ⟨#[]⟩), .v (.string ⟨#[]⟩), .v (.string ⟨#[]⟩), .v (.int .i64 0), .v (.string ⟨#[]⟩), .v (.int .i64 0), .v (.string ⟨#[]⟩), .v (.string ⟨#[]⟩), .v (.slice none 0 0), .v (.int .i64 0), .v (.int .i64 0), .v (.int .i64 0), .v (.bool false), .v (.string ⟨#[]⟩), .v (.string ⟨#[]⟩), _, .v (.string ⟨#[]⟩), .v (.bool false)]) rfl pl30 ze30 [(10, [_])] rfl rfl rfl) ?_
  refine aqQ (zT (b := true) rfl en8 (C8) (RL.cons (by exact View.same rfl) (RL.nil)) rfl) ?_; simp only [nA]
  refine zQ (op_eql rfl rfl rfl) ?_
  (refine yJ rfl rfl rfl ?_; repeat (first | exact fun _ _ => rfl | refine zU rfl ?_))
 simp only [nA]
 refine zQ (zD rfl rfl) ?_
 refine yM (hK _ ?_); clear hK K; simp only [nA]
 skip
 refine zO ?_; (try simp only [zJ, zK, Nat.reduceEqDiff, ↓reduceIte]); exact zS rfl (.tmp (bl rfl) rfl rfl .nil)
set_option maxRecDepth 100000
theorem pos_first {l : List Piece} {p : Plate} {k : Nat} (hk : k ≤ l.length) (h1 : ∀ j, j < k → cmpP (l.getD j default).plate p < 0) (h2 : ¬ (k < l.length ∧ cmpP (l.getD k default).plate p < 0)) : posP l p = k := by
 unfold posP
 have e : l.takeWhile (fun x => decide (cmpP x.plate p < 0)) = l.take k := by
   conv => lhs; rw [← List.take_append_drop k l]
   rw [List.takeWhile_append_of_pos]
   · have : (l.drop k).takeWhile (fun x => decide (cmpP x.plate p < 0)) = [] := by
       rcases Nat.lt_or_ge k l.length with h | h
       · rw [List.drop_eq_getElem_cons h, List.takeWhile_cons_of_neg]
         have e : l.getD k default = l[k] := by rw [List.getD_eq_getElem?_getD, List.getElem?_eq_getElem h]; rfl
         rw [e] at h2
         simpa using fun hlt => h2 ⟨h, hlt⟩
       rw [List.drop_eq_nil_of_le h]; rfl
     rw [this, List.append_nil]
   intro x hx
   obtain ⟨i, hi, rfl⟩ := List.getElem_of_mem hx
   simp at hi
   have := h1 i (by omega)
   rw [List.getD_eq_getElem?_getD, List.getElem?_eq_getElem (by omega)] at this
   simpa using this
 rw [e]; simp; omega
theorem C59 {c : Container} {p : Piece} (hcl : c.pieces.length ≤ 1000) : Fn Tryz.prog 59 [] [.agg c.av, .agg p.av] [.agg (insC c p).av] [] := by
 refine Spec.body Tryz.func59 rfl Tryz.ntmps59 (by simp) rfl ?_; intro S0 own0 v0 w0
 refine zA fun K hK => zB ?_
 refine yB (yL rfl rfl rfl yH rfl) ?_; simp only [nA, Nat.reduceBEq, Nat.reduceEqDiff, ↓reduceIte]
 refine yB (yL rfl rfl rfl sz35 rfl) ?_; simp only [nA, Nat.reduceBEq, Nat.reduceEqDiff, ↓reduceIte]
 refine yB (op_alloc rfl ze33 rfl) ?_; simp only [nA, Nat.reduceBEq, Nat.reduceEqDiff, ↓reduceIte]
 refine zE (hK _ ?_); clear hK K; try simp only [nA, Nat.reduceBEq, Nat.reduceEqDiff, ↓reduceIte, Nat.reduceAdd, Nat.reduceSub]
 refine zA fun K hK => zB ?_
 refine zF (zD rfl rfl) ?_; try simp only [nA, Nat.reduceBEq, Nat.reduceEqDiff, ↓reduceIte, Nat.reduceAdd, Nat.reduceSub]
 refine zE (hK _ ?_); clear hK K
 refine zA fun K hK => zP ?_
 refine yG (fun (k : Nat) => [(2, .ptr 0 1 0 0), (3, .ptr 1 2 0 0), (4, .ptr 2 3 0 0), (5, .v (.int .i64 (k : Nat)))]) (fun _ => ⟨[(1, .own 33 [c.av]), (2, .own 35 [p.av]), (3, .own 33 [[AV.v (.int .i64 0), .v (.string ⟨#[]⟩), .v (.int .i64 0), .v (.string ⟨#[]⟩), .v (.int .i64 0), .v (.int .i64 0), .v (.int .i64 0), .v (.int .i64 0), .v (.int .i64 0), .v (.int .i64 0), .v (.slice none 0 0)]])], 4⟩) (fun k => k ≤ c.pieces.length ∧ ∀ j, j < k → cmpP (c.pieces.getD j default).plate p.plate < 0) (fun k => c.pieces.length - k) 0 (by simp) ⟨rfl, rfl, rfl, rfl, trivial⟩ rfl ?_; intro k ρ hi; simp only [updL]
 refine zA fun K hK => ?_
 refine zA fun K hK => ?_
 refine AW.quiet mix (by kernel_rfl) ?_
 refine zQ (zC rfl rfl) ?_; simp only [nA, ↓reduceIte]
 (refine zQ (zH rfl rfl rfl fl33_7 (by exact sz31) (by decide) rfl) ?_); try simp only [nA, Nat.reduceBEq, Nat.reduceEqDiff, ↓reduceIte, Nat.reduceAdd, Nat.reduceSub]
 (refine aqR (zG rfl rfl rfl rfl ag31 rfl rfl) ?_); try simp only [nA, Nat.reduceBEq, Nat.reduceEqDiff, ↓reduceIte, Nat.reduceAdd, Nat.reduceSub]
 (refine zQ (yA rfl rfl Tryz.underlying31 (by exact .inr (.inl ⟨_, rfl, rfl⟩))) ?_); try simp only [nA, Nat.reduceBEq, Nat.reduceEqDiff, ↓reduceIte, Nat.reduceAdd, Nat.reduceSub]
 refine zQ (op_lss rfl rfl rfl) ?_; try simp only [nA, Nat.reduceBEq, Nat.reduceEqDiff, ↓reduceIte, Nat.reduceAdd, Nat.reduceSub]
 refine zQ (zC rfl rfl) ?_; simp only [nA]
 refine' yE [_, _, _, _, _, _, _, _, _, _] [13,14,15,16,17,18,19,20,21,22] rfl rfl rfl rfl rfl rfl rfl rfl rfl rfl rfl rfl (fun hb => ?_) ?_; rotate_left
 ·
  (try simp only [zY] at hb)
  (refine zQ (zH rfl rfl rfl fl33_7 (by exact sz31) (by decide) rfl) ?_); try simp only [nA, Nat.reduceBEq, Nat.reduceEqDiff, ↓reduceIte, Nat.reduceAdd, Nat.reduceSub]
  (refine aqR (zG rfl rfl rfl rfl ag31 rfl rfl) ?_); try simp only [nA, Nat.reduceBEq, Nat.reduceEqDiff, ↓reduceIte, Nat.reduceAdd, Nat.reduceSub]
  refine zQ (zC rfl rfl) ?_; simp only [nA, ↓reduceIte]
  (refine zQ (zX k rfl (.inl rfl) rfl Tryz.underlying31 rfl (yO (by omega)) (by exact sz35) (bl rfl)) ?_); try simp only [nA, Nat.reduceBEq, Nat.reduceEqDiff, ↓reduceIte, Nat.reduceAdd, Nat.reduceSub]
  (refine zQ (yK rfl rfl fl35_0 (by exact sz23) (by decide) (bl rfl) rfl) ?_); try simp only [nA, Nat.reduceBEq, Nat.reduceEqDiff, ↓reduceIte, Nat.reduceAdd, Nat.reduceSub]
  (refine aqR (yF rfl rfl ag23 sz23 (bl rfl) (by decide) rfl) ?_); try simp only [nA, Nat.reduceBEq, Nat.reduceEqDiff, ↓reduceIte, Nat.reduceAdd, Nat.reduceSub]
  (refine zQ (zH rfl rfl rfl fl35_0 (by exact sz23) (by decide) rfl) ?_); try simp only [nA, Nat.reduceBEq, Nat.reduceEqDiff, ↓reduceIte, Nat.reduceAdd, Nat.reduceSub]
  (refine aqR (zI rfl rfl rfl rfl ag23 sz23 (bl rfl) rfl) ?_); try simp only [nA, Nat.reduceBEq, Nat.reduceEqDiff, ↓reduceIte, Nat.reduceAdd, Nat.reduceSub]
  refine aqQ (zT (b := true) rfl en82 (C82 (p := (c.pieces.getD k default).plate) (q := p.plate)) (RL.cons (by exact View.same rfl) (RL.cons (by exact View.same rfl) (RL.nil))) rfl) ?_; try simp only [nA, Nat.reduceBEq, Nat.reduceEqDiff, ↓reduceIte, Nat.reduceAdd, Nat.reduceSub]
  refine zQ (op_lss rfl rfl rfl) ?_; try simp only [nA, Nat.reduceBEq, Nat.reduceEqDiff, ↓reduceIte, Nat.reduceAdd, Nat.reduceSub]
  (refine yJ rfl rfl rfl ?_; repeat (first | exact fun _ _ => rfl | refine zU rfl ?_))
 refine yM (hK _ ?_); clear hK K
 refine zL rfl rfl rfl (fun hc => ?_) (fun hc => ?_)
 ·
  (try simp only [zY] at hc); have hc1 := hc
  refine zN ?_
  refine hK _ ?_; clear hK K
  refine zP ?_
  refine zB ?_
  refine zF (zC rfl rfl) ?_; simp only [nA, Nat.reduceEqDiff, ↓reduceIte]
  (refine zF (zR rfl rfl rfl (by omega)) ?_); try simp only [nA, Nat.reduceBEq, Nat.reduceEqDiff, ↓reduceIte, Nat.reduceAdd, Nat.reduceSub]
  refine zF (zD rfl rfl) ?_; simp only [nA]
  refine zE ?_
  (try simp only [zJ, zK, Nat.reduceEqDiff, ↓reduceIte])
  refine ⟨k + 1, ⟨by omega, fun j hj => by rcases Nat.lt_or_ge j k with h | h; exact hi.2 j h; (obtain rfl : j = k := by omega); exact hc1.2⟩, by omega, ⟨rfl, rfl, rfl, rfl, trivial⟩, (by trivial), (by trivial)⟩
 (try simp only [zY] at hc); have hc1 := hc; have hk := pos_first hi.1 hi.2 (fun h => by have h1 : (k : Int) < (c.pieces.length : Int) := (by omega); have h2 := h.2; rcases hc1 with h3 | h3 <;> omega); have hins : insC c p = setP c (c.pieces.take k ++ p :: c.pieces.drop k) := (by unfold insC; rw [hk])
 refine yI ?_; try simp only [zJ, zK, Nat.reduceEqDiff, ↓reduceIte]
 clear hK K
 refine hK _ ?_; clear hK K
 refine zA fun K hK => zB ?_
 refine yB (zV rfl [] [] Tryz.underlying31 ze35 rfl (by simp) rfl (by simp) rfl (bl rfl) (by simp [maxLen])) ?_; simp only [nA, Nat.reduceBEq, Nat.reduceEqDiff, ↓reduceIte]
 (refine zF (zH rfl rfl rfl fl33_7 (by exact sz31) (by decide) rfl) ?_); try simp only [nA, Nat.reduceBEq, Nat.reduceEqDiff, ↓reduceIte, Nat.reduceAdd, Nat.reduceSub]
 (refine awR (zG rfl rfl rfl rfl ag31 rfl rfl) ?_); try simp only [nA, Nat.reduceBEq, Nat.reduceEqDiff, ↓reduceIte, Nat.reduceAdd, Nat.reduceSub]
 refine zF (zC rfl rfl) ?_; simp only [nA, Nat.reduceEqDiff, ↓reduceIte]
 refine zF (op_slice_ro 0 k rfl (.inl rfl) (by exact rfl) (by exact ⟨_, rfl⟩) (Nat.zero_le _) (by simp; omega) Tryz.underlying31 sz35 (av_len c.pieces) (es' := (c.pieces.take k).map Piece.av) (by simp [List.map_take])) ?_; try simp only [nA, Nat.reduceBEq, Nat.reduceEqDiff, ↓reduceIte, Nat.reduceAdd, Nat.reduceSub]
 refine yB (op_app rfl rfl rfl rfl rfl .ro Tryz.underlying31 ze35 (by decide) (av_len _) (by simp; omega) (by decide) (List.nil_append _) rfl) ?_; simp only [nA, Nat.reduceBEq, Nat.reduceEqDiff, ↓reduceIte]
 refine zF (zD rfl rfl) ?_; simp only [nA]
 refine zE (hK _ ?_); clear hK K
 refine zA fun K hK => ?_
 refine AW.ado (fun T' => T'.slots[0]? = some (1, .own 33 [c.av]) ∧ T'.slots[1]? = some (2, .own 35 [p.av])) mix rfl ?_
 refine adPo 0 rfl (fun T' ok => zC rfl rfl) ⟨rfl, rfl⟩ (by kernel_rfl) (by kernel_rfl) ?_; simp only [nA, Nat.reduceBEq, Nat.reduceEqDiff, ↓reduceIte]
 refine adRo 1 rfl (fun T' ok => zI rfl rfl ok.2 rfl ag35 sz35 (bl rfl) rfl) ⟨rfl, rfl⟩ (by kernel_rfl) (by kernel_rfl) ?_; try simp only [nA, Nat.reduceBEq, Nat.reduceEqDiff, ↓reduceIte, Nat.reduceAdd, Nat.reduceSub]
 refine adPo 4 rfl (fun T' ok => zH rfl rfl ok.1 fl33_7 (by exact sz31) (by decide) rfl) ⟨rfl, rfl⟩ (by kernel_rfl) (by kernel_rfl) ?_; try simp only [nA, Nat.reduceBEq, Nat.reduceEqDiff, ↓reduceIte, Nat.reduceAdd, Nat.reduceSub]
 refine adRo 5 rfl (fun T' ok => zG rfl rfl ok.1 rfl ag31 rfl rfl) ⟨rfl, rfl⟩ (by kernel_rfl) (by kernel_rfl) ?_; try simp only [nA, Nat.reduceBEq, Nat.reduceEqDiff, ↓reduceIte, Nat.reduceAdd, Nat.reduceSub]
 refine adPo 6 rfl (fun T' ok => zC rfl rfl) ⟨rfl, rfl⟩ (by kernel_rfl) (by kernel_rfl) ?_; simp only [nA, Nat.reduceEqDiff, ↓reduceIte]
 refine adPo 7 rfl (fun T' ok => op_slice_ro k c.pieces.length rfl (.inl rfl) (by exact ⟨_, rfl⟩) (by simp [bndIs]) hi.1 (by simp) Tryz.underlying31 sz35 (av_len c.pieces) (es' := (c.pieces.drop k).map Piece.av) (by rw [List.map_drop, List.take_of_length_le (by simp)])) ⟨rfl, rfl⟩ (by kernel_rfl) (by kernel_rfl) ?_; try simp only [nA, Nat.reduceBEq, Nat.reduceEqDiff, ↓reduceIte, Nat.reduceAdd, Nat.reduceSub]
 refine adJo 2 rfl (zV rfl [(0, p.av)] [p.av] Tryz.underlying31 ze35 rfl (by simp) rfl (by simp) rfl (bl rfl) (by simp [maxLen])) (by kernel_rfl) ⟨rfl, rfl⟩ ?_; simp only [nA, Nat.reduceBEq, Nat.reduceEqDiff, ↓reduceIte]
 refine adJo 3 rfl (op_app (rows := [p.av]) rfl rfl rfl rfl (by simp) (.sl (es := [p.av]) rfl rfl) Tryz.underlying31 ze35 (by decide) (by simp) (by simp; omega) (by decide) (es' := (c.pieces.take k ++ [p]).map Piece.av) (by simp [ldc_v]) (n := (c.pieces.take k ++ [p]).length) (by simp)) (by kernel_rfl) ⟨rfl, rfl⟩ ?_; simp only [nA, Nat.reduceBEq, Nat.reduceEqDiff, ↓reduceIte]
 refine adJo 8 rfl (op_app (rows := (c.pieces.drop k).map Piece.av) rfl rfl rfl rfl (by simp) .ro Tryz.underlying31 ze35 (by decide) (av_len _) (by simp; omega) (by decide) (es' := (c.pieces.take k ++ p :: c.pieces.drop k).map Piece.av) (by simp) (n := (c.pieces.take k ++ p :: c.pieces.drop k).length) (by simp; omega)) (by kernel_rfl) ⟨rfl, rfl⟩ ?_; simp only [nA, Nat.reduceBEq, Nat.reduceEqDiff, ↓reduceIte]
 refine adPo 9 rfl (fun T' ok => zH rfl rfl ok.1 fl33_7 (by exact sz31) (by decide) rfl) ⟨rfl, rfl⟩ (by kernel_rfl) (by kernel_rfl) ?_; try simp only [nA, Nat.reduceBEq, Nat.reduceEqDiff, ↓reduceIte, Nat.reduceAdd, Nat.reduceSub]
 refine adLo 10 rfl (op_store_nest rfl rfl rfl rfl (row := c.av) rfl sz31 rfl (by decide) (by simp) (by simp) (es2 := [oav (setP c (c.pieces.take k ++ p :: c.pieces.drop k))]) rfl) (by kernel_rfl) (by kernel_rfl) ?_; try simp only [nA, Nat.reduceBEq, Nat.reduceEqDiff, ↓reduceIte, Nat.reduceAdd, Nat.reduceSub]
 refine adDoneo (by kernel_rfl) ?_
 refine hK _ ?_; clear hK K
 refine zA fun K hK => zB ?_
 refine AWL.gh (Gh.freezeC (r := 0) (es := [oav (setP c (c.pieces.take k ++ p :: c.pieces.drop k))]) (row := oav (setP c (c.pieces.take k ++ p :: c.pieces.drop k))) 0 10 rfl rfl rfl (av_flat (c.pieces.take k ++ p :: c.pieces.drop k)) (es2 := [(setP c (c.pieces.take k ++ p :: c.pieces.drop k)).av]) rfl) ?_; (try simp only [nA, Nat.reduceBEq, Nat.reduceEqDiff, ↓reduceIte, Nat.reduceAdd, Nat.reduceSub]); (refine awR (zI rfl rfl rfl rfl ag33 yH (bl rfl) rfl) ?_); try simp only [nA, Nat.reduceBEq, Nat.reduceEqDiff, ↓reduceIte, Nat.reduceAdd, Nat.reduceSub]
 refine yB (z8 rfl rfl rfl rfl rfl rfl yH rfl (bl rfl) rfl) ?_; try simp only [nA, Nat.reduceBEq, Nat.reduceEqDiff, ↓reduceIte, Nat.reduceAdd, Nat.reduceSub]
 refine zE (hK _ ?_); clear hK K
 skip
 refine zO ?_; (try simp only [zJ, zK, Nat.reduceEqDiff, ↓reduceIte]); rw [hins]; exact zS rfl (.cell (bl rfl) rfl rfl rfl ag33 yH (bl rfl) rfl rfl .nil)
theorem C33 {c : Container} {p : Piece} : Fn Tryz.prog 33 [] [.agg c.av, .agg p.av] [.agg (putC c p true).1.av, .v (.int .i64 (putC c p true).2)] [] := by
 refine Spec.body Tryz.func33 rfl Tryz.ntmps33 (by simp) rfl ?_; intro S0 own0 v0 w0
 refine zA fun K hK => zB ?_
 refine yB (yL rfl rfl rfl yH rfl) ?_; simp only [nA, Nat.reduceBEq, Nat.reduceEqDiff, ↓reduceIte]
 refine yB (yL rfl rfl rfl sz35 rfl) ?_; simp only [nA, Nat.reduceBEq, Nat.reduceEqDiff, ↓reduceIte]
 refine yB (op_alloc rfl ze33 rfl) ?_; simp only [nA, Nat.reduceBEq, Nat.reduceEqDiff, ↓reduceIte]
 refine zF (zD rfl rfl) ?_; try simp only [nA, Nat.reduceBEq, Nat.reduceEqDiff, ↓reduceIte, Nat.reduceAdd, Nat.reduceSub]
 refine zE (hK _ ?_); clear hK K; try simp only [nA, Nat.reduceBEq, Nat.reduceEqDiff, ↓reduceIte, Nat.reduceAdd, Nat.reduceSub]
 refine zA fun K hK => ?_
 refine zA fun K hK => zB ?_
 (refine awR (zI rfl rfl rfl rfl ag33 yH (bl rfl) rfl) ?_); try simp only [nA, Nat.reduceBEq, Nat.reduceEqDiff, ↓reduceIte, Nat.reduceAdd, Nat.reduceSub]
 refine yB (OpQ.j (zT (b := true) rfl en55 (C55 (c := c)) (RL.cons (by exact View.same rfl) (RL.nil)) rfl)) ?_; try simp only [nA, Nat.reduceBEq, Nat.reduceEqDiff, ↓reduceIte, Nat.reduceAdd, Nat.reduceSub]
 refine zF (zD rfl rfl) ?_; simp only [nA]
 refine zE (hK _ ?_); clear hK K
 refine zA fun K hK => zB ?_
 refine zF (zC rfl rfl) ?_; simp only [nA]
 (refine zF (op_neq rfl rfl rfl) ?_); try simp only [nA, Nat.reduceBEq, Nat.reduceEqDiff, ↓reduceIte, Nat.reduceAdd, Nat.reduceSub]
 refine zE (hK _ ?_); clear hK K
 refine zL rfl rfl rfl (fun hc => ?_) (fun hc => ?_)
 ·
  (try simp only [zY] at hc); have hc1 := hc
  refine zA fun K hK => zB ?_
  refine zF (op_build2 (xs := [.v (.int .i64 0), .v (.string ⟨#[]⟩), .v (.int .i64 0), .v (.string ⟨#[]⟩), .v (.int .i64 0), .v (.int .i64 0), .v (.int .i64 0), .v (.int .i64 0), .v (.int .i64 0), .v (.int .i64 0), .v (.slice none 0 0)]) rfl pl33 ze33 [] rfl rfl rfl) ?_; try simp only [nA, Nat.reduceBEq, Nat.reduceEqDiff, ↓reduceIte, Nat.reduceAdd, Nat.reduceSub]
  refine zF (zC rfl rfl) ?_; simp only [nA, ↓reduceIte]
  refine yB (z8 rfl rfl rfl rfl rfl rfl yH rfl (bl rfl) rfl) ?_; simp only [nA, Nat.reduceBEq, Nat.reduceEqDiff, ↓reduceIte]
  refine zF (zD rfl rfl) ?_; simp only [nA]
  refine zE (hK _ ?_); clear hK K
  refine AW.gh (Gh.slot (r := 2) (es' := [zeroC.av]) rfl rfl zero_le) ?_; try simp only [nA, Nat.reduceBEq, Nat.reduceEqDiff, ↓reduceIte, Nat.reduceAdd, Nat.reduceSub]
  refine zO ?_; (try simp only [zJ, zK, Nat.reduceEqDiff, ↓reduceIte]); have he : putC c p true = (zeroC, valC c) := (by unfold putC; rw [if_pos (by simpa using hc)]); rw [he]; exact zS rfl (.cell (bl rfl) rfl rfl rfl ag33 yH (bl rfl) rfl rfl (.tmp (bl rfl) rfl rfl .nil))
 (try simp only [zY] at hc); have hc1 := hc; have hv := val_inv (c := c) (by simpa using hc1); have hv0 : valC c = 0 := (by simpa using hc1); have hfh := found_has (p := p.plate) (val_asc hv0); have hvw := val_w hv0; have hsb := sum_bd _ hvw
 refine zN ?_
 refine hK _ ?_; clear hK K
 refine zA fun K hK => ?_
 refine zA fun K hK => zB ?_
 (refine awR (zI rfl rfl rfl rfl ag35 sz35 (bl rfl) rfl) ?_); try simp only [nA, Nat.reduceBEq, Nat.reduceEqDiff, ↓reduceIte, Nat.reduceAdd, Nat.reduceSub]
 refine yB (OpQ.j (zT (b := true) rfl en44 (C44 (p := p)) (RL.cons (by exact View.same rfl) (RL.nil)) rfl)) ?_; try simp only [nA, Nat.reduceBEq, Nat.reduceEqDiff, ↓reduceIte, Nat.reduceAdd, Nat.reduceSub]
 refine zF (op_not rfl rfl rfl) ?_; try simp only [nA, Nat.reduceBEq, Nat.reduceEqDiff, ↓reduceIte, Nat.reduceAdd, Nat.reduceSub]
 refine zE (hK _ ?_); clear hK K
 refine zL rfl rfl rfl (fun hc => ?_) (fun hc => ?_)
 ·
  (try simp only [zY] at hc); have hc2 := hc
  refine zA fun K hK => zB ?_
  refine zF (op_build2 (xs := [.v (.int .i64 0), .v (.string ⟨#[]⟩), .v (.int .i64 0), .v (.string ⟨#[]⟩), .v (.int .i64 0), .v (.int .i64 0), .v (.int .i64 0), .v (.int .i64 0), .v (.int .i64 0), .v (.int .i64 0), .v (.slice none 0 0)]) rfl pl33 ze33 [] rfl rfl rfl) ?_; try simp only [nA, Nat.reduceBEq, Nat.reduceEqDiff, ↓reduceIte, Nat.reduceAdd, Nat.reduceSub]
  refine yB (z8 rfl rfl rfl rfl rfl rfl yH rfl (bl rfl) rfl) ?_; simp only [nA, Nat.reduceBEq, Nat.reduceEqDiff, ↓reduceIte]
  refine zF (zD rfl rfl) ?_; try simp only [nA, Nat.reduceBEq, Nat.reduceEqDiff, ↓reduceIte, Nat.reduceAdd, Nat.reduceSub]
  refine zE (hK _ ?_); clear hK K
  refine AW.gh (Gh.slot (r := 2) (es' := [zeroC.av]) rfl rfl zero_le) ?_; try simp only [nA, Nat.reduceBEq, Nat.reduceEqDiff, ↓reduceIte, Nat.reduceAdd, Nat.reduceSub]
  refine zO ?_; (try simp only [zJ, zK, Nat.reduceEqDiff, ↓reduceIte]); have he : putC c p true = (zeroC, 1) := (by unfold putC; rw [if_neg (by simp [hv0]), if_pos (by simpa using hc)]); rw [he]; exact zS rfl (.cell (bl rfl) rfl rfl rfl ag33 yH (bl rfl) rfl rfl (.tmp (bl rfl) rfl rfl .nil))
 (try simp only [zY] at hc); have hc2 := hc; have hp1 : piB p = true := (by simpa using hc2); have hpi := piB_inv hp1
 refine zN ?_
 refine hK _ ?_; clear hK K
 refine zA fun K hK => ?_
 refine zA fun K hK => zB ?_
 (refine awR (zI rfl rfl rfl rfl ag33 yH (bl rfl) rfl) ?_); try simp only [nA, Nat.reduceBEq, Nat.reduceEqDiff, ↓reduceIte, Nat.reduceAdd, Nat.reduceSub]
 (refine zF (zH rfl rfl rfl fl35_0 (by exact sz23) (by decide) rfl) ?_); try simp only [nA, Nat.reduceBEq, Nat.reduceEqDiff, ↓reduceIte, Nat.reduceAdd, Nat.reduceSub]
 (refine awR (zI rfl rfl rfl rfl ag23 sz23 (bl rfl) rfl) ?_); try simp only [nA, Nat.reduceBEq, Nat.reduceEqDiff, ↓reduceIte, Nat.reduceAdd, Nat.reduceSub]
 refine yB (OpQ.j (zT (b := true) rfl en56 (C56 (c := c) (p := p.plate) (by omega)) (RL.cons (by exact View.same rfl) (RL.cons (by exact View.same rfl) (RL.nil))) rfl)) ?_; try simp only [nA, Nat.reduceBEq, Nat.reduceEqDiff, ↓reduceIte, Nat.reduceAdd, Nat.reduceSub]
 refine zE (hK _ ?_); clear hK K
 refine zL rfl rfl rfl (fun hc => ?_) (fun hc => ?_)
 ·
  (try simp only [zY] at hc); have hc3 := hc
  refine zA fun K hK => zB ?_
  refine zF (op_build2 (xs := [.v (.int .i64 0), .v (.string ⟨#[]⟩), .v (.int .i64 0), .v (.string ⟨#[]⟩), .v (.int .i64 0), .v (.int .i64 0), .v (.int .i64 0), .v (.int .i64 0), .v (.int .i64 0), .v (.int .i64 0), .v (.slice none 0 0)]) rfl pl33 ze33 [] rfl rfl rfl) ?_; try simp only [nA, Nat.reduceBEq, Nat.reduceEqDiff, ↓reduceIte, Nat.reduceAdd, Nat.reduceSub]
  refine yB (z8 rfl rfl rfl rfl rfl rfl yH rfl (bl rfl) rfl) ?_; simp only [nA, Nat.reduceBEq, Nat.reduceEqDiff, ↓reduceIte]
  refine zF (zD rfl rfl) ?_; try simp only [nA, Nat.reduceBEq, Nat.reduceEqDiff, ↓reduceIte, Nat.reduceAdd, Nat.reduceSub]
  refine zE (hK _ ?_); clear hK K
  refine AW.gh (Gh.slot (r := 2) (es' := [zeroC.av]) rfl rfl zero_le) ?_; try simp only [nA, Nat.reduceBEq, Nat.reduceEqDiff, ↓reduceIte, Nat.reduceAdd, Nat.reduceSub]
  refine zO ?_; (try simp only [zJ, zK, Nat.reduceEqDiff, ↓reduceIte]); have he : putC c p true = (zeroC, 5) := (by rw [put_eq hv0 hp1, hfh, if_pos (by simpa using hc)]); rw [he]; exact zS rfl (.cell (bl rfl) rfl rfl rfl ag33 yH (bl rfl) rfl rfl (.tmp (bl rfl) rfl rfl .nil))
 (try simp only [zY] at hc); have hc3 := hc
 refine zN ?_
 refine hK _ ?_; clear hK K
 refine zA fun K hK => ?_
 refine zA fun K hK => zB ?_
 (refine awR (zI rfl rfl rfl rfl ag33 yH (bl rfl) rfl) ?_); try simp only [nA, Nat.reduceBEq, Nat.reduceEqDiff, ↓reduceIte, Nat.reduceAdd, Nat.reduceSub]
 (refine zF (zH rfl rfl rfl fl35_2 (by exact sz3) (by decide) rfl) ?_); try simp only [nA, Nat.reduceBEq, Nat.reduceEqDiff, ↓reduceIte, Nat.reduceAdd, Nat.reduceSub]
 (refine awR (zG rfl rfl rfl rfl ag3 rfl rfl) ?_); try simp only [nA, Nat.reduceBEq, Nat.reduceEqDiff, ↓reduceIte, Nat.reduceAdd, Nat.reduceSub]
 refine yB (OpQ.j (zT (b := true) rfl en57 (C57 (c := c) (cat := p.category)) (RL.cons (by exact View.same rfl) (RL.cons (by exact View.same rfl) (RL.nil))) rfl)) ?_; try simp only [nA, Nat.reduceBEq, Nat.reduceEqDiff, ↓reduceIte, Nat.reduceAdd, Nat.reduceSub]
 refine zF (op_not rfl rfl rfl) ?_; try simp only [nA, Nat.reduceBEq, Nat.reduceEqDiff, ↓reduceIte, Nat.reduceAdd, Nat.reduceSub]
 refine zE (hK _ ?_); clear hK K
 refine zL rfl rfl rfl (fun hc => ?_) (fun hc => ?_)
 ·
  (try simp only [zY] at hc); have hc4 := hc; have hb4 : bitB c.categories p.category = false := (by rcases hc4 with (h | h) | h; omega; omega; exact h)
  refine zA fun K hK => zB ?_
  refine zF (op_build2 (xs := [.v (.int .i64 0), .v (.string ⟨#[]⟩), .v (.int .i64 0), .v (.string ⟨#[]⟩), .v (.int .i64 0), .v (.int .i64 0), .v (.int .i64 0), .v (.int .i64 0), .v (.int .i64 0), .v (.int .i64 0), .v (.slice none 0 0)]) rfl pl33 ze33 [] rfl rfl rfl) ?_; try simp only [nA, Nat.reduceBEq, Nat.reduceEqDiff, ↓reduceIte, Nat.reduceAdd, Nat.reduceSub]
  refine yB (z8 rfl rfl rfl rfl rfl rfl yH rfl (bl rfl) rfl) ?_; simp only [nA, Nat.reduceBEq, Nat.reduceEqDiff, ↓reduceIte]
  refine zF (zD rfl rfl) ?_; try simp only [nA, Nat.reduceBEq, Nat.reduceEqDiff, ↓reduceIte, Nat.reduceAdd, Nat.reduceSub]
  refine zE (hK _ ?_); clear hK K
  refine AW.gh (Gh.slot (r := 2) (es' := [zeroC.av]) rfl rfl zero_le) ?_; try simp only [nA, Nat.reduceBEq, Nat.reduceEqDiff, ↓reduceIte, Nat.reduceAdd, Nat.reduceSub]
  refine zO ?_; (try simp only [zJ, zK, Nat.reduceEqDiff, ↓reduceIte]); have he : putC c p true = (zeroC, 4) := (by rw [put_eq hv0 hp1, hfh, if_neg (by simpa using hc3), if_pos (by simp [hb4])]); rw [he]; exact zS rfl (.cell (bl rfl) rfl rfl rfl ag33 yH (bl rfl) rfl rfl (.tmp (bl rfl) rfl rfl .nil))
 (try simp only [zY] at hc); have hc4 := hc; have hb4 : bitB c.categories p.category = true := hc4.2
 refine zN ?_
 refine hK _ ?_; clear hK K
 refine zA fun K hK => ?_
 refine zA fun K hK => ?_
 refine AW.quiet mix (by kernel_rfl) ?_
 (refine zQ (zH rfl rfl rfl fl33_7 (by exact sz31) (by decide) rfl) ?_); try simp only [nA, Nat.reduceBEq, Nat.reduceEqDiff, ↓reduceIte, Nat.reduceAdd, Nat.reduceSub]
 (refine aqR (zG rfl rfl rfl rfl ag31 rfl rfl) ?_); try simp only [nA, Nat.reduceBEq, Nat.reduceEqDiff, ↓reduceIte, Nat.reduceAdd, Nat.reduceSub]
 (refine zQ (yA rfl rfl Tryz.underlying31 (by exact .inr (.inl ⟨_, rfl, rfl⟩))) ?_); try simp only [nA, Nat.reduceBEq, Nat.reduceEqDiff, ↓reduceIte, Nat.reduceAdd, Nat.reduceSub]
 (refine zQ (zH rfl rfl rfl fl33_4 (by exact sz3) (by decide) rfl) ?_); try simp only [nA, Nat.reduceBEq, Nat.reduceEqDiff, ↓reduceIte, Nat.reduceAdd, Nat.reduceSub]
 (refine aqR (zG rfl rfl rfl rfl ag3 rfl rfl) ?_); try simp only [nA, Nat.reduceBEq, Nat.reduceEqDiff, ↓reduceIte, Nat.reduceAdd, Nat.reduceSub]
 refine zQ (op_geq rfl rfl rfl) ?_; try simp only [nA, Nat.reduceBEq, Nat.reduceEqDiff, ↓reduceIte, Nat.reduceAdd, Nat.reduceSub]
 refine zQ (zC rfl rfl) ?_; simp only [nA]
 refine' aqOr' [_, _, _, _, _, _, _, _, _] [35,36,37,38,39,40,41,42,43] rfl rfl rfl rfl rfl rfl rfl rfl rfl rfl rfl rfl (fun hb => ?_) ?_; rotate_left
 ·
  (try simp only [zY] at hb)
  (refine zQ (zH rfl rfl rfl fl33_7 (by exact sz31) (by decide) rfl) ?_); try simp only [nA, Nat.reduceBEq, Nat.reduceEqDiff, ↓reduceIte, Nat.reduceAdd, Nat.reduceSub]
  (refine aqR (zG rfl rfl rfl rfl ag31 rfl rfl) ?_); try simp only [nA, Nat.reduceBEq, Nat.reduceEqDiff, ↓reduceIte, Nat.reduceAdd, Nat.reduceSub]
  refine aqQ (zT (b := true) rfl en58 (C58 (l := c.pieces) (by omega) hvw) (RL.cons (by exact View.same rfl) (RL.nil)) rfl) ?_; try simp only [nA, Nat.reduceBEq, Nat.reduceEqDiff, ↓reduceIte, Nat.reduceAdd, Nat.reduceSub]
  (refine zQ (zH rfl rfl rfl fl35_1 (by exact sz3) (by decide) rfl) ?_); try simp only [nA, Nat.reduceBEq, Nat.reduceEqDiff, ↓reduceIte, Nat.reduceAdd, Nat.reduceSub]
  (refine aqR (zG rfl rfl rfl rfl ag3 rfl rfl) ?_); try simp only [nA, Nat.reduceBEq, Nat.reduceEqDiff, ↓reduceIte, Nat.reduceAdd, Nat.reduceSub]
  (refine zQ (zR rfl rfl rfl (by omega)) ?_); try simp only [nA, Nat.reduceBEq, Nat.reduceEqDiff, ↓reduceIte, Nat.reduceAdd, Nat.reduceSub]
  (refine zQ (zH rfl rfl rfl fl33_3 (by exact sz3) (by decide) rfl) ?_); try simp only [nA, Nat.reduceBEq, Nat.reduceEqDiff, ↓reduceIte, Nat.reduceAdd, Nat.reduceSub]
  (refine aqR (zG rfl rfl rfl rfl ag3 rfl rfl) ?_); try simp only [nA, Nat.reduceBEq, Nat.reduceEqDiff, ↓reduceIte, Nat.reduceAdd, Nat.reduceSub]
  refine zQ (op_gtr rfl rfl rfl) ?_; try simp only [nA, Nat.reduceBEq, Nat.reduceEqDiff, ↓reduceIte, Nat.reduceAdd, Nat.reduceSub]
  (refine yJ rfl rfl rfl ?_; repeat (first | exact fun _ _ => rfl | refine zU rfl ?_))
 refine yM (hK _ ?_); clear hK K
 refine zL rfl rfl rfl (fun hc => ?_) (fun hc => ?_)
 ·
  (try simp only [zY] at hc); have hc5 := hc
  refine zA fun K hK => zB ?_
  refine zF (op_build2 (xs := [.v (.int .i64 0), .v (.string ⟨#[]⟩), .v (.int .i64 0), .v (.string ⟨#[]⟩), .v (.int .i64 0), .v (.int .i64 0), .v (.int .i64 0), .v (.int .i64 0), .v (.int .i64 0), .v (.int .i64 0), .v (.slice none 0 0)]) rfl pl33 ze33 [] rfl rfl rfl) ?_; try simp only [nA, Nat.reduceBEq, Nat.reduceEqDiff, ↓reduceIte, Nat.reduceAdd, Nat.reduceSub]
  refine yB (z8 rfl rfl rfl rfl rfl rfl yH rfl (bl rfl) rfl) ?_; simp only [nA, Nat.reduceBEq, Nat.reduceEqDiff, ↓reduceIte]
  refine zF (zD rfl rfl) ?_; try simp only [nA, Nat.reduceBEq, Nat.reduceEqDiff, ↓reduceIte, Nat.reduceAdd, Nat.reduceSub]
  refine zE (hK _ ?_); clear hK K
  refine AW.gh (Gh.slot (r := 2) (es' := [zeroC.av]) rfl rfl zero_le) ?_; try simp only [nA, Nat.reduceBEq, Nat.reduceEqDiff, ↓reduceIte, Nat.reduceAdd, Nat.reduceSub]
  refine zO ?_; (try simp only [zJ, zK, Nat.reduceEqDiff, ↓reduceIte]); have he : putC c p true = (zeroC, 8) := (by rw [put_eq hv0 hp1, hfh, if_neg (by simpa using hc3), if_neg (by simp [hb4]), if_pos (by unfold fullB; simpa using hc)]); rw [he]; exact zS rfl (.cell (bl rfl) rfl rfl rfl ag33 yH (bl rfl) rfl rfl (.tmp (bl rfl) rfl rfl .nil))
 (try simp only [zY] at hc); have hc5 := hc; have hcm : c.most ≤ 60 := (by have := hv.1; unfold coB inB at this; simp at this; omega); have hf5 : fullB c p = false := (by unfold fullB; simp; omega)
 refine zN ?_
 refine hK _ ?_; clear hK K
 refine zA fun K hK => zB ?_
 (refine awR (zI rfl rfl rfl rfl ag33 yH (bl rfl) rfl) ?_); try simp only [nA, Nat.reduceBEq, Nat.reduceEqDiff, ↓reduceIte, Nat.reduceAdd, Nat.reduceSub]
 (refine awR (zI rfl rfl rfl rfl ag35 sz35 (bl rfl) rfl) ?_); try simp only [nA, Nat.reduceBEq, Nat.reduceEqDiff, ↓reduceIte, Nat.reduceAdd, Nat.reduceSub]
 refine yB (op_call (b := false) rfl en59 (C59 (c := c) (p := p) (by omega)) (RL.cons (by exact View.same rfl) (RL.cons (by exact View.same rfl) (RL.nil))) rfl (fun h => by cases h) rfl rfl) ?_; try simp only [nA, Nat.reduceBEq, Nat.reduceEqDiff, ↓reduceIte, Nat.reduceAdd, Nat.reduceSub]
 refine yB (z8 rfl rfl rfl rfl rfl rfl yH rfl (bl rfl) rfl) ?_; simp only [nA, Nat.reduceBEq, Nat.reduceEqDiff, ↓reduceIte]
 refine zF (zD rfl rfl) ?_; try simp only [nA, Nat.reduceBEq, Nat.reduceEqDiff, ↓reduceIte, Nat.reduceAdd, Nat.reduceSub]
 refine zE (hK _ ?_); clear hK K
 skip
 refine zO ?_; (try simp only [zJ, zK, Nat.reduceEqDiff, ↓reduceIte]); have he : putC c p true = (insC c p, 0) := (by rw [put_eq hv0 hp1, hfh, if_neg (by simpa using hc3), if_neg (by simp [hb4]), if_neg (by simp [hf5]), if_neg (by omega)]); rw [he]; exact zS rfl (.cell (bl rfl) rfl rfl rfl ag33 yH (bl rfl) rfl rfl (.tmp (bl rfl) rfl rfl .nil))
set_option maxRecDepth 100000
structure Leg where
 fl : Flight
 port : ByteArray
 cls : ByteArray
abbrev Leg.av (g : Leg) : List AV := [.v (.string g.fl.carrier), .v (.int .i64 g.fl.number), .v (.string g.fl.suffix), .v (.int .i64 g.fl.day), .v (.string g.port), .v (.string g.cls)]
structure BagR where
 plate : Plate
 inn : Leg
 out : Leg
 onw : List (List AV)
 seq : Int
 status : Int
 weight : Int
 load : Bool
 sn : ByteArray
 gn : ByteArray
 exc : Int
 node : ByteArray
 unl : Bool
abbrev BagR.av (b : BagR) : List AV := [.v (.int .i64 b.plate.lead), .v (.int .i64 b.plate.airline), .v (.int .i64 b.plate.serial),
 .v (.string b.inn.fl.carrier), .v (.int .i64 b.inn.fl.number), .v (.string b.inn.fl.suffix), .v (.int .i64 b.inn.fl.day), .v (.string b.inn.port), .v (.string b.inn.cls),
 .v (.string b.out.fl.carrier), .v (.int .i64 b.out.fl.number), .v (.string b.out.fl.suffix), .v (.int .i64 b.out.fl.day), .v (.string b.out.port), .v (.string b.out.cls),
 .ro b.onw, .v (.int .i64 b.seq), .v (.int .i64 b.status), .v (.int .i64 b.weight), .v (.bool b.load), .v (.string b.sn), .v (.string b.gn), .v (.int .i64 b.exc), .v (.string b.node), .v (.bool b.unl)]
def legEq (g h : Leg) : Bool := flEq g.fl h.fl && ((g.port.toList == h.port.toList) && (g.cls.toList == h.cls.toList))
abbrev leg0 : Leg := ⟨⟨⟨#[]⟩, 0, ⟨#[]⟩, 0⟩, ⟨#[]⟩, ⟨#[]⟩⟩
def catV (b : BagR) : Int := if b.exc = 1 then 4 else if b.exc = 2 then 3 else if legEq b.inn leg0 = false then 1 else if (b.out.cls.toList == (⟨#[70]⟩ : ByteArray).toList) = true then 2 else 0
section
variable {S0 : Nat → Prop} {own0 : List Nat} {v0 : List Value} {w0 : World} {o : Oper} {ev : Operand → AV} {T : Sl} {yt : TypeId} {y z : Operand}
end
theorem C13 {c : Container} {p : Piece} : Fn Tryz.prog 13 [] [.agg c.av, .agg p.av] [.v (.bool (admB c p))] [] := by
 refine Spec.body Tryz.func13 rfl Tryz.ntmps13 (by simp) rfl ?_; intro S0 own0 v0 w0
 refine zA fun K hK => zB ?_
 refine yB (yL rfl rfl rfl yH rfl) ?_; simp only [nA, Nat.reduceBEq, Nat.reduceEqDiff, ↓reduceIte]
 refine yB (yL rfl rfl rfl sz35 rfl) ?_; simp only [nA, Nat.reduceBEq, Nat.reduceEqDiff, ↓reduceIte]
 refine zF (zD rfl rfl) ?_
 refine zE (hK _ ?_); clear hK K; try simp only [nA, Nat.reduceBEq, Nat.reduceEqDiff, ↓reduceIte, Nat.reduceAdd, Nat.reduceSub]
 refine zA fun K hK => zB ?_
 refine awR (zI rfl rfl rfl rfl ag33 yH (bl rfl) rfl) ?_
 refine awR (zI rfl rfl rfl rfl ag35 sz35 (bl rfl) rfl) ?_
 refine yB (op_call (b := false) rfl en33 (C33 (c := c) (p := p)) (RL.cons (by exact View.same rfl) (RL.cons (by exact View.same rfl) (RL.nil))) rfl (fun h => by cases h) rfl rfl) ?_; try simp only [nA, Nat.reduceBEq, Nat.reduceEqDiff, ↓reduceIte, Nat.reduceAdd, Nat.reduceSub]
 refine zF (zC rfl rfl) ?_
 refine zF (zZ rfl rfl rfl) ?_
 refine zF (zZ rfl rfl rfl) ?_
 refine yB (op_alloc rfl ze33 rfl) ?_; simp only [nA, Nat.reduceBEq, Nat.reduceEqDiff, ↓reduceIte]
 refine yB (z8 rfl rfl rfl rfl rfl rfl yH rfl (bl rfl) rfl) ?_; simp only [nA, Nat.reduceBEq, Nat.reduceEqDiff, ↓reduceIte]
 refine zF (zD rfl rfl) ?_
 refine zE (hK _ ?_); clear hK K; simp only [nA, ↓reduceIte]
 refine zA fun K hK => zB ?_
 refine zF (zC rfl rfl) ?_
 refine zF (op_eql rfl rfl rfl) ?_
 refine zF (zD rfl rfl) ?_
 refine zE (hK _ ?_); clear hK K; simp only [nA]
 skip
 refine zO ?_; (try simp only [zJ, zK, Nat.reduceEqDiff, ↓reduceIte]); exact zS rfl (.tmp (bl rfl) rfl rfl .nil)
set_option maxRecDepth 100000
theorem C40 {l : List Container} {f : Flight} (hf : Fit l) : Fn Tryz.prog 40 [] [.ro (l.map Container.av), .agg f.av] [.v (.int .i64 (mom l f))] [] := by
 refine Spec.body Tryz.func40 rfl Tryz.ntmps40 (by simp) rfl ?_; intro S0 own0 v0 w0
 refine zA fun K hK => zB ?_
 refine yB (yL rfl rfl rfl sz25 rfl) ?_; simp only [nA, Nat.reduceBEq, Nat.reduceEqDiff, ↓reduceIte]
 refine zF (zD rfl rfl) ?_
 refine zE (hK _ ?_); clear hK K; try simp only [nA, Nat.reduceBEq, Nat.reduceEqDiff, ↓reduceIte, Nat.reduceAdd, Nat.reduceSub]
 refine zA fun K hK => zB ?_
 refine zF (zD rfl rfl) ?_
 refine zE (hK _ ?_); clear hK K; try simp only [nA, Nat.reduceBEq, Nat.reduceEqDiff, ↓reduceIte, Nat.reduceAdd, Nat.reduceSub]
 refine zA fun K hK => ?_
 refine zA fun K hK => zB ?_
 refine zF (zD rfl rfl) ?_
 refine zE (hK _ ?_); clear hK K; try simp only [nA, Nat.reduceBEq, Nat.reduceEqDiff, ↓reduceIte, Nat.reduceAdd, Nat.reduceSub]
 refine zP ?_
 refine yG (fun (i : Nat) => [(0, .ro (l.map Container.av)), (3, .ptr 0 1 0 0), (5, .v (.int .i64 (mom (l.take i) f))), (6, .v (.int .i64 (i : Nat)))]) (fun _ => ⟨[(1, .own 25 [f.av])], 2⟩) (fun i => i ≤ l.length) (fun i => l.length - i) 0 (by simp) ⟨rfl, rfl, rfl, rfl, trivial⟩ rfl ?_; intro i ρ hi; simp only [updL]
 refine zA fun K hK => ?_
 refine zA fun K hK => zB ?_
 refine zF (zC rfl rfl) ?_
 refine zF (zC rfl rfl) ?_
 refine zF (yA (n := l.length) rfl rfl Tryz.underlying42 (.inr (.inl ⟨_, rfl, by simp⟩))) ?_
 refine zF (op_lss rfl rfl rfl) ?_
 refine zE (hK _ ?_); clear hK K; simp only [nA, ↓reduceIte]
 refine zL rfl rfl rfl (fun hc => ?_) (fun hc => ?_)
 ·
  have hc1 := hc; have hlt : i < l.length := (by simpa using hc1); have hone := hf.one hlt; have hbd := hf.bd f i (by omega); have hlen := hf.len; have hmt := mom_take (f := f) hlt
  refine zN ?_
  refine hK _ ?_; clear hK K
  refine zA fun K hK => zP ?_
  refine zA fun K hK => ?_
  refine AW.quiet mix (by kernel_rfl) ?_
  refine zQ (zC rfl rfl) ?_
  refine zQ (zC rfl rfl) ?_
  refine zQ (zX i rfl (.inl rfl) rfl Tryz.underlying42 rfl (yO hlt) (by exact yH) (bl rfl)) ?_
  refine zQ (yK rfl rfl fl33_1 (by exact sz25) (by decide) (bl rfl) rfl) ?_
  refine aqR (yF rfl rfl ag25 sz25 (bl rfl) (by decide) rfl) ?_
  refine aqR (zI rfl rfl rfl rfl ag25 sz25 (bl rfl) rfl) ?_
  refine zQ (op_eq25 (p := (l.getD i default).flight) (q := f) rfl rfl rfl) ?_; simp only [nA, ↓reduceIte]
  refine yM (hK _ ?_); clear hK K
  refine zL rfl rfl rfl (fun hc => ?_) (fun hc => ?_)
  ·
   have hc2 := hc; rw [if_pos (show flEq (l.getD i default).flight f = true from hc2)] at hmt
   refine AW.quiet mix (by kernel_rfl) ?_
   refine zQ (zC rfl rfl) ?_
   refine zQ (zC rfl rfl) ?_
   refine zQ (zC rfl rfl) ?_
   refine zQ (zX i rfl (.inl rfl) rfl Tryz.underlying42 rfl (yO hlt) (by exact yH) (bl rfl)) ?_
   refine aqR (yF rfl rfl ag33 yH (bl rfl) (by decide) rfl) ?_
   refine aqQ (zT (b := true) rfl en62 (C62 (c := (l.getD i default))) (RL.cons (by exact View.same rfl) (RL.nil)) rfl) ?_; simp only [nA, ↓reduceIte]
   refine zQ (zC rfl rfl) ?_
   refine zQ (zC rfl rfl) ?_
   refine zQ (zX i rfl (.inl rfl) rfl Tryz.underlying42 rfl (yO hlt) (by exact yH) (bl rfl)) ?_
   refine zQ (yK rfl rfl fl33_6 (by exact sz3) (by decide) (bl rfl) rfl) ?_
   refine aqR (z6 rfl rfl ag3) ?_
   refine zQ (op_muli rfl rfl rfl (by omega)) ?_
   refine zQ (zR rfl rfl rfl (by omega)) ?_
   refine zQ (zD rfl rfl) ?_
   refine yM ?_
   (try simp only [zJ, zK, Nat.reduceEqDiff, ↓reduceIte])
   refine hK _ ?_; clear hK K; simp only [nA, ↓reduceIte]
   refine zB ?_
   refine zF (zC rfl rfl) ?_
   refine zF (zR rfl rfl rfl (by omega)) ?_
   refine zF (zD rfl rfl) ?_
   skip
   refine zE ?_
   refine ⟨i + 1, by omega, by omega, ⟨rfl, rfl, congrArg (fun z => AV.v (.int .i64 z)) hmt.symm, rfl, trivial⟩, (by rfl), (by rfl)⟩
  have hc2 := hc; rw [if_neg (by rw [show flEq (l.getD i default).flight f = false from hc2]; decide)] at hmt
  refine zN ?_
  (try simp only [zJ, zK, Nat.reduceEqDiff, ↓reduceIte])
  refine hK _ ?_; clear hK K
  refine zB ?_
  refine zF (zC rfl rfl) ?_
  refine zF (zR rfl rfl rfl (by omega)) ?_
  refine zF (zD rfl rfl) ?_
  skip
  refine zE ?_
  refine ⟨i + 1, by omega, by omega, ⟨rfl, rfl, congrArg (fun z => AV.v (.int .i64 z)) (by rw [hmt, Int.add_zero]), rfl, trivial⟩, (by rfl), (by rfl)⟩
 have hc1 := hc; have hnl : ¬ i < l.length := (by simpa using hc1)
 refine yI ?_; try simp only [zJ, zK, Nat.reduceEqDiff, ↓reduceIte]
 clear hK K
 refine hK _ ?_; clear hK K
 refine zA fun K hK => zB ?_
 refine zF (zC rfl rfl) ?_
 refine zF (zD rfl rfl) ?_
 refine zE (hK _ ?_); clear hK K; simp only [nA, ↓reduceIte]
 skip
 refine zO ?_; (try simp only [zJ, zK, Nat.reduceEqDiff, ↓reduceIte]); rw [show mom l f = mom (l.take i) f by rw [List.take_of_length_le (by omega)]]; exact zS rfl (.tmp (bl rfl) rfl rfl .nil)
theorem C20 {l : List Container} {f : Flight} (hs : Sml l) : Fn Tryz.prog 20 [] [.ro (l.map Container.av), .agg f.av] [.v (.int .i64 (momV l f))] [] := by
 refine Spec.body Tryz.func20 rfl Tryz.ntmps20 (by simp) rfl ?_; intro S0 own0 v0 w0
 refine zA fun K hK => zB ?_
 refine yB (yL rfl rfl rfl sz25 rfl) ?_; simp only [nA, Nat.reduceBEq, Nat.reduceEqDiff, ↓reduceIte]
 refine zF (zD rfl rfl) ?_
 refine zE (hK _ ?_); clear hK K; try simp only [nA, Nat.reduceBEq, Nat.reduceEqDiff, ↓reduceIte, Nat.reduceAdd, Nat.reduceSub]
 refine zA fun K hK => ?_
 refine zA fun K hK => zB ?_
 refine zF (zC rfl rfl) ?_
 refine yB (OpQ.j (zT (b := true) rfl en39 (C39 (xs := l) hs.len hs.p) (RL.cons (by exact View.same rfl) (RL.nil)) rfl)) ?_; simp only [nA, ↓reduceIte]
 refine zF (op_neq rfl rfl rfl) ?_
 refine zE (hK _ ?_); clear hK K; try simp only [nA, Nat.reduceBEq, Nat.reduceEqDiff, ↓reduceIte, Nat.reduceAdd, Nat.reduceSub]
 refine zL rfl rfl rfl (fun hc => ?_) (fun hc => ?_)
 ·
  have hc1 := hc
  refine zA fun K hK => zB ?_
  refine zF (zD rfl rfl) ?_
  refine zE (hK _ ?_); clear hK K; try simp only [nA, Nat.reduceBEq, Nat.reduceEqDiff, ↓reduceIte, Nat.reduceAdd, Nat.reduceSub]
  skip
  refine zO ?_; (try simp only [zJ, zK, Nat.reduceEqDiff, ↓reduceIte]); rw [show momV l f = 0 by unfold momV; rw [if_pos (by simpa using hc1)]]; exact zS rfl (.tmp (bl rfl) rfl rfl .nil)
 have hc1 := hc; have g1 : chkL l = 0 := (by simpa using hc1)
 refine zN ?_
 refine hK _ ?_; clear hK K
 refine zA fun K hK => zB ?_
 refine zF (zC rfl rfl) ?_
 refine awR (zI rfl rfl rfl rfl ag25 sz25 (bl rfl) rfl) ?_
 refine yB (OpQ.j (zT (b := true) rfl en40 (C40 (l := l) (f := f) (InvO.of g1).fit) (RL.cons (by exact View.same rfl) (RL.cons (by exact View.same rfl) (RL.nil))) rfl)) ?_; simp only [nA, ↓reduceIte]
 refine zF (zD rfl rfl) ?_
 refine zE (hK _ ?_); clear hK K; simp only [nA]
 skip
 refine zO ?_; (try simp only [zJ, zK, Nat.reduceEqDiff, ↓reduceIte]); rw [show momV l f = mom l f by unfold momV; rw [if_neg (by simp [g1])]]; exact zS rfl (.tmp (bl rfl) rfl rfl .nil)
def lstV (l : List Container) (f : Flight) (p : Piece) (o : Option Nat) : Int := match o with | none => 0 | some j => absI (mom l f + p.weight * (l.getD j default).arm)
theorem bst_yes {l : List Container} {f : Flight} {p : Piece} {i : Nat} (h : (flEq (l.getD i default).flight f && admB (l.getD i default) p) = true)
   (hb : (decide (atI (bestI l f p i) < 0) || decide (absI (mom l f + p.weight * (l.getD i default).arm) < lstV l f p (bestI l f p i))) = true) : bestI l f p (i + 1) = some i := by
 rw [bestI, if_pos h]
 cases hj : bestI l f p i with
 | none => rfl
 | some j =>
   rw [hj] at hb
   have h1 : ¬ atI (some j) < 0 := by show ¬ ((j : Nat) : Int) < 0; omega
   rw [decide_eq_false h1, Bool.false_or, decide_eq_true_eq] at hb
   exact if_pos hb
theorem bst_no {l : List Container} {f : Flight} {p : Piece} {i : Nat} (h : (flEq (l.getD i default).flight f && admB (l.getD i default) p) = true)
   (hb : (decide (atI (bestI l f p i) < 0) || decide (absI (mom l f + p.weight * (l.getD i default).arm) < lstV l f p (bestI l f p i))) = false) : bestI l f p (i + 1) = bestI l f p i := by
 rw [bestI, if_pos h]
 cases hj : bestI l f p i with
 | none =>
   rw [hj] at hb
   exact absurd hb (by show ¬ (decide ((-1 : Int) < 0) || _) = false; simp)
 | some j =>
   rw [hj] at hb
   rw [Bool.or_eq_false_iff, decide_eq_false_iff_not, decide_eq_false_iff_not] at hb
   exact if_neg hb.2
theorem bst_skip {l : List Container} {f : Flight} {p : Piece} {i : Nat} (h : (flEq (l.getD i default).flight f && admB (l.getD i default) p) = false) : bestI l f p (i + 1) = bestI l f p i := by
 rw [bestI, if_neg (by rw [h]; decide)]
theorem C46 {l : List Container} {f : Flight} {p : Piece} (hf : Fit l) (hp : piB p = true) : Fn Tryz.prog 46 [] [.ro (l.map Container.av), .agg f.av, .agg p.av] [.v (.int .i64 (atI (bestV l f p)))] [] := by
 refine Spec.body Tryz.func46 rfl Tryz.ntmps46 (by simp) rfl ?_; intro S0 own0 v0 w0
 refine zA fun K hK => zB ?_
 refine yB (yL rfl rfl rfl sz25 rfl) ?_; simp only [nA, Nat.reduceBEq, Nat.reduceEqDiff, ↓reduceIte]
 refine yB (yL rfl rfl rfl sz35 rfl) ?_; simp only [nA, Nat.reduceBEq, Nat.reduceEqDiff, ↓reduceIte]
 refine zF (zD rfl rfl) ?_
 refine zE (hK _ ?_); clear hK K; try simp only [nA, Nat.reduceBEq, Nat.reduceEqDiff, ↓reduceIte, Nat.reduceAdd, Nat.reduceSub]
 refine zA fun K hK => zB ?_
 refine zF (zC rfl rfl) ?_
 refine awR (zI rfl rfl rfl rfl ag25 sz25 (bl rfl) rfl) ?_
 refine yB (OpQ.j (zT (b := true) rfl en40 (C40 (l := l) (f := f) hf) (RL.cons (by exact View.same rfl) (RL.cons (by exact View.same rfl) (RL.nil))) rfl)) ?_; simp only [nA, ↓reduceIte]
 refine zF (zD rfl rfl) ?_
 refine zF (zD rfl rfl) ?_
 refine zF (zD rfl rfl) ?_
 refine zE (hK _ ?_); clear hK K; simp only [nA, ↓reduceIte]
 refine zA fun K hK => ?_
 refine zA fun K hK => zB ?_
 refine zF (zD rfl rfl) ?_
 refine zE (hK _ ?_); clear hK K; try simp only [nA, Nat.reduceBEq, Nat.reduceEqDiff, ↓reduceIte, Nat.reduceAdd, Nat.reduceSub]
 refine zP ?_
 refine yG (fun (i : Nat) => [(0, .ro (l.map Container.av)), (4, .ptr 0 1 0 0), (5, .ptr 1 2 0 0), (7, .v (.int .i64 (atI (bestI l f p i)))), (8, .v (.int .i64 (lstV l f p (bestI l f p i)))), (9, .v (.int .i64 (mom l f))), (10, .v (.int .i64 (i : Nat)))]) (fun _ => ⟨[(1, .own 25 [f.av]), (2, .own 35 [p.av])], 3⟩) (fun i => i ≤ l.length) (fun i => l.length - i) 0 (by simp) ⟨rfl, rfl, rfl, rfl, rfl, rfl, rfl, trivial⟩ rfl ?_; intro i ρ hi; simp only [updL]
 refine zA fun K hK => ?_
 refine zA fun K hK => zB ?_
 refine zF (zC rfl rfl) ?_
 refine zF (zC rfl rfl) ?_
 refine zF (yA (n := l.length) rfl rfl Tryz.underlying42 (.inr (.inl ⟨_, rfl, by simp⟩))) ?_
 refine zF (op_lss rfl rfl rfl) ?_
 refine zE (hK _ ?_); clear hK K; simp only [nA, ↓reduceIte]
 refine zL rfl rfl rfl (fun hc => ?_) (fun hc => ?_)
 ·
  have hc1 := hc; have hlt : i < l.length := (by simpa using hc1); have hlen := hf.len; have hm := hf.mom f; have hpi := piB_inv hp; have ha1 := hf.arm hlt; have hw1 := mul_bd (a := p.weight) (b := (l.getD i default).arm) (m := 999) (n := 50) (by omega) (by omega) ha1.1 ha1.2 (by decide)
  refine zN ?_
  refine hK _ ?_; clear hK K
  refine zA fun K hK => zP ?_
  refine zA fun K hK => ?_
  refine zA fun K hK => ?_
  refine AW.quiet mix (by kernel_rfl) ?_
  refine zQ (zC rfl rfl) ?_
  refine zQ (zC rfl rfl) ?_
  refine zQ (zX i rfl (.inl rfl) rfl Tryz.underlying42 rfl (yO hlt) (by exact yH) (bl rfl)) ?_
  refine zQ (yK rfl rfl fl33_1 (by exact sz25) (by decide) (bl rfl) rfl) ?_
  refine aqR (yF rfl rfl ag25 sz25 (bl rfl) (by decide) rfl) ?_
  refine aqR (zI rfl rfl rfl rfl ag25 sz25 (bl rfl) rfl) ?_
  refine zQ (op_neq25 (p := (l.getD i default).flight) (q := f) rfl rfl rfl) ?_; simp only [nA, ↓reduceIte]
  refine zQ (zC rfl rfl) ?_
  refine' aqOr' [_, _, _, _, _, _, _] [29,30,31,32,33,34,35] rfl rfl rfl rfl rfl rfl rfl rfl rfl rfl rfl rfl (fun hb => ?_) ?_; rotate_left
  ·
   (try simp only [zY] at hb)
   refine zQ (zC rfl rfl) ?_
   refine zQ (zC rfl rfl) ?_
   refine zQ (zX i rfl (.inl rfl) rfl Tryz.underlying42 rfl (yO hlt) (by exact yH) (bl rfl)) ?_
   refine aqR (yF rfl rfl ag33 yH (bl rfl) (by decide) rfl) ?_
   refine aqR (zI rfl rfl rfl rfl ag35 sz35 (bl rfl) rfl) ?_
   refine aqQ (zT (b := true) rfl en13 (C13 (c := (l.getD i default)) (p := p)) (RL.cons (by exact View.same rfl) (RL.cons (by exact View.same rfl) (RL.nil))) rfl) ?_; simp only [nA, ↓reduceIte]
   refine zQ (op_not rfl rfl rfl) ?_
   (refine yJ rfl rfl rfl ?_; repeat (first | exact fun _ _ => rfl | refine zU rfl ?_))
  simp only [nA]
  refine yM (hK _ ?_); clear hK K
  refine zL rfl rfl rfl (fun hc => ?_) (fun hc => ?_)
  ·
   have hc2 := hc; have hu : (flEq (l.getD i default).flight f && admB (l.getD i default) p) = false := (by have h : (!flEq (l.getD i default).flight f || !admB (l.getD i default) p) = true := hc2; cases h1 : flEq (l.getD i default).flight f <;> cases h2 : admB (l.getD i default) p <;> rw [h1, h2] at h <;> first | rfl | cases h); have hb := bst_skip hu
   refine yI ?_; try simp only [zJ, zK, Nat.reduceEqDiff, ↓reduceIte]
   clear hK K
   refine hK _ ?_; clear hK K
   refine zB ?_
   refine zF (zC rfl rfl) ?_
   refine zF (zR rfl rfl rfl (by omega)) ?_
   refine zF (zD rfl rfl) ?_
   skip
   refine zE ?_
   refine ⟨i + 1, by omega, by omega, ⟨rfl, rfl, rfl, (by rw [hb]; rfl), (by rw [hb]; rfl), rfl, rfl, trivial⟩, (by rfl), (by rfl)⟩
  have hc2 := hc; have hu : (flEq (l.getD i default).flight f && admB (l.getD i default) p) = true := (by have h : (!flEq (l.getD i default).flight f || !admB (l.getD i default) p) = false := hc2; cases h1 : flEq (l.getD i default).flight f <;> cases h2 : admB (l.getD i default) p <;> rw [h1, h2] at h <;> first | rfl | cases h)
  refine zN ?_
  refine hK _ ?_; clear hK K
  refine zA fun K hK => ?_
  refine AW.quiet mix (by kernel_rfl) ?_
  refine zQ (zC rfl rfl) ?_
  refine zQ (zH rfl rfl rfl fl35_1 (by exact sz3) (by decide) rfl) ?_
  refine aqR (zG rfl rfl rfl rfl ag3 rfl rfl) ?_
  refine zQ (zC rfl rfl) ?_
  refine zQ (zC rfl rfl) ?_
  refine zQ (zX i rfl (.inl rfl) rfl Tryz.underlying42 rfl (yO hlt) (by exact yH) (bl rfl)) ?_
  refine zQ (yK rfl rfl fl33_6 (by exact sz3) (by decide) (bl rfl) rfl) ?_
  refine aqR (z6 rfl rfl ag3) ?_
  refine zQ (op_muli rfl rfl rfl (by omega)) ?_
  refine zQ (zR rfl rfl rfl (by omega)) ?_
  refine aqQ (zT (b := true) rfl en67 (C67 (n := mom l f + p.weight * (l.getD i default).arm) (by omega)) (RL.cons (by exact View.same rfl) (RL.nil)) rfl) ?_; simp only [nA, Nat.reduceEqDiff, ↓reduceIte]
  refine zQ (zD rfl rfl) ?_
  refine yM (hK _ ?_); clear hK K; simp only [nA]
  refine zA fun K hK => zB (AWL.quiet ?_)
  refine zQ (zC rfl rfl) ?_
  refine zQ (op_lss rfl rfl rfl) ?_
  refine zQ (zC rfl rfl) ?_
  refine' aqOr' [_, _, _] [51,52,53] rfl rfl rfl rfl rfl rfl rfl rfl rfl rfl rfl rfl (fun hb => ?_) ?_; rotate_left
  ·
   (try simp only [zY] at hb)
   refine zQ (zC rfl rfl) ?_
   refine zQ (zC rfl rfl) ?_
   refine zQ (op_lss rfl rfl rfl) ?_
   (refine yJ rfl rfl rfl ?_; repeat (first | exact fun _ _ => rfl | refine zU rfl ?_))
  simp only [nA, Nat.reduceEqDiff, ↓reduceIte]
  refine yM (hK _ ?_); clear hK K
  refine zL rfl rfl rfl (fun hc => ?_) (fun hc => ?_)
  ·
   have hc3 := hc; have hb := bst_yes hu hc3
   refine zB ?_
   refine zF (zC rfl rfl) ?_
   refine zF (zC rfl rfl) ?_
   refine zF (zD rfl rfl) ?_
   refine zF (zD rfl rfl) ?_
   refine zE ?_
   (try simp only [zJ, zK, Nat.reduceEqDiff, ↓reduceIte])
   refine hK _ ?_; clear hK K; simp only [nA, Nat.reduceEqDiff, ↓reduceIte]
   refine zB ?_
   refine zF (zC rfl rfl) ?_
   refine zF (zR rfl rfl rfl (by omega)) ?_
   refine zF (zD rfl rfl) ?_
   skip
   refine zE ?_
   refine ⟨i + 1, by omega, by omega, ⟨rfl, rfl, rfl, (by rw [hb]; rfl), (by rw [hb]; rfl), rfl, rfl, trivial⟩, (by rfl), (by rfl)⟩
  have hc3 := hc; have hb := bst_no hu hc3
  refine zN ?_
  (try simp only [zJ, zK, Nat.reduceEqDiff, ↓reduceIte])
  refine hK _ ?_; clear hK K
  refine zB ?_
  refine zF (zC rfl rfl) ?_
  refine zF (zR rfl rfl rfl (by omega)) ?_
  refine zF (zD rfl rfl) ?_
  skip
  refine zE ?_
  refine ⟨i + 1, by omega, by omega, ⟨rfl, rfl, rfl, (by rw [hb]; rfl), (by rw [hb]; rfl), rfl, rfl, trivial⟩, (by rfl), (by rfl)⟩
 have hc1 := hc; have hnl : ¬ i < l.length := (by simpa using hc1); have hil : i = l.length := (by omega)
 refine yI ?_; try simp only [zJ, zK, Nat.reduceEqDiff, ↓reduceIte]
 clear hK K
 refine hK _ ?_; clear hK K
 refine zA fun K hK => zB ?_
 refine zF (zC rfl rfl) ?_
 refine zF (zD rfl rfl) ?_
 refine zE (hK _ ?_); clear hK K; simp only [nA, ↓reduceIte]
 skip
 refine zO ?_; (try simp only [zJ, zK, Nat.reduceEqDiff, ↓reduceIte]); rw [show bestV l f p = bestI l f p i by rw [hil]; rfl]; exact zS rfl (.tmp (bl rfl) rfl rfl .nil)
theorem any_step {l : List Container} {f : Flight} {i : Nat} (h : i < l.length) : anyF (l.take (i + 1)) f = (anyF (l.take i) f || flEq (l.getD i default).flight f) := any_snoc h
theorem C22 {l : List Container} {f : Flight} {p : Piece} (hs : Sml l) : Fn Tryz.prog 22 [] [.ro (l.map Container.av), .agg f.av, .agg p.av] [.v (.int .i64 (choV l f p).1), .v (.int .i64 (choV l f p).2)] [] := by
 refine Spec.body Tryz.func22 rfl Tryz.ntmps22 (by simp) rfl ?_; intro S0 own0 v0 w0
 refine zA fun K hK => zB ?_
 refine yB (yL rfl rfl rfl sz25 rfl) ?_; simp only [nA, Nat.reduceBEq, Nat.reduceEqDiff, ↓reduceIte]
 refine yB (yL rfl rfl rfl sz35 rfl) ?_; simp only [nA, Nat.reduceBEq, Nat.reduceEqDiff, ↓reduceIte]
 refine zF (zD rfl rfl) ?_
 refine zF (zD rfl rfl) ?_
 refine zE (hK _ ?_); clear hK K; try simp only [nA, Nat.reduceBEq, Nat.reduceEqDiff, ↓reduceIte, Nat.reduceAdd, Nat.reduceSub]
 refine zA fun K hK => ?_
 refine zA fun K hK => zB ?_
 refine zF (zC rfl rfl) ?_
 refine yB (OpQ.j (zT (b := true) rfl en39 (C39 (xs := l) hs.len hs.p) (RL.cons (by exact View.same rfl) (RL.nil)) rfl)) ?_; simp only [nA, ↓reduceIte]
 refine zF (zD rfl rfl) ?_
 refine zE (hK _ ?_); clear hK K; simp only [nA]
 refine zA fun K hK => zB ?_
 refine zF (zC rfl rfl) ?_
 refine zF (op_neq rfl rfl rfl) ?_
 refine zE (hK _ ?_); clear hK K; simp only [nA]
 refine zL rfl rfl rfl (fun hc => ?_) (fun hc => ?_)
 ·
  have hc1 := hc; have g1 : chkL l ≠ 0 := (by simpa using hc1)
  refine zA fun K hK => zB ?_
  refine zF (zC rfl rfl) ?_
  refine zF (zD rfl rfl) ?_
  refine zF (zD rfl rfl) ?_
  refine zE (hK _ ?_); clear hK K; simp only [nA, ↓reduceIte]
  skip
  refine zO ?_; (try simp only [zJ, zK, Nat.reduceEqDiff, ↓reduceIte]); rw [show choV l f p = (0, chkL l) by unfold choV; rw [if_pos g1]]; exact zS rfl (.tmp (bl rfl) rfl rfl (.tmp (bl rfl) rfl rfl .nil))
 have hc1 := hc; have g1 : chkL l = 0 := (by simpa using hc1)
 refine zN ?_
 refine hK _ ?_; clear hK K
 refine zA fun K hK => ?_
 refine zA fun K hK => zB ?_
 refine awR (zI rfl rfl rfl rfl ag35 sz35 (bl rfl) rfl) ?_
 refine yB (OpQ.j (zT (b := true) rfl en44 (C44 (p := p)) (RL.cons (by exact View.same rfl) (RL.nil)) rfl)) ?_; try simp only [nA, Nat.reduceBEq, Nat.reduceEqDiff, ↓reduceIte, Nat.reduceAdd, Nat.reduceSub]
 refine zF (op_not rfl rfl rfl) ?_
 refine zE (hK _ ?_); clear hK K; try simp only [nA, Nat.reduceBEq, Nat.reduceEqDiff, ↓reduceIte, Nat.reduceAdd, Nat.reduceSub]
 refine zL rfl rfl rfl (fun hc => ?_) (fun hc => ?_)
 ·
  have hc2 := hc; have g2 : piB p = false := (by simpa using hc2)
  refine zA fun K hK => zB ?_
  refine zF (zD rfl rfl) ?_
  refine zF (zD rfl rfl) ?_
  refine zE (hK _ ?_); clear hK K; try simp only [nA, Nat.reduceBEq, Nat.reduceEqDiff, ↓reduceIte, Nat.reduceAdd, Nat.reduceSub]
  skip
  refine zO ?_; (try simp only [zJ, zK, Nat.reduceEqDiff, ↓reduceIte]); rw [show choV l f p = (0, 1) by unfold choV; rw [if_neg (by simp [g1]), if_pos g2]]; exact zS rfl (.tmp (bl rfl) rfl rfl (.tmp (bl rfl) rfl rfl .nil))
 have hc2 := hc; have g2 : piB p = true := (by simpa using hc2)
 refine zN ?_
 refine hK _ ?_; clear hK K
 refine zA fun K hK => ?_
 refine zA fun K hK => zB ?_
 refine zF (zC rfl rfl) ?_
 refine zF (zH rfl rfl rfl fl35_0 (by exact sz23) (by decide) rfl) ?_
 refine awR (zI rfl rfl rfl rfl ag23 sz23 (bl rfl) rfl) ?_
 refine yB (op_call (b := false) rfl en45 (C45 (xs := l) (p := p.plate) hs.len hs.p) (RL.cons (by exact View.same rfl) (RL.cons (by exact View.same rfl) (RL.nil))) rfl (fun h => by cases h) rfl rfl) ?_; simp only [nA, ↓reduceIte]
 refine zF (zC rfl rfl) ?_
 refine zF (zZ rfl rfl rfl) ?_
 refine zF (zZ rfl rfl rfl) ?_
 refine zF (zD rfl rfl) ?_
 refine zF (zD rfl rfl) ?_
 refine zE (hK _ ?_); clear hK K; simp only [nA, ↓reduceIte]
 refine zA fun K hK => zB ?_
 refine zF (zC rfl rfl) ?_
 refine zE (hK _ ?_); clear hK K; simp only [nA]
 refine zL rfl rfl rfl (fun hc => ?_) (fun hc => ?_)
 ·
  have hc3 := hc; have g3 : (findL l p.plate).2 = true := hc3
  refine zA fun K hK => zB ?_
  refine zF (zD rfl rfl) ?_
  refine zF (zD rfl rfl) ?_
  refine zE (hK _ ?_); clear hK K; try simp only [nA, Nat.reduceBEq, Nat.reduceEqDiff, ↓reduceIte, Nat.reduceAdd, Nat.reduceSub]
  skip
  refine zO ?_; (try simp only [zJ, zK, Nat.reduceEqDiff, ↓reduceIte]); rw [show choV l f p = (0, 5) by unfold choV; rw [if_neg (by simp [g1]), if_neg (by simp [g2]), if_pos g3]]; exact zS rfl (.tmp (bl rfl) rfl rfl (.tmp (bl rfl) rfl rfl .nil))
 have hc3 := hc; have g3 : (findL l p.plate).2 = false := hc3
 refine zN ?_
 refine hK _ ?_; clear hK K
 refine zA fun K hK => zB ?_
 refine zF (zD rfl rfl) ?_
 refine zE (hK _ ?_); clear hK K; try simp only [nA, Nat.reduceBEq, Nat.reduceEqDiff, ↓reduceIte, Nat.reduceAdd, Nat.reduceSub]
 refine zA fun K hK => ?_
 refine zA fun K hK => zB ?_
 refine zF (zD rfl rfl) ?_
 refine zE (hK _ ?_); clear hK K; try simp only [nA, Nat.reduceBEq, Nat.reduceEqDiff, ↓reduceIte, Nat.reduceAdd, Nat.reduceSub]
 refine zP ?_
 refine yG (fun (i : Nat) => [(0, .ro (l.map Container.av)), (4, .ptr 0 1 0 0), (5, .ptr 1 2 0 0), (11, .v (.bool (anyF (l.take i) f))), (12, .v (.int .i64 (i : Nat)))]) (fun _ => ⟨[(1, .own 25 [f.av]), (2, .own 35 [p.av])], 3⟩) (fun i => i ≤ l.length) (fun i => l.length - i) 0 (by simp) ⟨rfl, rfl, rfl, rfl, rfl, trivial⟩ rfl ?_; intro i ρ hi; simp only [updL]
 refine zA fun K hK => ?_
 refine zA fun K hK => zB ?_
 refine zF (zC rfl rfl) ?_
 refine zF (zC rfl rfl) ?_
 refine zF (yA (n := l.length) rfl rfl Tryz.underlying42 (.inr (.inl ⟨_, rfl, by simp⟩))) ?_
 refine zF (op_lss rfl rfl rfl) ?_
 refine zE (hK _ ?_); clear hK K; simp only [nA, ↓reduceIte]
 refine zL rfl rfl rfl (fun hc => ?_) (fun hc => ?_)
 ·
  have hc4 := hc; have hlt : i < l.length := (by simpa using hc4); have hlen := (InvO.of g1).len; have han := any_step (f := f) hlt
  refine zN ?_
  refine hK _ ?_; clear hK K
  refine zA fun K hK => zP ?_
  refine AW.quiet mix (by kernel_rfl) ?_
  refine zQ (zC rfl rfl) ?_
  refine zQ (zC rfl rfl) ?_
  refine' aqOr' [_, _, _, _, _, _, _] [38,39,40,41,42,43,44] rfl rfl rfl rfl rfl rfl rfl rfl rfl rfl rfl rfl (fun hb => ?_) ?_; rotate_left
  ·
   (try simp only [zY] at hb)
   refine zQ (zC rfl rfl) ?_
   refine zQ (zC rfl rfl) ?_
   refine zQ (zX i rfl (.inl rfl) rfl Tryz.underlying42 rfl (yO hlt) (by exact yH) (bl rfl)) ?_
   refine zQ (yK rfl rfl fl33_1 (by exact sz25) (by decide) (bl rfl) rfl) ?_
   refine aqR (yF rfl rfl ag25 sz25 (bl rfl) (by decide) rfl) ?_
   refine aqR (zI rfl rfl rfl rfl ag25 sz25 (bl rfl) rfl) ?_
   refine zQ (op_eq25 (p := (l.getD i default).flight) (q := f) rfl rfl rfl) ?_; simp only [nA, ↓reduceIte]
   (refine yJ rfl rfl rfl ?_; repeat (first | exact fun _ _ => rfl | refine zU rfl ?_))
  simp only [nA, ↓reduceIte]
  refine zQ (zD rfl rfl) ?_
  refine yM ?_
  (try simp only [zJ, zK, Nat.reduceEqDiff, ↓reduceIte])
  refine hK _ ?_; clear hK K; simp only [nA]
  refine zB ?_
  refine zF (zC rfl rfl) ?_
  refine zF (zR rfl rfl rfl (by omega)) ?_
  refine zF (zD rfl rfl) ?_
  skip
  refine zE ?_
  refine ⟨i + 1, by omega, by omega, ⟨rfl, rfl, rfl, (by rw [han]; rfl), rfl, trivial⟩, (by rfl), (by rfl)⟩
 have hc4 := hc; have hnl : ¬ i < l.length := (by simpa using hc4); have han : anyF (l.take i) f = anyF l f := (by rw [List.take_of_length_le (by omega)]); rw [han]
 refine yI ?_; try simp only [zJ, zK, Nat.reduceEqDiff, ↓reduceIte]
 clear hK K
 refine hK _ ?_; clear hK K
 refine zA fun K hK => ?_
 refine zA fun K hK => zB ?_
 refine zF (zC rfl rfl) ?_
 refine zF (op_not rfl rfl rfl) ?_
 refine zE (hK _ ?_); clear hK K; simp only [nA, ↓reduceIte]
 refine zL rfl rfl rfl (fun hc => ?_) (fun hc => ?_)
 ·
  have hc5 := hc; have g4 : anyF l f = false := (by simpa using hc5)
  refine zA fun K hK => zB ?_
  refine zF (zD rfl rfl) ?_
  refine zF (zD rfl rfl) ?_
  refine zE (hK _ ?_); clear hK K; try simp only [nA, Nat.reduceBEq, Nat.reduceEqDiff, ↓reduceIte, Nat.reduceAdd, Nat.reduceSub]
  skip
  refine zO ?_; (try simp only [zJ, zK, Nat.reduceEqDiff, ↓reduceIte]); rw [show choV l f p = (0, 6) by unfold choV; rw [if_neg (by simp [g1]), if_neg (by simp [g2]), if_neg (by simp [g3]), if_pos g4]]; exact zS rfl (.tmp (bl rfl) rfl rfl (.tmp (bl rfl) rfl rfl .nil))
 have hc5 := hc; have g4 : anyF l f = true := (by simpa using hc5)
 refine zN ?_
 refine hK _ ?_; clear hK K
 refine zA fun K hK => zB ?_
 refine zF (zC rfl rfl) ?_
 refine awR (zI rfl rfl rfl rfl ag25 sz25 (bl rfl) rfl) ?_
 refine awR (zI rfl rfl rfl rfl ag35 sz35 (bl rfl) rfl) ?_
 refine yB (OpQ.j (zT (b := true) rfl en46 (C46 (l := l) (f := f) (p := p) (InvO.of g1).fit g2) (RL.cons (by exact View.same rfl) (RL.cons (by exact View.same rfl) (RL.cons (by exact View.same rfl) (RL.nil)))) rfl)) ?_; simp only [nA, ↓reduceIte]
 refine zF (zD rfl rfl) ?_
 refine zE (hK _ ?_); clear hK K; simp only [nA]
 refine zA fun K hK => ?_
 refine zA fun K hK => zB ?_
 refine zF (zC rfl rfl) ?_
 refine zF (op_lss rfl rfl rfl) ?_
 refine zE (hK _ ?_); clear hK K; simp only [nA]
 refine zL rfl rfl rfl (fun hc => ?_) (fun hc => ?_)
 ·
  have hc6 := hc; have g5 : bestV l f p = none := (by cases hb : bestV l f p with | none => rfl | some i => rw [hb] at hc6; exact absurd (of_decide_eq_true hc6) (by show ¬ ((i : Nat) : Int) < 0; omega))
  refine zA fun K hK => zB ?_
  refine zF (zD rfl rfl) ?_
  refine zF (zD rfl rfl) ?_
  refine zE (hK _ ?_); clear hK K; try simp only [nA, Nat.reduceBEq, Nat.reduceEqDiff, ↓reduceIte, Nat.reduceAdd, Nat.reduceSub]
  skip
  refine zO ?_; (try simp only [zJ, zK, Nat.reduceEqDiff, ↓reduceIte]); rw [show choV l f p = (0, 8) by unfold choV; rw [if_neg (by simp [g1]), if_neg (by simp [g2]), if_neg (by simp [g3]), if_neg (by simp [g4]), g5]]; exact zS rfl (.tmp (bl rfl) rfl rfl (.tmp (bl rfl) rfl rfl .nil))
 have hc6 := hc; obtain ⟨j, hbi⟩ : ∃ i, bestV l f p = some i := (by cases hb : bestV l f p with | some i => exact ⟨i, rfl⟩ | none => rw [hb] at hc6; exact absurd (of_decide_eq_false hc6) (by show ¬ ¬ (-1 : Int) < 0; decide)); obtain ⟨hjl, _, _⟩ := bestV_some hbi; rw [hbi]
 refine zN ?_
 refine hK _ ?_; clear hK K
 refine zA fun K hK => zB ?_
 refine zF (zC rfl rfl) ?_
 refine zF (zC rfl rfl) ?_
 refine zF (zX j rfl (.inl rfl) rfl Tryz.underlying42 rfl (yO hjl) (by exact yH) (bl rfl)) ?_
 refine zF (yK rfl rfl fl33_0 (by exact sz3) (by decide) (bl rfl) rfl) ?_
 refine awR (z6 rfl rfl ag3) ?_
 refine zF (zD rfl rfl) ?_
 refine zF (zD rfl rfl) ?_
 refine zE (hK _ ?_); clear hK K; simp only [nA, ↓reduceIte]
 skip
 refine zO ?_; (try simp only [zJ, zK, Nat.reduceEqDiff, ↓reduceIte]); rw [show choV l f p = ((l.getD j default).number, 0) by unfold choV; rw [if_neg (by simp [g1]), if_neg (by simp [g2]), if_neg (by simp [g3]), if_neg (by simp [g4]), hbi]]; exact zS rfl (.tmp (bl rfl) rfl rfl (.tmp (bl rfl) rfl rfl .nil))
set_option maxRecDepth 100000
set_option maxRecDepth 100000
theorem C16r {l : List Int} {k : Nat} {xs : List Container} (hl : l.length ≤ 2000) (hx : xs.length ≤ 1000) (hb : ∀ c ∈ xs, c.pieces.length ≤ 1000) : Fn Tryz.prog 16 [.own 67 [srcRow l k]] [.ptr 0 0 0 0, .ro (xs.map Container.av)] [.ro ((spoilV l k xs).2.map Container.av)] [.own 67 [srcRow l (spoilV l k xs).1]] := by
 have hbD : ∀ i, i < xs.length → (xs.getD i default).pieces.length ≤ 1000 := fun i hi => by
   rw [List.getD_eq_getElem?_getD, List.getElem?_eq_getElem hi]
   exact hb _ (List.getElem_mem hi)
 refine Spec.body Tryz.func16 rfl Tryz.ntmps16 (by simp) rfl ?_; intro S0 own0 v0 w0
 refine zA fun K hK => zB ?_
 refine zF (zD rfl rfl) ?_; try simp only [nA, Nat.reduceBEq, Nat.reduceEqDiff, ↓reduceIte, Nat.reduceAdd, Nat.reduceSub]
 refine zE (hK _ ?_); clear hK K; try simp only [nA, Nat.reduceBEq, Nat.reduceEqDiff, ↓reduceIte, Nat.reduceAdd, Nat.reduceSub]
 refine zA fun K hK => zB ?_
 refine zF (zD rfl rfl) ?_; try simp only [nA, Nat.reduceBEq, Nat.reduceEqDiff, ↓reduceIte, Nat.reduceAdd, Nat.reduceSub]
 refine zE (hK _ ?_); clear hK K
 refine zA fun K hK => ?_
 refine zA fun K hK => zB ?_
 refine zF (zC rfl rfl) ?_; simp only [nA, ↓reduceIte]
 (refine zF (yA rfl rfl Tryz.underlying42 (by exact .inr (.inl ⟨_, rfl, rfl⟩))) ?_); try simp only [nA, Nat.reduceBEq, Nat.reduceEqDiff, ↓reduceIte, Nat.reduceAdd, Nat.reduceSub]
 refine zF (zC rfl rfl) ?_; try simp only [nA, Nat.reduceBEq, Nat.reduceEqDiff, ↓reduceIte, Nat.reduceAdd, Nat.reduceSub]
 refine zE (hK _ ?_); clear hK K
 refine zP ?_
 refine AW.gh (Gh.nil (e := 33) 5 (bl rfl) rfl yH) ?_; (simp only [nA, Nat.reduceBEq, Nat.reduceEqDiff, ↓reduceIte]); refine yG (fun (q : Nat × Nat × Nat) => [(0, .ptr 0 0 0 0), (1, .ro (xs.map Container.av)), (5, .sl 1 q.2.1 0 q.1), (10, .v (.int .i64 (xs.length : Nat))), (11, .v (.int .i64 (q.1 : Nat)))]) (fun q => ⟨[(0, .own 67 [srcRow l k]), (q.2.1, .own 33 ((xs.take q.1).map oav))], q.2.2⟩) (fun q => q.1 ≤ xs.length) (fun q => xs.length - q.1) (0, 1, 2) (by simp) ⟨rfl, rfl, rfl, rfl, rfl, trivial⟩ rfl ?_; rintro ⟨i, v, ep⟩ ρ hi; simp only at hi; simp only [updL]
 refine zA fun K hK => zB ?_
 refine zF (op_lss rfl rfl rfl) ?_; try simp only [nA, Nat.reduceBEq, Nat.reduceEqDiff, ↓reduceIte, Nat.reduceAdd, Nat.reduceSub]
 refine zE (hK _ ?_); clear hK K
 refine zA fun K hK => ?_
 refine zL rfl rfl rfl (fun hc => ?_) (fun hc => ?_)
 ·
  (try simp only [zY] at hc); have hc1 := hc; have hlt : i < xs.length := (by simpa using hc1); obtain ⟨c, hci⟩ : ∃ c, xs[i]? = some c := ⟨xs[i], List.getElem?_eq_getElem hlt⟩; have hcl := hb c (List.mem_of_getElem? hci)
  refine zN ?_
  refine hK _ ?_; clear hK K
  refine zA fun K hK => zP ?_
  refine zA fun K hK => zB ?_
  refine zF (zC rfl rfl) ?_; simp only [nA, ↓reduceIte]
  refine zF (zD rfl rfl) ?_; simp only [nA]
  refine zE (hK _ ?_); clear hK K
  refine zA fun K hK => zB ?_
  refine zF (zC rfl rfl) ?_; simp only [nA, ↓reduceIte]
  refine zF (zC rfl rfl) ?_; simp only [nA, ↓reduceIte]
  refine zF (zX i rfl (.inl rfl) rfl Tryz.underlying42 rfl (get_of hci) (by exact yH) (bl rfl)) ?_; try simp only [nA, Nat.reduceBEq, Nat.reduceEqDiff, ↓reduceIte, Nat.reduceAdd, Nat.reduceSub]
  refine awR (yF rfl rfl ag33 yH (bl rfl) (by decide) rfl) ?_; try simp only [nA, Nat.reduceBEq, Nat.reduceEqDiff, ↓reduceIte, Nat.reduceAdd, Nat.reduceSub]
  refine yB (op_alloc rfl ze33 rfl) ?_; simp only [nA, Nat.reduceBEq, Nat.reduceEqDiff, ↓reduceIte]
  refine yB (z8 rfl rfl rfl rfl rfl rfl yH rfl (bl rfl) rfl) ?_; simp only [nA, Nat.reduceBEq, Nat.reduceEqDiff, ↓reduceIte]
  refine zE (hK _ ?_); clear hK K
  refine zA fun K hK => zB ?_
  refine yB (zV rfl [] [] Tryz.underlying31 ze35 rfl (by simp) rfl (by simp) rfl (bl rfl) (by simp [maxLen])) ?_; simp only [nA, Nat.reduceBEq, Nat.reduceEqDiff, ↓reduceIte]
  (refine zF (zH rfl rfl rfl fl33_7 (by exact sz31) (by decide) rfl) ?_); try simp only [nA, Nat.reduceBEq, Nat.reduceEqDiff, ↓reduceIte, Nat.reduceAdd, Nat.reduceSub]
  (refine awR (zG rfl rfl rfl rfl ag31 rfl rfl) ?_); try simp only [nA, Nat.reduceBEq, Nat.reduceEqDiff, ↓reduceIte, Nat.reduceAdd, Nat.reduceSub]
  refine yB (op_app rfl rfl rfl rfl rfl .ro Tryz.underlying31 ze35 (by decide) (av_len _) (by simp; omega) (by decide) (List.nil_append _) rfl) ?_; try simp only [nA, Nat.reduceBEq, Nat.reduceEqDiff, ↓reduceIte, Nat.reduceAdd, Nat.reduceSub]
  (refine zF (zH rfl rfl rfl fl33_7 (by exact sz31) (by decide) rfl) ?_); try simp only [nA, Nat.reduceBEq, Nat.reduceEqDiff, ↓reduceIte, Nat.reduceAdd, Nat.reduceSub]
  refine yB (op_store_nest (r := 2) (q := 3) rfl rfl rfl rfl (row := c.av) rfl sz31 rfl (by decide) (by simp) (by simp) (es2 := [oav c]) rfl) ?_; try simp only [nA, Nat.reduceBEq, Nat.reduceEqDiff, ↓reduceIte, Nat.reduceAdd, Nat.reduceSub]
  refine zE (hK _ ?_); clear hK K
  refine zB ?_
  refine zF (zC rfl rfl) ?_; simp only [nA, ↓reduceIte]
  refine AWL.ghE (GhE.unnest (r := 2) (es := [oav c]) (row := oav c) 0 10 rfl rfl rfl) ?_; intro u hu; (try simp only [nA, Nat.reduceBEq, Nat.reduceEqDiff, ↓reduceIte, Nat.reduceAdd, Nat.reduceSub]); (refine awR (zI rfl rfl rfl rfl ag33 yH (bl rfl) rfl) ?_); try simp only [nA, Nat.reduceBEq, Nat.reduceEqDiff, ↓reduceIte, Nat.reduceAdd, Nat.reduceSub]
  refine yB (zV rfl [(0, nuv c u)] [nuv c u] Tryz.underlying42 ze33 rfl (by simp) rfl (by simp) rfl (bl rfl) (by simp [maxLen])) ?_; simp only [nA, Nat.reduceBEq, Nat.reduceEqDiff, ↓reduceIte]
  refine yB (op_app (rows := [nuv c u]) rfl rfl rfl rfl (by simp; omega) (.sl (es := [nuv c u]) rfl rfl) Tryz.underlying42 ze33 (by decide) (by simp) (by simp; omega) (by decide) (es' := (xs.take i).map oav ++ [nuv c u]) rfl (n := i + 1) (by simp; omega)) ?_; (try simp only [nA, Nat.reduceBEq, Nat.reduceEqDiff, ↓reduceIte, Nat.reduceAdd, Nat.reduceSub]); refine AWL.gh (Gh.nest (r := 1) (q := 4) (row := nuv c u) i 10 rfl (nest_row hci) rfl rfl (by decide) (es2 := (xs.take (i + 1)).map oav) (nest_eq hci)) ?_; try simp only [nA, Nat.reduceBEq, Nat.reduceEqDiff, ↓reduceIte, Nat.reduceAdd, Nat.reduceSub]
  refine zF (zD rfl rfl) ?_; simp only [nA]
  refine zE ?_
  (try simp only [zJ, zK, Nat.reduceEqDiff, ↓reduceIte])
  refine hK _ ?_; clear hK K
  refine zB ?_
  (refine zF (zR rfl rfl rfl (by omega)) ?_); try simp only [nA, Nat.reduceBEq, Nat.reduceEqDiff, ↓reduceIte, Nat.reduceAdd, Nat.reduceSub]
  refine zF (zC rfl rfl) ?_; simp only [nA]
  refine AWL.gh (Gh.drop 2) ?_; try simp only [nA, Nat.reduceBEq, Nat.reduceEqDiff, ↓reduceIte, Nat.reduceAdd, Nat.reduceSub]
  refine zE ?_
  refine ⟨(i + 1, _, _), by dsimp only; omega, by dsimp only; omega, ⟨rfl, rfl, rfl, rfl, rfl, trivial⟩, (by rfl), (by rfl)⟩
 (try simp only [zY] at hc); have hc1 := hc; obtain rfl : i = xs.length := (by omega); simp only [List.take_length]
 refine yI ?_; try simp only [zJ, zK, Nat.reduceEqDiff, ↓reduceIte]
 clear hK K
 refine hK _ ?_; clear hK K
 refine zA fun K hK => ?_
 refine zA fun K hK => zB ?_
 refine zF (zC rfl rfl) ?_; simp only [nA, ↓reduceIte]
 (refine zF (op_len_sl rfl rfl rfl Tryz.underlying42) ?_); try simp only [nA, Nat.reduceBEq, Nat.reduceEqDiff, ↓reduceIte, Nat.reduceAdd, Nat.reduceSub]
 (refine zF (op_eql rfl rfl rfl) ?_); try simp only [nA, Nat.reduceBEq, Nat.reduceEqDiff, ↓reduceIte, Nat.reduceAdd, Nat.reduceSub]
 refine zE (hK _ ?_); clear hK K
 refine zL rfl rfl rfl (fun hc => ?_) (fun hc => ?_)
 ·
  (try simp only [zY] at hc); have hc2 := hc; obtain rfl : xs = [] := List.eq_nil_of_length_eq_zero (by simpa using hc2)
  refine zA fun K hK => zB ?_
  refine zF (zC rfl rfl) ?_; simp only [nA, ↓reduceIte]
  refine zF (op_build2 (xs := [.v (.int .i64 0), .v (.string ⟨#[]⟩), .v (.int .i64 0), .v (.string ⟨#[]⟩), .v (.int .i64 0), .v (.int .i64 0), .v (.int .i64 0), .v (.int .i64 0), .v (.int .i64 0), .v (.int .i64 0), .v (.slice none 0 0)]) rfl pl33 ze33 [] rfl rfl rfl) ?_; try simp only [nA, Nat.reduceBEq, Nat.reduceEqDiff, ↓reduceIte, Nat.reduceAdd, Nat.reduceSub]
  refine yB (zV rfl [(0, nav zeroC)] [nav zeroC] Tryz.underlying42 ze33 rfl (by simp) rfl (by simp) rfl (bl rfl) (by simp [maxLen])) ?_; simp only [nA, Nat.reduceBEq, Nat.reduceEqDiff, ↓reduceIte]
  refine yB (op_app (rows := [nav zeroC]) rfl rfl rfl rfl rfl (.sl (es := [nav zeroC]) rfl rfl) Tryz.underlying42 ze33 (by decide) (by simp) (by simp) (by decide) (List.nil_append _) (n := 1) rfl) ?_; try simp only [nA, Nat.reduceBEq, Nat.reduceEqDiff, ↓reduceIte, Nat.reduceAdd, Nat.reduceSub]
  refine zF (zD rfl rfl) ?_; simp only [nA]
  refine zE (hK _ ?_); clear hK K
  refine AW.gh (Gh.slot (r := 1) (es' := [zeroC.av]) rfl rfl zero_le) ?_; (try simp only [nA, Nat.reduceBEq, Nat.reduceEqDiff, ↓reduceIte, Nat.reduceAdd, Nat.reduceSub]); refine AW.gh (Gh.freeze 4 (bl rfl) rfl rfl (cavf [zeroC]) (es' := [zeroC].map Container.av) rfl) ?_; try simp only [nA, Nat.reduceBEq, Nat.reduceEqDiff, ↓reduceIte, Nat.reduceAdd, Nat.reduceSub]
  refine zO ?_; (try simp only [zJ, zK, Nat.reduceEqDiff, ↓reduceIte]); rw [show spoilV l k [] = (k, [zeroC]) from rfl]; exact RQ.of (.inl rfl) rfl (.tmp (bl rfl) rfl rfl .nil) (by simp) rfl (one_out rfl)
 (try simp only [zY] at hc); have hc2 := hc; have h1 : 1 ≤ xs.length := (by simp at hc2; omega); have hix := idxV_lt l k h1
 refine zN ?_
 refine hK _ ?_; clear hK K
 refine zA fun K hK => zB ?_
 refine zF (zC rfl rfl) ?_; simp only [nA, ↓reduceIte]
 refine zF (zC rfl rfl) ?_; simp only [nA, ↓reduceIte]
 (refine zF (op_len_sl rfl rfl rfl Tryz.underlying42) ?_); try simp only [nA, Nat.reduceBEq, Nat.reduceEqDiff, ↓reduceIte, Nat.reduceAdd, Nat.reduceSub]
 refine yB (yN rfl en18 (C18n (n := xs.length) hl h1 (by omega)) (by exact rfl) (RL.cons .ptr (RL.cons (.base (by exact View.same rfl)) (RL.nil))) (by exact ⟨_, _, _, rfl, rfl, rfl⟩) (by exact rfl) (by exact rfl) (by exact rfl)) ?_; try simp only [nA, Nat.reduceBEq, Nat.reduceEqDiff, ↓reduceIte, Nat.reduceAdd, Nat.reduceSub]
 refine zF (zD rfl rfl) ?_; simp only [nA]
 refine zE (hK _ ?_); clear hK K
 refine zA fun K hK => ?_
 refine zA fun K hK => zB ?_
 refine zF (zC rfl rfl) ?_; simp only [nA, ↓reduceIte]
 refine yB (yN rfl en18 (C18 (n := 9) hl (by decide)) (by exact rfl) (RL.cons .ptr (RL.cons (.base (by exact View.same rfl)) (RL.nil))) (by exact ⟨_, _, _, rfl, rfl, rfl⟩) (by exact rfl) (by exact rfl) (by exact rfl)) ?_; try simp only [nA, Nat.reduceBEq, Nat.reduceEqDiff, ↓reduceIte, Nat.reduceAdd, Nat.reduceSub]
 refine zE (hK _ ?_); clear hK K
 refine zP ?_
 refine zA fun K hK => zB ?_
 (refine zF (op_eql rfl rfl rfl) ?_); try simp only [nA, Nat.reduceBEq, Nat.reduceEqDiff, ↓reduceIte, Nat.reduceAdd, Nat.reduceSub]
 refine zF (zD rfl rfl) ?_; simp only [nA]
 refine zE (hK _ ?_); clear hK K
 refine zL rfl rfl rfl (fun hc => ?_) (fun hc => ?_)
 ·
  (try simp only [zY] at hc); have hc3 := hc
  refine zB ?_
  refine zF (zC rfl rfl) ?_; simp only [nA, ↓reduceIte]
  refine zF (zC rfl rfl) ?_; simp only [nA, ↓reduceIte]
  refine zF (zC rfl rfl) ?_; simp only [nA, ↓reduceIte]
  refine yB (zV rfl [(0, iv 0), (1, iv 1), (2, iv 999), (3, iv 1000)] (([0, 1, 999, 1000] : List Int).map iv) Tryz.underlying36 ze3 rfl (by simp) (fold_dense 1 (([0, 1, 999, 1000] : List Int).map iv) (iv_len _)) (iv_len _) rfl (bl rfl) (by simp [maxLen])) ?_; (simp only [nA, Nat.reduceBEq, Nat.reduceEqDiff, ↓reduceIte]); refine AWL.gh (Gh.freeze 51 (bl rfl) rfl rfl (iv_flat [0, 1, 999, 1000]) (es' := ([0, 1, 999, 1000] : List Int).map iv) rfl) ?_; try simp only [nA, Nat.reduceBEq, Nat.reduceEqDiff, ↓reduceIte, Nat.reduceAdd, Nat.reduceSub]
  refine yB (yN rfl en29 (C29 (xs := [0, 1, 999, 1000]) hl (by decide) (by decide)) (by exact rfl) (RL.cons .ptr (RL.cons (.base (by exact View.same rfl)) (RL.nil))) (by exact ⟨_, _, _, rfl, rfl, rfl⟩) (by exact rfl) (by exact rfl) (by exact rfl)) ?_; try simp only [nA, Nat.reduceBEq, Nat.reduceEqDiff, ↓reduceIte, Nat.reduceAdd, Nat.reduceSub]
  (refine zF (op_ia_sl _ _ rfl rfl rfl rfl Tryz.underlying42 rfl (by omega) (by exact yH) rfl) ?_); try simp only [nA, Nat.reduceBEq, Nat.reduceEqDiff, ↓reduceIte, Nat.reduceAdd, Nat.reduceSub]
  (refine zF (zH rfl rfl rfl fl33_0 (by exact sz3) (by decide) rfl) ?_); try simp only [nA, Nat.reduceBEq, Nat.reduceEqDiff, ↓reduceIte, Nat.reduceAdd, Nat.reduceSub]
  refine yB (z8 rfl rfl rfl rfl (yO (f := oav) hix) rfl sz3 rfl (bl rfl) (oav_set (c' := { (xs.getD (yC l k xs.length) default) with number := yD l (zM l (zM l k)) [0, 1, 999, 1000] }) rfl)) ?_; try simp only [nA, Nat.reduceBEq, Nat.reduceEqDiff, ↓reduceIte, Nat.reduceAdd, Nat.reduceSub]
  refine zE ?_
  (try simp only [zJ, zK, Nat.reduceEqDiff, ↓reduceIte])
  refine hK _ ?_; clear hK K
  refine zA fun K hK => zB ?_
  refine zF (zC rfl rfl) ?_; simp only [nA, ↓reduceIte]
  refine zF (zD rfl rfl) ?_; simp only [nA]
  refine zE (hK _ ?_); clear hK K
  refine AW.gh (Gh.freezeN 4 (bl rfl) rfl rfl (by simpa using flat2_cons (xs.set (yC l k xs.length) { (xs.getD (yC l k xs.length) default) with number := yD l (zM l (zM l k)) [0, 1, 999, 1000] }) []) (es' := (xs.set (yC l k xs.length) { (xs.getD (yC l k xs.length) default) with number := yD l (zM l (zM l k)) [0, 1, 999, 1000] }).map Container.av) (by rw [List.take_of_length_le (by simp)]; simpa using fz_cons (xs.set (yC l k xs.length) { (xs.getD (yC l k xs.length) default) with number := yD l (zM l (zM l k)) [0, 1, 999, 1000] }) [])) ?_; try simp only [nA, Nat.reduceBEq, Nat.reduceEqDiff, ↓reduceIte, Nat.reduceAdd, Nat.reduceSub]
  refine zO ?_; (try simp only [zJ, zK, Nat.reduceEqDiff, ↓reduceIte]); rw [show spoilV l k xs = (zM l (zM l (zM l k)), xs.set (yC l k xs.length) { (xs.getD (yC l k xs.length) default) with number := yD l (zM l (zM l k)) [0, 1, 999, 1000] }) by unfold spoilV spF; rw [if_neg (by omega)]; simp only []; rw [if_pos hc3]]; exact RQ.of (.inl rfl) rfl (.tmp (bl rfl) rfl rfl .nil) (by simp) rfl (one_out rfl)
 (try simp only [zY] at hc); have hc3 := hc
 refine zA fun K hK => zB ?_
 (refine zF (op_eql rfl rfl rfl) ?_); try simp only [nA, Nat.reduceBEq, Nat.reduceEqDiff, ↓reduceIte, Nat.reduceAdd, Nat.reduceSub]
 refine zF (zD rfl rfl) ?_; simp only [nA]
 refine zE (hK _ ?_); clear hK K
 refine zL rfl rfl rfl (fun hc => ?_) (fun hc => ?_)
 ·
  (try simp only [zY] at hc); have hc4 := hc
  refine zB ?_
  refine zF (zC rfl rfl) ?_; simp only [nA, ↓reduceIte]
  refine zF (zC rfl rfl) ?_; simp only [nA, ↓reduceIte]
  refine zF (zC rfl rfl) ?_; simp only [nA, ↓reduceIte]
  refine yB (zV rfl [(0, iv (-1)), (1, iv 31), (2, iv 32)] (([-1, 31, 32] : List Int).map iv) Tryz.underlying36 ze3 rfl (by simp) (fold_dense 1 (([-1, 31, 32] : List Int).map iv) (iv_len _)) (iv_len _) rfl (bl rfl) (by simp [maxLen])) ?_; (simp only [nA, Nat.reduceBEq, Nat.reduceEqDiff, ↓reduceIte]); refine AWL.gh (Gh.freeze 60 (bl rfl) rfl rfl (iv_flat [-1, 31, 32]) (es' := ([-1, 31, 32] : List Int).map iv) rfl) ?_; try simp only [nA, Nat.reduceBEq, Nat.reduceEqDiff, ↓reduceIte, Nat.reduceAdd, Nat.reduceSub]
  refine yB (yN rfl en29 (C29 (xs := [-1, 31, 32]) hl (by decide) (by decide)) (by exact rfl) (RL.cons .ptr (RL.cons (.base (by exact View.same rfl)) (RL.nil))) (by exact ⟨_, _, _, rfl, rfl, rfl⟩) (by exact rfl) (by exact rfl) (by exact rfl)) ?_; try simp only [nA, Nat.reduceBEq, Nat.reduceEqDiff, ↓reduceIte, Nat.reduceAdd, Nat.reduceSub]
  (refine zF (op_ia_sl _ _ rfl rfl rfl rfl Tryz.underlying42 rfl (by omega) (by exact yH) rfl) ?_); try simp only [nA, Nat.reduceBEq, Nat.reduceEqDiff, ↓reduceIte, Nat.reduceAdd, Nat.reduceSub]
  (refine zF (zH rfl rfl rfl fl33_2 (by exact sz3) (by decide) rfl) ?_); try simp only [nA, Nat.reduceBEq, Nat.reduceEqDiff, ↓reduceIte, Nat.reduceAdd, Nat.reduceSub]
  refine yB (z8 rfl rfl rfl rfl (yO (f := oav) hix) rfl sz3 rfl (bl rfl) (oav_set (c' := { (xs.getD (yC l k xs.length) default) with categories := yD l (zM l (zM l k)) [-1, 31, 32] }) rfl)) ?_; try simp only [nA, Nat.reduceBEq, Nat.reduceEqDiff, ↓reduceIte, Nat.reduceAdd, Nat.reduceSub]
  refine zE ?_
  (try simp only [zJ, zK, Nat.reduceEqDiff, ↓reduceIte])
  refine hK _ ?_; clear hK K
  refine zA fun K hK => zB ?_
  refine zF (zC rfl rfl) ?_; simp only [nA, ↓reduceIte]
  refine zF (zD rfl rfl) ?_; simp only [nA]
  refine zE (hK _ ?_); clear hK K
  refine AW.gh (Gh.freezeN 4 (bl rfl) rfl rfl (by simpa using flat2_cons (xs.set (yC l k xs.length) { (xs.getD (yC l k xs.length) default) with categories := yD l (zM l (zM l k)) [-1, 31, 32] }) []) (es' := (xs.set (yC l k xs.length) { (xs.getD (yC l k xs.length) default) with categories := yD l (zM l (zM l k)) [-1, 31, 32] }).map Container.av) (by rw [List.take_of_length_le (by simp)]; simpa using fz_cons (xs.set (yC l k xs.length) { (xs.getD (yC l k xs.length) default) with categories := yD l (zM l (zM l k)) [-1, 31, 32] }) [])) ?_; try simp only [nA, Nat.reduceBEq, Nat.reduceEqDiff, ↓reduceIte, Nat.reduceAdd, Nat.reduceSub]
  refine zO ?_; (try simp only [zJ, zK, Nat.reduceEqDiff, ↓reduceIte]); rw [show spoilV l k xs = (zM l (zM l (zM l k)), xs.set (yC l k xs.length) { (xs.getD (yC l k xs.length) default) with categories := yD l (zM l (zM l k)) [-1, 31, 32] }) by unfold spoilV spF; rw [if_neg (by omega)]; simp only []; rw [if_neg hc3, if_pos hc4]]; exact RQ.of (.inl rfl) rfl (.tmp (bl rfl) rfl rfl .nil) (by simp) rfl (one_out rfl)
 (try simp only [zY] at hc); have hc4 := hc
 refine zA fun K hK => zB ?_
 (refine zF (op_eql rfl rfl rfl) ?_); try simp only [nA, Nat.reduceBEq, Nat.reduceEqDiff, ↓reduceIte, Nat.reduceAdd, Nat.reduceSub]
 refine zF (zD rfl rfl) ?_; simp only [nA]
 refine zE (hK _ ?_); clear hK K
 refine zL rfl rfl rfl (fun hc => ?_) (fun hc => ?_)
 ·
  (try simp only [zY] at hc); have hc5 := hc
  refine zB ?_
  refine zF (zC rfl rfl) ?_; simp only [nA, ↓reduceIte]
  refine zF (zC rfl rfl) ?_; simp only [nA, ↓reduceIte]
  refine zF (zC rfl rfl) ?_; simp only [nA, ↓reduceIte]
  refine yB (zV rfl [(0, iv (-1)), (1, iv 0), (2, iv 20000), (3, iv 20001)] (([-1, 0, 20000, 20001] : List Int).map iv) Tryz.underlying36 ze3 rfl (by simp) (fold_dense 1 (([-1, 0, 20000, 20001] : List Int).map iv) (iv_len _)) (iv_len _) rfl (bl rfl) (by simp [maxLen])) ?_; (simp only [nA, Nat.reduceBEq, Nat.reduceEqDiff, ↓reduceIte]); refine AWL.gh (Gh.freeze 69 (bl rfl) rfl rfl (iv_flat [-1, 0, 20000, 20001]) (es' := ([-1, 0, 20000, 20001] : List Int).map iv) rfl) ?_; try simp only [nA, Nat.reduceBEq, Nat.reduceEqDiff, ↓reduceIte, Nat.reduceAdd, Nat.reduceSub]
  refine yB (yN rfl en29 (C29 (xs := [-1, 0, 20000, 20001]) hl (by decide) (by decide)) (by exact rfl) (RL.cons .ptr (RL.cons (.base (by exact View.same rfl)) (RL.nil))) (by exact ⟨_, _, _, rfl, rfl, rfl⟩) (by exact rfl) (by exact rfl) (by exact rfl)) ?_; try simp only [nA, Nat.reduceBEq, Nat.reduceEqDiff, ↓reduceIte, Nat.reduceAdd, Nat.reduceSub]
  (refine zF (op_ia_sl _ _ rfl rfl rfl rfl Tryz.underlying42 rfl (by omega) (by exact yH) rfl) ?_); try simp only [nA, Nat.reduceBEq, Nat.reduceEqDiff, ↓reduceIte, Nat.reduceAdd, Nat.reduceSub]
  (refine zF (zH rfl rfl rfl fl33_3 (by exact sz3) (by decide) rfl) ?_); try simp only [nA, Nat.reduceBEq, Nat.reduceEqDiff, ↓reduceIte, Nat.reduceAdd, Nat.reduceSub]
  refine yB (z8 rfl rfl rfl rfl (yO (f := oav) hix) rfl sz3 rfl (bl rfl) (oav_set (c' := { (xs.getD (yC l k xs.length) default) with limit := yD l (zM l (zM l k)) [-1, 0, 20000, 20001] }) rfl)) ?_; try simp only [nA, Nat.reduceBEq, Nat.reduceEqDiff, ↓reduceIte, Nat.reduceAdd, Nat.reduceSub]
  refine zE ?_
  (try simp only [zJ, zK, Nat.reduceEqDiff, ↓reduceIte])
  refine hK _ ?_; clear hK K
  refine zA fun K hK => zB ?_
  refine zF (zC rfl rfl) ?_; simp only [nA, ↓reduceIte]
  refine zF (zD rfl rfl) ?_; simp only [nA]
  refine zE (hK _ ?_); clear hK K
  refine AW.gh (Gh.freezeN 4 (bl rfl) rfl rfl (by simpa using flat2_cons (xs.set (yC l k xs.length) { (xs.getD (yC l k xs.length) default) with limit := yD l (zM l (zM l k)) [-1, 0, 20000, 20001] }) []) (es' := (xs.set (yC l k xs.length) { (xs.getD (yC l k xs.length) default) with limit := yD l (zM l (zM l k)) [-1, 0, 20000, 20001] }).map Container.av) (by rw [List.take_of_length_le (by simp)]; simpa using fz_cons (xs.set (yC l k xs.length) { (xs.getD (yC l k xs.length) default) with limit := yD l (zM l (zM l k)) [-1, 0, 20000, 20001] }) [])) ?_; try simp only [nA, Nat.reduceBEq, Nat.reduceEqDiff, ↓reduceIte, Nat.reduceAdd, Nat.reduceSub]
  refine zO ?_; (try simp only [zJ, zK, Nat.reduceEqDiff, ↓reduceIte]); rw [show spoilV l k xs = (zM l (zM l (zM l k)), xs.set (yC l k xs.length) { (xs.getD (yC l k xs.length) default) with limit := yD l (zM l (zM l k)) [-1, 0, 20000, 20001] }) by unfold spoilV spF; rw [if_neg (by omega)]; simp only []; rw [if_neg hc3, if_neg hc4, if_pos hc5]]; exact RQ.of (.inl rfl) rfl (.tmp (bl rfl) rfl rfl .nil) (by simp) rfl (one_out rfl)
 (try simp only [zY] at hc); have hc5 := hc
 refine zA fun K hK => zB ?_
 (refine zF (op_eql rfl rfl rfl) ?_); try simp only [nA, Nat.reduceBEq, Nat.reduceEqDiff, ↓reduceIte, Nat.reduceAdd, Nat.reduceSub]
 refine zF (zD rfl rfl) ?_; simp only [nA]
 refine zE (hK _ ?_); clear hK K
 refine zL rfl rfl rfl (fun hc => ?_) (fun hc => ?_)
 ·
  (try simp only [zY] at hc); have hc6 := hc
  refine zB ?_
  refine zF (zC rfl rfl) ?_; simp only [nA, ↓reduceIte]
  refine zF (zC rfl rfl) ?_; simp only [nA, ↓reduceIte]
  refine zF (zC rfl rfl) ?_; simp only [nA, ↓reduceIte]
  refine yB (zV rfl [(0, iv (-1)), (1, iv 1), (2, iv 24), (3, iv 25)] (([-1, 1, 24, 25] : List Int).map iv) Tryz.underlying36 ze3 rfl (by simp) (fold_dense 1 (([-1, 1, 24, 25] : List Int).map iv) (iv_len _)) (iv_len _) rfl (bl rfl) (by simp [maxLen])) ?_; (simp only [nA, Nat.reduceBEq, Nat.reduceEqDiff, ↓reduceIte]); refine AWL.gh (Gh.freeze 78 (bl rfl) rfl rfl (iv_flat [-1, 1, 24, 25]) (es' := ([-1, 1, 24, 25] : List Int).map iv) rfl) ?_; try simp only [nA, Nat.reduceBEq, Nat.reduceEqDiff, ↓reduceIte, Nat.reduceAdd, Nat.reduceSub]
  refine yB (yN rfl en29 (C29 (xs := [-1, 1, 24, 25]) hl (by decide) (by decide)) (by exact rfl) (RL.cons .ptr (RL.cons (.base (by exact View.same rfl)) (RL.nil))) (by exact ⟨_, _, _, rfl, rfl, rfl⟩) (by exact rfl) (by exact rfl) (by exact rfl)) ?_; try simp only [nA, Nat.reduceBEq, Nat.reduceEqDiff, ↓reduceIte, Nat.reduceAdd, Nat.reduceSub]
  (refine zF (op_ia_sl _ _ rfl rfl rfl rfl Tryz.underlying42 rfl (by omega) (by exact yH) rfl) ?_); try simp only [nA, Nat.reduceBEq, Nat.reduceEqDiff, ↓reduceIte, Nat.reduceAdd, Nat.reduceSub]
  (refine zF (zH rfl rfl rfl fl33_5 (by exact sz3) (by decide) rfl) ?_); try simp only [nA, Nat.reduceBEq, Nat.reduceEqDiff, ↓reduceIte, Nat.reduceAdd, Nat.reduceSub]
  refine yB (z8 rfl rfl rfl rfl (yO (f := oav) hix) rfl sz3 rfl (bl rfl) (oav_set (c' := { (xs.getD (yC l k xs.length) default) with position := yD l (zM l (zM l k)) [-1, 1, 24, 25] }) rfl)) ?_; try simp only [nA, Nat.reduceBEq, Nat.reduceEqDiff, ↓reduceIte, Nat.reduceAdd, Nat.reduceSub]
  refine zE ?_
  (try simp only [zJ, zK, Nat.reduceEqDiff, ↓reduceIte])
  refine hK _ ?_; clear hK K
  refine zA fun K hK => zB ?_
  refine zF (zC rfl rfl) ?_; simp only [nA, ↓reduceIte]
  refine zF (zD rfl rfl) ?_; simp only [nA]
  refine zE (hK _ ?_); clear hK K
  refine AW.gh (Gh.freezeN 4 (bl rfl) rfl rfl (by simpa using flat2_cons (xs.set (yC l k xs.length) { (xs.getD (yC l k xs.length) default) with position := yD l (zM l (zM l k)) [-1, 1, 24, 25] }) []) (es' := (xs.set (yC l k xs.length) { (xs.getD (yC l k xs.length) default) with position := yD l (zM l (zM l k)) [-1, 1, 24, 25] }).map Container.av) (by rw [List.take_of_length_le (by simp)]; simpa using fz_cons (xs.set (yC l k xs.length) { (xs.getD (yC l k xs.length) default) with position := yD l (zM l (zM l k)) [-1, 1, 24, 25] }) [])) ?_; try simp only [nA, Nat.reduceBEq, Nat.reduceEqDiff, ↓reduceIte, Nat.reduceAdd, Nat.reduceSub]
  refine zO ?_; (try simp only [zJ, zK, Nat.reduceEqDiff, ↓reduceIte]); rw [show spoilV l k xs = (zM l (zM l (zM l k)), xs.set (yC l k xs.length) { (xs.getD (yC l k xs.length) default) with position := yD l (zM l (zM l k)) [-1, 1, 24, 25] }) by unfold spoilV spF; rw [if_neg (by omega)]; simp only []; rw [if_neg hc3, if_neg hc4, if_neg hc5, if_pos hc6]]; exact RQ.of (.inl rfl) rfl (.tmp (bl rfl) rfl rfl .nil) (by simp) rfl (one_out rfl)
 (try simp only [zY] at hc); have hc6 := hc
 refine zA fun K hK => zB ?_
 (refine zF (op_eql rfl rfl rfl) ?_); try simp only [nA, Nat.reduceBEq, Nat.reduceEqDiff, ↓reduceIte, Nat.reduceAdd, Nat.reduceSub]
 refine zF (zD rfl rfl) ?_; simp only [nA]
 refine zE (hK _ ?_); clear hK K
 refine zL rfl rfl rfl (fun hc => ?_) (fun hc => ?_)
 ·
  (try simp only [zY] at hc); have hc7 := hc
  refine zB ?_
  refine zF (zC rfl rfl) ?_; simp only [nA, ↓reduceIte]
  refine zF (zC rfl rfl) ?_; simp only [nA, ↓reduceIte]
  refine zF (zC rfl rfl) ?_; simp only [nA, ↓reduceIte]
  refine yB (zV rfl [(0, iv (-51)), (1, iv (-50)), (2, iv 50), (3, iv 51)] (([-51, -50, 50, 51] : List Int).map iv) Tryz.underlying36 ze3 rfl (by simp) (fold_dense 1 (([-51, -50, 50, 51] : List Int).map iv) (iv_len _)) (iv_len _) rfl (bl rfl) (by simp [maxLen])) ?_; (simp only [nA, Nat.reduceBEq, Nat.reduceEqDiff, ↓reduceIte]); refine AWL.gh (Gh.freeze 87 (bl rfl) rfl rfl (iv_flat [-51, -50, 50, 51]) (es' := ([-51, -50, 50, 51] : List Int).map iv) rfl) ?_; try simp only [nA, Nat.reduceBEq, Nat.reduceEqDiff, ↓reduceIte, Nat.reduceAdd, Nat.reduceSub]
  refine yB (yN rfl en29 (C29 (xs := [-51, -50, 50, 51]) hl (by decide) (by decide)) (by exact rfl) (RL.cons .ptr (RL.cons (.base (by exact View.same rfl)) (RL.nil))) (by exact ⟨_, _, _, rfl, rfl, rfl⟩) (by exact rfl) (by exact rfl) (by exact rfl)) ?_; try simp only [nA, Nat.reduceBEq, Nat.reduceEqDiff, ↓reduceIte, Nat.reduceAdd, Nat.reduceSub]
  (refine zF (op_ia_sl _ _ rfl rfl rfl rfl Tryz.underlying42 rfl (by omega) (by exact yH) rfl) ?_); try simp only [nA, Nat.reduceBEq, Nat.reduceEqDiff, ↓reduceIte, Nat.reduceAdd, Nat.reduceSub]
  (refine zF (zH rfl rfl rfl fl33_6 (by exact sz3) (by decide) rfl) ?_); try simp only [nA, Nat.reduceBEq, Nat.reduceEqDiff, ↓reduceIte, Nat.reduceAdd, Nat.reduceSub]
  refine yB (z8 rfl rfl rfl rfl (yO (f := oav) hix) rfl sz3 rfl (bl rfl) (oav_set (c' := { (xs.getD (yC l k xs.length) default) with arm := yD l (zM l (zM l k)) [-51, -50, 50, 51] }) rfl)) ?_; try simp only [nA, Nat.reduceBEq, Nat.reduceEqDiff, ↓reduceIte, Nat.reduceAdd, Nat.reduceSub]
  refine zE ?_
  (try simp only [zJ, zK, Nat.reduceEqDiff, ↓reduceIte])
  refine hK _ ?_; clear hK K
  refine zA fun K hK => zB ?_
  refine zF (zC rfl rfl) ?_; simp only [nA, ↓reduceIte]
  refine zF (zD rfl rfl) ?_; simp only [nA]
  refine zE (hK _ ?_); clear hK K
  refine AW.gh (Gh.freezeN 4 (bl rfl) rfl rfl (by simpa using flat2_cons (xs.set (yC l k xs.length) { (xs.getD (yC l k xs.length) default) with arm := yD l (zM l (zM l k)) [-51, -50, 50, 51] }) []) (es' := (xs.set (yC l k xs.length) { (xs.getD (yC l k xs.length) default) with arm := yD l (zM l (zM l k)) [-51, -50, 50, 51] }).map Container.av) (by rw [List.take_of_length_le (by simp)]; simpa using fz_cons (xs.set (yC l k xs.length) { (xs.getD (yC l k xs.length) default) with arm := yD l (zM l (zM l k)) [-51, -50, 50, 51] }) [])) ?_; try simp only [nA, Nat.reduceBEq, Nat.reduceEqDiff, ↓reduceIte, Nat.reduceAdd, Nat.reduceSub]
  refine zO ?_; (try simp only [zJ, zK, Nat.reduceEqDiff, ↓reduceIte]); rw [show spoilV l k xs = (zM l (zM l (zM l k)), xs.set (yC l k xs.length) { (xs.getD (yC l k xs.length) default) with arm := yD l (zM l (zM l k)) [-51, -50, 50, 51] }) by unfold spoilV spF; rw [if_neg (by omega)]; simp only []; rw [if_neg hc3, if_neg hc4, if_neg hc5, if_neg hc6, if_pos hc7]]; exact RQ.of (.inl rfl) rfl (.tmp (bl rfl) rfl rfl .nil) (by simp) rfl (one_out rfl)
 (try simp only [zY] at hc); have hc7 := hc
 refine zA fun K hK => zB ?_
 (refine zF (op_eql rfl rfl rfl) ?_); try simp only [nA, Nat.reduceBEq, Nat.reduceEqDiff, ↓reduceIte, Nat.reduceAdd, Nat.reduceSub]
 refine zF (zD rfl rfl) ?_; simp only [nA]
 refine zE (hK _ ?_); clear hK K
 refine zL rfl rfl rfl (fun hc => ?_) (fun hc => ?_)
 ·
  (try simp only [zY] at hc); have hc8 := hc
  have hcl9 : (xs.getD (yC l k xs.length) default).pieces.length ≤ 1000 := hbD _ hix
  refine AW.ghE (GhE.unnest (r := 1) (row := oav (xs.getD (yC l k xs.length) default)) (yC l k xs.length) 10 rfl (yO (f := oav) hix) rfl) ?_; intro u hu; try simp only [nA, Nat.reduceBEq, Nat.reduceEqDiff, ↓reduceIte, Nat.reduceAdd, Nat.reduceSub]
  refine AW.aeo (fun T' => T'.slots[1]? = some (v, .own 33 ((xs.map oav).set (yC l k xs.length) ((oav (xs.getD (yC l k xs.length) default)).set 10 (.v u))))) mix rfl ?_
  refine aePo 0 rfl (fun T' ok => zC rfl rfl) rfl (by kernel_rfl) (by kernel_rfl) ?_; simp only [nA, Nat.reduceBEq, Nat.reduceEqDiff, ↓reduceIte]
  refine aePo 1 rfl (fun T' ok => zC rfl rfl) rfl (by kernel_rfl) (by kernel_rfl) ?_; simp only [nA, ↓reduceIte]
  refine aePo 2 rfl (fun T' ok => zC rfl rfl) rfl (by kernel_rfl) (by kernel_rfl) ?_; simp only [nA, ↓reduceIte]
  refine aePo 3 rfl (fun T' ok => zC rfl rfl) rfl (by kernel_rfl) (by kernel_rfl) ?_; simp only [nA, ↓reduceIte]
  refine aePo 4 rfl (fun T' ok => (op_ia_sl (yC l k xs.length) 11 rfl rfl rfl ok Tryz.underlying42 rfl (by omega) (by exact yH) (Nat.zero_add _))) rfl (by kernel_rfl) (by kernel_rfl) ?_; try simp only [nA, Nat.reduceBEq, Nat.reduceEqDiff, ↓reduceIte, Nat.reduceAdd, Nat.reduceSub]
  refine aePo 5 rfl (fun T' ok => (zH rfl rfl ok fl33_7 (by exact sz31) (by decide) rfl)) rfl (by kernel_rfl) (by kernel_rfl) ?_; try simp only [nA, Nat.reduceBEq, Nat.reduceEqDiff, ↓reduceIte, Nat.reduceAdd, Nat.reduceSub]
  refine aeRo 6 rfl (fun T' ok => zG (row := ((oav (xs.getD (yC l k xs.length) default)).set 10 (.v u))) rfl rfl ok (by simp [hix]) ag31 rfl rfl) rfl (by kernel_rfl) (by kernel_rfl) ?_; try simp only [nA, Nat.reduceBEq, Nat.reduceEqDiff, ↓reduceIte, Nat.reduceAdd, Nat.reduceSub]
  refine aePo 7 rfl (fun T' ok => zC rfl rfl) rfl (by kernel_rfl) (by kernel_rfl) ?_; simp only [nA, ↓reduceIte]
  refine aeJo 8 rfl (yN rfl en11 (C11 (l := l) (k := (zM l (zM l k))) (n := 9) hl (by decide)) (by exact rfl) (RL.cons .ptr (RL.cons (.base (by exact View.same rfl)) (RL.nil))) (by exact ⟨_, _, _, rfl, rfl, rfl⟩) (by exact rfl) (by exact rfl) (by exact rfl)) (by kernel_rfl) rfl ?_; try simp only [nA, Nat.reduceBEq, Nat.reduceEqDiff, ↓reduceIte, Nat.reduceAdd, Nat.reduceSub]
  refine aeJo 9 rfl (zV rfl [(0, (pieceV l (zM l (zM l k)) 9).av)] [(pieceV l (zM l (zM l k)) 9).av] Tryz.underlying31 ze35 rfl (by simp) rfl (by simp) rfl (bl rfl) (by simp [maxLen])) (by kernel_rfl) rfl ?_; simp only [nA, Nat.reduceBEq, Nat.reduceEqDiff, ↓reduceIte]
  refine aeJo 10 rfl (OpJ.nm (t := 99) (r := 2) rfl rfl (op_app (rows := [(pieceV l (zM l (zM l k)) 9).av]) rfl rfl rfl rfl (by simp) (.sl (es := [(pieceV l (zM l (zM l k)) 9).av]) rfl rfl) Tryz.underlying31 ze35 (by decide) (by simp) (by simp only [List.length_map, List.length_cons, List.length_nil]; omega) (by decide) (es' := ((xs.getD (yC l k xs.length) default).pieces ++ [(pieceV l (zM l (zM l k)) 9)]).map Piece.av) (by simp [ldc_v]) (n := ((xs.getD (yC l k xs.length) default).pieces ++ [(pieceV l (zM l (zM l k)) 9)]).length) (by simp))) (by kernel_rfl) rfl ?_; try simp only [nA, Nat.reduceBEq, Nat.reduceEqDiff, ↓reduceIte, Nat.reduceAdd, Nat.reduceSub]
  refine aePo 11 rfl (fun T' ok => (op_ia_sl (yC l k xs.length) 11 rfl rfl rfl ok Tryz.underlying42 rfl (by omega) (by exact yH) (Nat.zero_add _))) rfl (by kernel_rfl) (by kernel_rfl) ?_; try simp only [nA, Nat.reduceBEq, Nat.reduceEqDiff, ↓reduceIte, Nat.reduceAdd, Nat.reduceSub]
  refine aePo 12 rfl (fun T' ok => (zH rfl rfl ok fl33_7 (by exact sz31) (by decide) rfl)) rfl (by kernel_rfl) (by kernel_rfl) ?_; try simp only [nA, Nat.reduceBEq, Nat.reduceEqDiff, ↓reduceIte, Nat.reduceAdd, Nat.reduceSub]
  refine aeLo 13 rfl (op_store_nest (r := 1) (q := 2) rfl rfl rfl rfl (row := ((oav (xs.getD (yC l k xs.length) default)).set 10 (.v u))) (by simp [hix]) sz31 rfl (by decide) (by simp) (by simp) (cons_put hix _)) (by kernel_rfl) (by kernel_rfl) ?_; try simp only [nA, Nat.reduceBEq, Nat.reduceEqDiff, ↓reduceIte, Nat.reduceAdd, Nat.reduceSub]
  refine aeDoneo (by kernel_rfl) ?_
  (try simp only [zJ, zK, Nat.reduceEqDiff, ↓reduceIte]); refine hK _ ?_; clear hK K; (refine zA ?_; intro K hK); refine zB ?_; refine zF (zC rfl rfl) ?_; (simp only [nA, ↓reduceIte]); refine zF (zD rfl rfl) ?_; (simp only [nA]); refine zE ?_; refine hK _ ?_; clear hK K
  refine AW.gh (Gh.freezeN 4 (bl rfl) rfl rfl (by simpa using flat2_cons (xs.set (yC l k xs.length) (addP (xs.getD (yC l k xs.length) default) (pieceV l (zM l (zM l k)) 9))) []) (es' := (xs.set (yC l k xs.length) (addP (xs.getD (yC l k xs.length) default) (pieceV l (zM l (zM l k)) 9))).map Container.av) (by rw [List.take_of_length_le (by simp)]; simpa using fz_cons (xs.set (yC l k xs.length) (addP (xs.getD (yC l k xs.length) default) (pieceV l (zM l (zM l k)) 9))) [])) ?_; try simp only [nA, Nat.reduceBEq, Nat.reduceEqDiff, ↓reduceIte, Nat.reduceAdd, Nat.reduceSub]
  refine zO ?_; (try simp only [zJ, zK, Nat.reduceEqDiff, ↓reduceIte]); rw [show spoilV l k xs = (nx3 l (zM l (zM l k)), xs.set (yC l k xs.length) (addP (xs.getD (yC l k xs.length) default) (pieceV l (zM l (zM l k)) 9))) by unfold spoilV spF; rw [if_neg (by omega)]; simp only []; rw [if_neg hc3, if_neg hc4, if_neg hc5, if_neg hc6, if_neg hc7, if_pos hc8]]; exact RQ.of (.inl rfl) rfl (.tmp (bl rfl) rfl rfl .nil) (by simp) rfl (one_out rfl)
 (try simp only [zY] at hc); have hc8 := hc
 refine zA fun K hK => zB ?_
 (refine zF (op_eql rfl rfl rfl) ?_); try simp only [nA, Nat.reduceBEq, Nat.reduceEqDiff, ↓reduceIte, Nat.reduceAdd, Nat.reduceSub]
 refine zF (zD rfl rfl) ?_; simp only [nA]
 refine zE (hK _ ?_); clear hK K
 refine zL rfl rfl rfl (fun hc => ?_) (fun hc => ?_)
 ·
  (try simp only [zY] at hc); have hc9 := hc
  have hcl9 : (xs.getD (yC l k xs.length) default).pieces.length ≤ 1000 := hbD _ hix
  refine AW.ghE (GhE.unnest (r := 1) (row := oav (xs.getD (yC l k xs.length) default)) (yC l k xs.length) 10 rfl (yO (f := oav) hix) rfl) ?_; intro u hu; try simp only [nA, Nat.reduceBEq, Nat.reduceEqDiff, ↓reduceIte, Nat.reduceAdd, Nat.reduceSub]
  refine AW.aeo (fun T' => T'.slots[1]? = some (v, .own 33 ((xs.map oav).set (yC l k xs.length) ((oav (xs.getD (yC l k xs.length) default)).set 10 (.v u))))) mix rfl ?_
  refine aePo 0 rfl (fun T' ok => zC rfl rfl) rfl (by kernel_rfl) (by kernel_rfl) ?_; simp only [nA, Nat.reduceBEq, Nat.reduceEqDiff, ↓reduceIte]
  refine aePo 1 rfl (fun T' ok => zC rfl rfl) rfl (by kernel_rfl) (by kernel_rfl) ?_; simp only [nA, ↓reduceIte]
  refine aePo 2 rfl (fun T' ok => zC rfl rfl) rfl (by kernel_rfl) (by kernel_rfl) ?_; simp only [nA, ↓reduceIte]
  refine aePo 3 rfl (fun T' ok => zC rfl rfl) rfl (by kernel_rfl) (by kernel_rfl) ?_; simp only [nA, ↓reduceIte]
  refine aePo 4 rfl (fun T' ok => (op_ia_sl (yC l k xs.length) 11 rfl rfl rfl ok Tryz.underlying42 rfl (by omega) (by exact yH) (Nat.zero_add _))) rfl (by kernel_rfl) (by kernel_rfl) ?_; try simp only [nA, Nat.reduceBEq, Nat.reduceEqDiff, ↓reduceIte, Nat.reduceAdd, Nat.reduceSub]
  refine aePo 5 rfl (fun T' ok => (zH rfl rfl ok fl33_7 (by exact sz31) (by decide) rfl)) rfl (by kernel_rfl) (by kernel_rfl) ?_; try simp only [nA, Nat.reduceBEq, Nat.reduceEqDiff, ↓reduceIte, Nat.reduceAdd, Nat.reduceSub]
  refine aeRo 6 rfl (fun T' ok => zG (row := ((oav (xs.getD (yC l k xs.length) default)).set 10 (.v u))) rfl rfl ok (by simp [hix]) ag31 rfl rfl) rfl (by kernel_rfl) (by kernel_rfl) ?_; try simp only [nA, Nat.reduceBEq, Nat.reduceEqDiff, ↓reduceIte, Nat.reduceAdd, Nat.reduceSub]
  refine aePo 8 rfl (fun T' ok => zC rfl rfl) rfl (by kernel_rfl) (by kernel_rfl) ?_; simp only [nA, ↓reduceIte]
  refine aePo 11 rfl (fun T' ok => zC rfl rfl) rfl (by kernel_rfl) (by kernel_rfl) ?_; simp only [nA, ↓reduceIte]
  refine aeFo 7 rfl (fun T' ok => op_callS rfl en30 (C30 (i := 999)) (RL.cons (by exact View.same rfl) (RL.nil)) rfl rfl rfl) rfl (by kernel_rfl) (by kernel_rfl) ?_; try simp only [nA, Nat.reduceBEq, Nat.reduceEqDiff, ↓reduceIte, Nat.reduceAdd, Nat.reduceSub]
  refine aeJ2o 9 12 rfl rfl (zV rfl [(0, iv 0), (1, iv 1), (2, iv 999), (3, iv 1000)] (([0, 1, 999, 1000] : List Int).map iv) Tryz.underlying36 ze3 rfl (by simp) (fold_dense 1 (([0, 1, 999, 1000] : List Int).map iv) (iv_len _)) (iv_len _) rfl (bl rfl) (by simp [maxLen])) (zV rfl [(0, iv (-1)), (1, iv 4), (2, iv 5)] (([-1, 4, 5] : List Int).map iv) Tryz.underlying36 ze3 rfl (by simp) (fold_dense 1 (([-1, 4, 5] : List Int).map iv) (iv_len _)) (iv_len _) rfl (bl rfl) (by simp [maxLen])) (by kernel_rfl) rfl rfl ?_ ?_
  · (simp only [nA, Nat.reduceBEq, Nat.reduceEqDiff, ↓reduceIte])
    refine aeJ2o 10 12 rfl rfl (op_call2 rfl en29 (C29b (l := l) (k := (zM l (zM l k))) (xs := [0, 1, 999, 1000]) hl (by decide) (by decide)) (by exact rfl) (by exact rfl) (by decide) (RL.cons .ptr (RL.cons .sl RL.nil)) (by exact rfl) (by exact rfl) (by exact rfl) (by exact rfl) (by exact rfl)) (zV rfl [(0, iv (-1)), (1, iv 4), (2, iv 5)] (([-1, 4, 5] : List Int).map iv) Tryz.underlying36 ze3 rfl (by simp) (fold_dense 1 (([-1, 4, 5] : List Int).map iv) (iv_len _)) (iv_len _) rfl (bl rfl) (by simp [maxLen])) (by kernel_rfl) rfl rfl ?_ ?_
    · (try simp only [nA, Nat.reduceBEq, Nat.reduceEqDiff, ↓reduceIte, Nat.reduceAdd, Nat.reduceSub])
      refine aeJo 12 rfl (zV rfl [(0, iv (-1)), (1, iv 4), (2, iv 5)] (([-1, 4, 5] : List Int).map iv) Tryz.underlying36 ze3 rfl (by simp) (fold_dense 1 (([-1, 4, 5] : List Int).map iv) (iv_len _)) (iv_len _) rfl (bl rfl) (by simp [maxLen])) (by kernel_rfl) rfl ?_; simp only [nA, Nat.reduceBEq, Nat.reduceEqDiff, ↓reduceIte]
      refine aeJo 13 rfl (op_call2 rfl en29 (C29b (l := l) (k := zM l (zM l (zM l k))) (xs := [-1, 4, 5]) hl (by decide) (by decide)) (by exact rfl) (by exact rfl) (by decide) (RL.cons .ptr (RL.cons .sl RL.nil)) (by exact rfl) (by exact rfl) (by exact rfl) (by exact rfl) (by exact rfl)) (by kernel_rfl) rfl ?_; try simp only [nA, Nat.reduceBEq, Nat.reduceEqDiff, ↓reduceIte, Nat.reduceAdd, Nat.reduceSub]
      refine aePo 14 rfl (fun T' ok => op_build2 (xs := [_, _, _, _, _]) rfl pl35 ze35 [(0, [_, _, _]), (1, [_]), (2, [_])] rfl rfl rfl) rfl (by kernel_rfl) (by kernel_rfl) ?_; simp only [nA, ↓reduceIte]
      refine aeJo 15 rfl (zV rfl [(0, (⟨platesP 999, yD l (zM l (zM l k)) [0, 1, 999, 1000], yD l (zM l (zM l (zM l k))) [-1, 4, 5]⟩ : Piece).av)] [(⟨platesP 999, yD l (zM l (zM l k)) [0, 1, 999, 1000], yD l (zM l (zM l (zM l k))) [-1, 4, 5]⟩ : Piece).av] Tryz.underlying31 ze35 rfl (by simp) rfl (by simp) rfl (bl rfl) (by simp [maxLen])) (by kernel_rfl) rfl ?_; simp only [nA, Nat.reduceBEq, Nat.reduceEqDiff, ↓reduceIte]
      refine aeJo 16 rfl (OpJ.nm (t := 114) (r := 2) rfl rfl (op_app (rows := [(⟨platesP 999, yD l (zM l (zM l k)) [0, 1, 999, 1000], yD l (zM l (zM l (zM l k))) [-1, 4, 5]⟩ : Piece).av]) rfl rfl rfl rfl (by simp) (.sl (es := [(⟨platesP 999, yD l (zM l (zM l k)) [0, 1, 999, 1000], yD l (zM l (zM l (zM l k))) [-1, 4, 5]⟩ : Piece).av]) rfl rfl) Tryz.underlying31 ze35 (by decide) (by simp) (by simp only [List.length_map, List.length_cons, List.length_nil]; omega) (by decide) (es' := ((xs.getD (yC l k xs.length) default).pieces ++ [(⟨platesP 999, yD l (zM l (zM l k)) [0, 1, 999, 1000], yD l (zM l (zM l (zM l k))) [-1, 4, 5]⟩ : Piece)]).map Piece.av) (by simp [ldc_v]) (n := ((xs.getD (yC l k xs.length) default).pieces ++ [(⟨platesP 999, yD l (zM l (zM l k)) [0, 1, 999, 1000], yD l (zM l (zM l (zM l k))) [-1, 4, 5]⟩ : Piece)]).length) (by simp))) (by kernel_rfl) rfl ?_; try simp only [nA, Nat.reduceBEq, Nat.reduceEqDiff, ↓reduceIte, Nat.reduceAdd, Nat.reduceSub]
      refine aePo 17 rfl (fun T' ok => (op_ia_sl (yC l k xs.length) 11 rfl rfl rfl ok Tryz.underlying42 rfl (by omega) (by exact yH) (Nat.zero_add _))) rfl (by kernel_rfl) (by kernel_rfl) ?_; try simp only [nA, Nat.reduceBEq, Nat.reduceEqDiff, ↓reduceIte, Nat.reduceAdd, Nat.reduceSub]
      refine aePo 18 rfl (fun T' ok => (zH rfl rfl ok fl33_7 (by exact sz31) (by decide) rfl)) rfl (by kernel_rfl) (by kernel_rfl) ?_; try simp only [nA, Nat.reduceBEq, Nat.reduceEqDiff, ↓reduceIte, Nat.reduceAdd, Nat.reduceSub]
      refine aeLo 19 rfl (op_store_nest (r := 1) (q := 2) rfl rfl rfl rfl (row := ((oav (xs.getD (yC l k xs.length) default)).set 10 (.v u))) (by simp [hix]) sz31 rfl (by decide) (by simp) (by simp) (cons_put hix _)) (by kernel_rfl) (by kernel_rfl) ?_; try simp only [nA, Nat.reduceBEq, Nat.reduceEqDiff, ↓reduceIte, Nat.reduceAdd, Nat.reduceSub]
      refine aeDoneo (by kernel_rfl) ?_
      (try simp only [zJ, zK, Nat.reduceEqDiff, ↓reduceIte]); refine hK _ ?_; clear hK K; (refine zA ?_; intro K hK); refine zB ?_; refine zF (zC rfl rfl) ?_; (simp only [nA, ↓reduceIte]); refine zF (zD rfl rfl) ?_; (simp only [nA]); refine zE ?_; refine hK _ ?_; clear hK K
      refine AW.gh (Gh.freezeN 4 (bl rfl) rfl rfl (by simpa using flat2_cons (xs.set (yC l k xs.length) (addP (xs.getD (yC l k xs.length) default) (⟨platesP 999, yD l (zM l (zM l k)) [0, 1, 999, 1000], yD l (zM l (zM l (zM l k))) [-1, 4, 5]⟩ : Piece))) []) (es' := (xs.set (yC l k xs.length) (addP (xs.getD (yC l k xs.length) default) (⟨platesP 999, yD l (zM l (zM l k)) [0, 1, 999, 1000], yD l (zM l (zM l (zM l k))) [-1, 4, 5]⟩ : Piece))).map Container.av) (by rw [List.take_of_length_le (by simp)]; simpa using fz_cons (xs.set (yC l k xs.length) (addP (xs.getD (yC l k xs.length) default) (⟨platesP 999, yD l (zM l (zM l k)) [0, 1, 999, 1000], yD l (zM l (zM l (zM l k))) [-1, 4, 5]⟩ : Piece))) [])) ?_; try simp only [nA, Nat.reduceBEq, Nat.reduceEqDiff, ↓reduceIte, Nat.reduceAdd, Nat.reduceSub]
      refine zO ?_; (try simp only [zJ, zK, Nat.reduceEqDiff, ↓reduceIte]); rw [show spoilV l k xs = (nx2 l (zM l (zM l k)), xs.set (yC l k xs.length) (addP (xs.getD (yC l k xs.length) default) (⟨platesP 999, yD l (zM l (zM l k)) [0, 1, 999, 1000], yD l (zM l (zM l (zM l k))) [-1, 4, 5]⟩ : Piece))) by unfold spoilV spF; rw [if_neg (by omega)]; simp only []; rw [if_neg hc3, if_neg hc4, if_neg hc5, if_neg hc6, if_neg hc7, if_neg hc8, if_pos hc9]]; exact RQ.of (.inl rfl) rfl (.tmp (bl rfl) rfl rfl .nil) (by simp) rfl (one_out rfl)
    (simp only [nA, Nat.reduceBEq, Nat.reduceEqDiff, ↓reduceIte])
    refine aeJo 10 rfl (op_call2 rfl en29 (C29b (l := l) (k := (zM l (zM l k))) (xs := [0, 1, 999, 1000]) hl (by decide) (by decide)) (by exact rfl) (by exact rfl) (by decide) (RL.cons .ptr (RL.cons .sl RL.nil)) (by exact rfl) (by exact rfl) (by exact rfl) (by exact rfl) (by exact rfl)) (by kernel_rfl) rfl ?_; try simp only [nA, Nat.reduceBEq, Nat.reduceEqDiff, ↓reduceIte, Nat.reduceAdd, Nat.reduceSub]
    refine aeJo 13 rfl (op_call2 rfl en29 (C29b (l := l) (k := zM l (zM l (zM l k))) (xs := [-1, 4, 5]) hl (by decide) (by decide)) (by exact rfl) (by exact rfl) (by decide) (RL.cons .ptr (RL.cons .sl RL.nil)) (by exact rfl) (by exact rfl) (by exact rfl) (by exact rfl) (by exact rfl)) (by kernel_rfl) rfl ?_; try simp only [nA, Nat.reduceBEq, Nat.reduceEqDiff, ↓reduceIte, Nat.reduceAdd, Nat.reduceSub]
    refine aePo 14 rfl (fun T' ok => op_build2 (xs := [_, _, _, _, _]) rfl pl35 ze35 [(0, [_, _, _]), (1, [_]), (2, [_])] rfl rfl rfl) rfl (by kernel_rfl) (by kernel_rfl) ?_; simp only [nA, ↓reduceIte]
    refine aeJo 15 rfl (zV rfl [(0, (⟨platesP 999, yD l (zM l (zM l k)) [0, 1, 999, 1000], yD l (zM l (zM l (zM l k))) [-1, 4, 5]⟩ : Piece).av)] [(⟨platesP 999, yD l (zM l (zM l k)) [0, 1, 999, 1000], yD l (zM l (zM l (zM l k))) [-1, 4, 5]⟩ : Piece).av] Tryz.underlying31 ze35 rfl (by simp) rfl (by simp) rfl (bl rfl) (by simp [maxLen])) (by kernel_rfl) rfl ?_; simp only [nA, Nat.reduceBEq, Nat.reduceEqDiff, ↓reduceIte]
    refine aeJo 16 rfl (OpJ.nm (t := 114) (r := 2) rfl rfl (op_app (rows := [(⟨platesP 999, yD l (zM l (zM l k)) [0, 1, 999, 1000], yD l (zM l (zM l (zM l k))) [-1, 4, 5]⟩ : Piece).av]) rfl rfl rfl rfl (by simp) (.sl (es := [(⟨platesP 999, yD l (zM l (zM l k)) [0, 1, 999, 1000], yD l (zM l (zM l (zM l k))) [-1, 4, 5]⟩ : Piece).av]) rfl rfl) Tryz.underlying31 ze35 (by decide) (by simp) (by simp only [List.length_map, List.length_cons, List.length_nil]; omega) (by decide) (es' := ((xs.getD (yC l k xs.length) default).pieces ++ [(⟨platesP 999, yD l (zM l (zM l k)) [0, 1, 999, 1000], yD l (zM l (zM l (zM l k))) [-1, 4, 5]⟩ : Piece)]).map Piece.av) (by simp [ldc_v]) (n := ((xs.getD (yC l k xs.length) default).pieces ++ [(⟨platesP 999, yD l (zM l (zM l k)) [0, 1, 999, 1000], yD l (zM l (zM l (zM l k))) [-1, 4, 5]⟩ : Piece)]).length) (by simp))) (by kernel_rfl) rfl ?_; try simp only [nA, Nat.reduceBEq, Nat.reduceEqDiff, ↓reduceIte, Nat.reduceAdd, Nat.reduceSub]
    refine aePo 17 rfl (fun T' ok => (op_ia_sl (yC l k xs.length) 11 rfl rfl rfl ok Tryz.underlying42 rfl (by omega) (by exact yH) (Nat.zero_add _))) rfl (by kernel_rfl) (by kernel_rfl) ?_; try simp only [nA, Nat.reduceBEq, Nat.reduceEqDiff, ↓reduceIte, Nat.reduceAdd, Nat.reduceSub]
    refine aePo 18 rfl (fun T' ok => (zH rfl rfl ok fl33_7 (by exact sz31) (by decide) rfl)) rfl (by kernel_rfl) (by kernel_rfl) ?_; try simp only [nA, Nat.reduceBEq, Nat.reduceEqDiff, ↓reduceIte, Nat.reduceAdd, Nat.reduceSub]
    refine aeLo 19 rfl (op_store_nest (r := 1) (q := 2) rfl rfl rfl rfl (row := ((oav (xs.getD (yC l k xs.length) default)).set 10 (.v u))) (by simp [hix]) sz31 rfl (by decide) (by simp) (by simp) (cons_put hix _)) (by kernel_rfl) (by kernel_rfl) ?_; try simp only [nA, Nat.reduceBEq, Nat.reduceEqDiff, ↓reduceIte, Nat.reduceAdd, Nat.reduceSub]
    refine aeDoneo (by kernel_rfl) ?_
    (try simp only [zJ, zK, Nat.reduceEqDiff, ↓reduceIte]); refine hK _ ?_; clear hK K; (refine zA ?_; intro K hK); refine zB ?_; refine zF (zC rfl rfl) ?_; (simp only [nA, ↓reduceIte]); refine zF (zD rfl rfl) ?_; (simp only [nA]); refine zE ?_; refine hK _ ?_; clear hK K
    refine AW.gh (Gh.freezeN 4 (bl rfl) rfl rfl (by simpa using flat2_cons (xs.set (yC l k xs.length) (addP (xs.getD (yC l k xs.length) default) (⟨platesP 999, yD l (zM l (zM l k)) [0, 1, 999, 1000], yD l (zM l (zM l (zM l k))) [-1, 4, 5]⟩ : Piece))) []) (es' := (xs.set (yC l k xs.length) (addP (xs.getD (yC l k xs.length) default) (⟨platesP 999, yD l (zM l (zM l k)) [0, 1, 999, 1000], yD l (zM l (zM l (zM l k))) [-1, 4, 5]⟩ : Piece))).map Container.av) (by rw [List.take_of_length_le (by simp)]; simpa using fz_cons (xs.set (yC l k xs.length) (addP (xs.getD (yC l k xs.length) default) (⟨platesP 999, yD l (zM l (zM l k)) [0, 1, 999, 1000], yD l (zM l (zM l (zM l k))) [-1, 4, 5]⟩ : Piece))) [])) ?_; try simp only [nA, Nat.reduceBEq, Nat.reduceEqDiff, ↓reduceIte, Nat.reduceAdd, Nat.reduceSub]
    refine zO ?_; (try simp only [zJ, zK, Nat.reduceEqDiff, ↓reduceIte]); rw [show spoilV l k xs = (nx2 l (zM l (zM l k)), xs.set (yC l k xs.length) (addP (xs.getD (yC l k xs.length) default) (⟨platesP 999, yD l (zM l (zM l k)) [0, 1, 999, 1000], yD l (zM l (zM l (zM l k))) [-1, 4, 5]⟩ : Piece))) by unfold spoilV spF; rw [if_neg (by omega)]; simp only []; rw [if_neg hc3, if_neg hc4, if_neg hc5, if_neg hc6, if_neg hc7, if_neg hc8, if_pos hc9]]; exact RQ.of (.inl rfl) rfl (.tmp (bl rfl) rfl rfl .nil) (by simp) rfl (one_out rfl)
  (simp only [nA, Nat.reduceBEq, Nat.reduceEqDiff, ↓reduceIte])
  refine aeJo 9 rfl (zV rfl [(0, iv 0), (1, iv 1), (2, iv 999), (3, iv 1000)] (([0, 1, 999, 1000] : List Int).map iv) Tryz.underlying36 ze3 rfl (by simp) (fold_dense 1 (([0, 1, 999, 1000] : List Int).map iv) (iv_len _)) (iv_len _) rfl (bl rfl) (by simp [maxLen])) (by kernel_rfl) rfl ?_; simp only [nA, Nat.reduceBEq, Nat.reduceEqDiff, ↓reduceIte]
  refine aeJo 10 rfl (op_call2 rfl en29 (C29b (l := l) (k := (zM l (zM l k))) (xs := [0, 1, 999, 1000]) hl (by decide) (by decide)) (by exact rfl) (by exact rfl) (by decide) (RL.cons .ptr (RL.cons .sl RL.nil)) (by exact rfl) (by exact rfl) (by exact rfl) (by exact rfl) (by exact rfl)) (by kernel_rfl) rfl ?_; try simp only [nA, Nat.reduceBEq, Nat.reduceEqDiff, ↓reduceIte, Nat.reduceAdd, Nat.reduceSub]
  refine aeJo 13 rfl (op_call2 rfl en29 (C29b (l := l) (k := zM l (zM l (zM l k))) (xs := [-1, 4, 5]) hl (by decide) (by decide)) (by exact rfl) (by exact rfl) (by decide) (RL.cons .ptr (RL.cons .sl RL.nil)) (by exact rfl) (by exact rfl) (by exact rfl) (by exact rfl) (by exact rfl)) (by kernel_rfl) rfl ?_; try simp only [nA, Nat.reduceBEq, Nat.reduceEqDiff, ↓reduceIte, Nat.reduceAdd, Nat.reduceSub]
  refine aePo 14 rfl (fun T' ok => op_build2 (xs := [_, _, _, _, _]) rfl pl35 ze35 [(0, [_, _, _]), (1, [_]), (2, [_])] rfl rfl rfl) rfl (by kernel_rfl) (by kernel_rfl) ?_; simp only [nA, ↓reduceIte]
  refine aeJo 15 rfl (zV rfl [(0, (⟨platesP 999, yD l (zM l (zM l k)) [0, 1, 999, 1000], yD l (zM l (zM l (zM l k))) [-1, 4, 5]⟩ : Piece).av)] [(⟨platesP 999, yD l (zM l (zM l k)) [0, 1, 999, 1000], yD l (zM l (zM l (zM l k))) [-1, 4, 5]⟩ : Piece).av] Tryz.underlying31 ze35 rfl (by simp) rfl (by simp) rfl (bl rfl) (by simp [maxLen])) (by kernel_rfl) rfl ?_; simp only [nA, Nat.reduceBEq, Nat.reduceEqDiff, ↓reduceIte]
  refine aeJo 16 rfl (OpJ.nm (t := 114) (r := 2) rfl rfl (op_app (rows := [(⟨platesP 999, yD l (zM l (zM l k)) [0, 1, 999, 1000], yD l (zM l (zM l (zM l k))) [-1, 4, 5]⟩ : Piece).av]) rfl rfl rfl rfl (by simp) (.sl (es := [(⟨platesP 999, yD l (zM l (zM l k)) [0, 1, 999, 1000], yD l (zM l (zM l (zM l k))) [-1, 4, 5]⟩ : Piece).av]) rfl rfl) Tryz.underlying31 ze35 (by decide) (by simp) (by simp only [List.length_map, List.length_cons, List.length_nil]; omega) (by decide) (es' := ((xs.getD (yC l k xs.length) default).pieces ++ [(⟨platesP 999, yD l (zM l (zM l k)) [0, 1, 999, 1000], yD l (zM l (zM l (zM l k))) [-1, 4, 5]⟩ : Piece)]).map Piece.av) (by simp [ldc_v]) (n := ((xs.getD (yC l k xs.length) default).pieces ++ [(⟨platesP 999, yD l (zM l (zM l k)) [0, 1, 999, 1000], yD l (zM l (zM l (zM l k))) [-1, 4, 5]⟩ : Piece)]).length) (by simp))) (by kernel_rfl) rfl ?_; try simp only [nA, Nat.reduceBEq, Nat.reduceEqDiff, ↓reduceIte, Nat.reduceAdd, Nat.reduceSub]
  refine aePo 17 rfl (fun T' ok => (op_ia_sl (yC l k xs.length) 11 rfl rfl rfl ok Tryz.underlying42 rfl (by omega) (by exact yH) (Nat.zero_add _))) rfl (by kernel_rfl) (by kernel_rfl) ?_; try simp only [nA, Nat.reduceBEq, Nat.reduceEqDiff, ↓reduceIte, Nat.reduceAdd, Nat.reduceSub]
  refine aePo 18 rfl (fun T' ok => (zH rfl rfl ok fl33_7 (by exact sz31) (by decide) rfl)) rfl (by kernel_rfl) (by kernel_rfl) ?_; try simp only [nA, Nat.reduceBEq, Nat.reduceEqDiff, ↓reduceIte, Nat.reduceAdd, Nat.reduceSub]
  refine aeLo 19 rfl (op_store_nest (r := 1) (q := 2) rfl rfl rfl rfl (row := ((oav (xs.getD (yC l k xs.length) default)).set 10 (.v u))) (by simp [hix]) sz31 rfl (by decide) (by simp) (by simp) (cons_put hix _)) (by kernel_rfl) (by kernel_rfl) ?_; try simp only [nA, Nat.reduceBEq, Nat.reduceEqDiff, ↓reduceIte, Nat.reduceAdd, Nat.reduceSub]
  refine aeDoneo (by kernel_rfl) ?_
  (try simp only [zJ, zK, Nat.reduceEqDiff, ↓reduceIte]); refine hK _ ?_; clear hK K; (refine zA ?_; intro K hK); refine zB ?_; refine zF (zC rfl rfl) ?_; (simp only [nA, ↓reduceIte]); refine zF (zD rfl rfl) ?_; (simp only [nA]); refine zE ?_; refine hK _ ?_; clear hK K
  refine AW.gh (Gh.freezeN 4 (bl rfl) rfl rfl (by simpa using flat2_cons (xs.set (yC l k xs.length) (addP (xs.getD (yC l k xs.length) default) (⟨platesP 999, yD l (zM l (zM l k)) [0, 1, 999, 1000], yD l (zM l (zM l (zM l k))) [-1, 4, 5]⟩ : Piece))) []) (es' := (xs.set (yC l k xs.length) (addP (xs.getD (yC l k xs.length) default) (⟨platesP 999, yD l (zM l (zM l k)) [0, 1, 999, 1000], yD l (zM l (zM l (zM l k))) [-1, 4, 5]⟩ : Piece))).map Container.av) (by rw [List.take_of_length_le (by simp)]; simpa using fz_cons (xs.set (yC l k xs.length) (addP (xs.getD (yC l k xs.length) default) (⟨platesP 999, yD l (zM l (zM l k)) [0, 1, 999, 1000], yD l (zM l (zM l (zM l k))) [-1, 4, 5]⟩ : Piece))) [])) ?_; try simp only [nA, Nat.reduceBEq, Nat.reduceEqDiff, ↓reduceIte, Nat.reduceAdd, Nat.reduceSub]
  refine zO ?_; (try simp only [zJ, zK, Nat.reduceEqDiff, ↓reduceIte]); rw [show spoilV l k xs = (nx2 l (zM l (zM l k)), xs.set (yC l k xs.length) (addP (xs.getD (yC l k xs.length) default) (⟨platesP 999, yD l (zM l (zM l k)) [0, 1, 999, 1000], yD l (zM l (zM l (zM l k))) [-1, 4, 5]⟩ : Piece))) by unfold spoilV spF; rw [if_neg (by omega)]; simp only []; rw [if_neg hc3, if_neg hc4, if_neg hc5, if_neg hc6, if_neg hc7, if_neg hc8, if_pos hc9]]; exact RQ.of (.inl rfl) rfl (.tmp (bl rfl) rfl rfl .nil) (by simp) rfl (one_out rfl)
 (try simp only [zY] at hc); have hc9 := hc
 refine zA fun K hK => zB ?_
 (refine zF (op_eql rfl rfl rfl) ?_); try simp only [nA, Nat.reduceBEq, Nat.reduceEqDiff, ↓reduceIte, Nat.reduceAdd, Nat.reduceSub]
 refine zF (zD rfl rfl) ?_; simp only [nA]
 refine zE (hK _ ?_); clear hK K
 refine zL rfl rfl rfl (fun hc => ?_) (fun hc => ?_)
 ·
  (try simp only [zY] at hc); have hc10 := hc
  refine zB ?_
  refine zF (zC rfl rfl) ?_; simp only [nA, ↓reduceIte]
  refine zF (zC rfl rfl) ?_; simp only [nA, ↓reduceIte]
  refine zF (zC rfl rfl) ?_; simp only [nA, ↓reduceIte]
  refine yB (zV rfl [(0, iv (-1)), (1, iv 0), (2, iv 60), (3, iv 61)] (([-1, 0, 60, 61] : List Int).map iv) Tryz.underlying36 ze3 rfl (by simp) (fold_dense 1 (([-1, 0, 60, 61] : List Int).map iv) (iv_len _)) (iv_len _) rfl (bl rfl) (by simp [maxLen])) ?_; (simp only [nA, Nat.reduceBEq, Nat.reduceEqDiff, ↓reduceIte]); refine AWL.gh (Gh.freeze 132 (bl rfl) rfl rfl (iv_flat [-1, 0, 60, 61]) (es' := ([-1, 0, 60, 61] : List Int).map iv) rfl) ?_; try simp only [nA, Nat.reduceBEq, Nat.reduceEqDiff, ↓reduceIte, Nat.reduceAdd, Nat.reduceSub]
  refine yB (yN rfl en29 (C29 (xs := [-1, 0, 60, 61]) hl (by decide) (by decide)) (by exact rfl) (RL.cons .ptr (RL.cons (.base (by exact View.same rfl)) (RL.nil))) (by exact ⟨_, _, _, rfl, rfl, rfl⟩) (by exact rfl) (by exact rfl) (by exact rfl)) ?_; try simp only [nA, Nat.reduceBEq, Nat.reduceEqDiff, ↓reduceIte, Nat.reduceAdd, Nat.reduceSub]
  (refine zF (op_ia_sl _ _ rfl rfl rfl rfl Tryz.underlying42 rfl (by omega) (by exact yH) rfl) ?_); try simp only [nA, Nat.reduceBEq, Nat.reduceEqDiff, ↓reduceIte, Nat.reduceAdd, Nat.reduceSub]
  (refine zF (zH rfl rfl rfl fl33_4 (by exact sz3) (by decide) rfl) ?_); try simp only [nA, Nat.reduceBEq, Nat.reduceEqDiff, ↓reduceIte, Nat.reduceAdd, Nat.reduceSub]
  refine yB (z8 rfl rfl rfl rfl (yO (f := oav) hix) rfl sz3 rfl (bl rfl) (oav_set (c' := { (xs.getD (yC l k xs.length) default) with most := yD l (zM l (zM l k)) [-1, 0, 60, 61] }) rfl)) ?_; try simp only [nA, Nat.reduceBEq, Nat.reduceEqDiff, ↓reduceIte, Nat.reduceAdd, Nat.reduceSub]
  refine zE ?_
  (try simp only [zJ, zK, Nat.reduceEqDiff, ↓reduceIte])
  refine hK _ ?_; clear hK K
  refine zA fun K hK => zB ?_
  refine zF (zC rfl rfl) ?_; simp only [nA, ↓reduceIte]
  refine zF (zD rfl rfl) ?_; simp only [nA]
  refine zE (hK _ ?_); clear hK K
  refine AW.gh (Gh.freezeN 4 (bl rfl) rfl rfl (by simpa using flat2_cons (xs.set (yC l k xs.length) { (xs.getD (yC l k xs.length) default) with most := yD l (zM l (zM l k)) [-1, 0, 60, 61] }) []) (es' := (xs.set (yC l k xs.length) { (xs.getD (yC l k xs.length) default) with most := yD l (zM l (zM l k)) [-1, 0, 60, 61] }).map Container.av) (by rw [List.take_of_length_le (by simp)]; simpa using fz_cons (xs.set (yC l k xs.length) { (xs.getD (yC l k xs.length) default) with most := yD l (zM l (zM l k)) [-1, 0, 60, 61] }) [])) ?_; try simp only [nA, Nat.reduceBEq, Nat.reduceEqDiff, ↓reduceIte, Nat.reduceAdd, Nat.reduceSub]
  refine zO ?_; (try simp only [zJ, zK, Nat.reduceEqDiff, ↓reduceIte]); rw [show spoilV l k xs = (zM l (zM l (zM l k)), xs.set (yC l k xs.length) { (xs.getD (yC l k xs.length) default) with most := yD l (zM l (zM l k)) [-1, 0, 60, 61] }) by unfold spoilV spF; rw [if_neg (by omega)]; simp only []; rw [if_neg hc3, if_neg hc4, if_neg hc5, if_neg hc6, if_neg hc7, if_neg hc8, if_neg hc9, if_pos hc10]]; exact RQ.of (.inl rfl) rfl (.tmp (bl rfl) rfl rfl .nil) (by simp) rfl (one_out rfl)
 (try simp only [zY] at hc); have hc10 := hc
 refine zB ?_
 refine zF (zC rfl rfl) ?_; simp only [nA, ↓reduceIte]
 refine zF (zC rfl rfl) ?_; simp only [nA, ↓reduceIte]
 (refine zF (op_ia_sl _ _ rfl rfl rfl rfl Tryz.underlying42 rfl (by omega) (by exact yH) rfl) ?_); try simp only [nA, Nat.reduceBEq, Nat.reduceEqDiff, ↓reduceIte, Nat.reduceAdd, Nat.reduceSub]
 (refine zF (zH rfl rfl rfl fl33_1 (by exact sz25) (by decide) rfl) ?_); try simp only [nA, Nat.reduceBEq, Nat.reduceEqDiff, ↓reduceIte, Nat.reduceAdd, Nat.reduceSub]
 (refine zF (zH rfl rfl rfl fl25_3 (by exact sz3) (by decide) rfl) ?_); simp only [nA, Nat.reduceBEq, Nat.reduceEqDiff, ↓reduceIte]
 refine yB (z8 rfl rfl rfl rfl (yO (f := oav) hix) rfl sz3 rfl (bl rfl) (oav_set (c' := { (xs.getD (yC l k xs.length) default) with flight := { (xs.getD (yC l k xs.length) default).flight with day := -1 } }) rfl)) ?_; try simp only [nA, Nat.reduceBEq, Nat.reduceEqDiff, ↓reduceIte, Nat.reduceAdd, Nat.reduceSub]
 refine zE ?_
 (try simp only [zJ, zK, Nat.reduceEqDiff, ↓reduceIte])
 refine hK _ ?_; clear hK K
 refine zA fun K hK => zB ?_
 refine zF (zC rfl rfl) ?_; simp only [nA, ↓reduceIte]
 refine zF (zD rfl rfl) ?_; simp only [nA]
 refine zE (hK _ ?_); clear hK K
 refine AW.gh (Gh.freezeN 4 (bl rfl) rfl rfl (by simpa using flat2_cons (xs.set (yC l k xs.length) { (xs.getD (yC l k xs.length) default) with flight := { (xs.getD (yC l k xs.length) default).flight with day := -1 } }) []) (es' := (xs.set (yC l k xs.length) { (xs.getD (yC l k xs.length) default) with flight := { (xs.getD (yC l k xs.length) default).flight with day := -1 } }).map Container.av) (by rw [List.take_of_length_le (by simp)]; simpa using fz_cons (xs.set (yC l k xs.length) { (xs.getD (yC l k xs.length) default) with flight := { (xs.getD (yC l k xs.length) default).flight with day := -1 } }) [])) ?_; try simp only [nA, Nat.reduceBEq, Nat.reduceEqDiff, ↓reduceIte, Nat.reduceAdd, Nat.reduceSub]
 refine zO ?_; (try simp only [zJ, zK, Nat.reduceEqDiff, ↓reduceIte]); rw [show spoilV l k xs = ((zM l (zM l k)), xs.set (yC l k xs.length) { (xs.getD (yC l k xs.length) default) with flight := { (xs.getD (yC l k xs.length) default).flight with day := -1 } }) by unfold spoilV spF; rw [if_neg (by omega)]; simp only []; rw [if_neg hc3, if_neg hc4, if_neg hc5, if_neg hc6, if_neg hc7, if_neg hc8, if_neg hc9, if_neg hc10]]; exact RQ.of (.inl rfl) rfl (.tmp (bl rfl) rfl rfl .nil) (by simp) rfl (one_out rfl)
set_option maxRecDepth 100000
abbrev sv (s : ByteArray) : List AV := [.v (.string s)]
def textV (l : List Int) (k : Nat) (ss : List ByteArray) : ByteArray := ss.getD (gmod (rawV l k) (ss.length : Nat)).toNat default
abbrev carL : List ByteArray := [⟨#[83, 75]⟩, ⟨#[66, 65]⟩, ⟨#[76, 72]⟩]
abbrev flS (l : List Int) (k : Nat) : Flight := ⟨textV l k carL, 1 + gmod (rawV l (zM l k)) 3, ⟨#[]⟩, 1 + gmod (rawV l (zM l (zM l k))) 3⟩
inductive Sh where
 | int (k : IntKind)
 | str
 | bool
 | sl (row : List Sh)
inductive Mt : AV → Sh → Prop
 | int {k : IntKind} {n : Int} (h : (Lit.int k n).wf = true) : Mt (.v (.int k n)) (.int k)
 | str {s : ByteArray} (h : s.size ≤ maxLen) : Mt (.v (.string s)) .str
 | bool {b : Bool} : Mt (.v (.bool b)) .bool
 | sl {row : List Sh} {es : List (List AV)} (hs : es.length ≤ maxLen) (h : ∀ e ∈ es, e.length = row.length) (hc : ∀ e ∈ es, ∀ (i : Nat) (x : AV) (s : Sh), e[i]? = some x → row[i]? = some s → Mt x s) : Mt (.ro es) (.sl row)
theorem Mt.rows {es : List (List AV)} {row : List Sh} (h : Mt (.ro es) (.sl row)) : ∀ e ∈ es, RL Mt e row := by
 cases h with
 | sl hs h hc => exact fun e he => ⟨h e he, hc e he⟩
theorem rows_of {α : Type} {f : α → List AV} : ∀ {es : List (List AV)}, (∀ e ∈ es, ∃ p, e = f p) → ∃ ps : List α, es = ps.map f
 | [], _ => ⟨[], rfl⟩
 | e :: es, h => by
   obtain ⟨p, rfl⟩ := h e (by simp)
   obtain ⟨ps, rfl⟩ := rows_of (es := es) fun e he => h e (by simp [he])
   exact ⟨p :: ps, rfl⟩
def fieldsSh (sh : TypeId → Option (List Sh)) (P : Program) : Nat → List Field → Option (List Sh)
 | _, [] => some []
 | o, f :: fs => if f.offset = o then (sh f.type).bind fun r => if r.length = P.cellsOf f.type then (fieldsSh sh P (o + r.length) fs).map (r ++ ·) else none else none
def copies (r : List Sh) : Nat → List Sh
 | 0 => []
 | n + 1 => r ++ copies r n
def shOf (P : Program) : Nat → TypeId → Option (List Sh)
 | 0, _ => none
 | n + 1, t => match P.underlying t with
   | some (.int k) => some [.int k]
   | some .string => some [.str]
   | some .bool => some [.bool]
   | some (.slice e) => (shOf P n e).map fun r => [.sl r]
   | some (.struct fs) => (fieldsSh (shOf P n) P 0 fs.toList).bind fun r => if r.length = P.cellsOf t then some r else none
   | some (.array k e) => (shOf P n e).bind fun r => if r.length = P.cellsOf e ∧ P.cellsOf t = k * P.cellsOf e then some (copies r k) else none
   | _ => none
theorem RL.cons' {α β : Type} {R : α → β → Prop} {us : List α} {xs : List β} {u : α} (h : RL R (u :: us) xs) : ∃ x xs', xs = x :: xs' ∧ R u x ∧ RL R us xs' := by
 cases xs with
 | nil => have := h.1; simp at this
 | cons x xs => exact ⟨x, xs, rfl, h.2 0 u x rfl rfl, by have := h.1; simpa using this, fun i a b ha hb => h.2 (i + 1) a b (by simpa using ha) (by simpa using hb)⟩
theorem take_split {α : Type} (l : List α) (o m n : Nat) : (l.drop o).take (m + n) = (l.drop o).take m ++ (l.drop (o + m)).take n := by
 rw [List.take_add, List.drop_drop]
theorem flat_idx {α : Type} {sz : Nat} : ∀ {es : List (List α)}, (∀ e ∈ es, e.length = sz) → ∀ {j : Nat}, j < es.flatten.length → ∃ e u, es[j / sz]? = some e ∧ e[j % sz]? = some u ∧ es.flatten[j]? = some u
 | [], _, j, h => by simp at h
 | e :: es, hs, j, h => by
   have he : e.length = sz := hs e (by simp)
   have hs' : ∀ e ∈ es, e.length = sz := fun e he => hs e (by simp [he])
   rw [List.flatten_cons] at h ⊢
   by_cases hj : j < sz
   · rw [List.getElem?_append_left (by omega), Nat.div_eq_of_lt hj, Nat.mod_eq_of_lt hj]
     exact ⟨e, e[j]'(by omega), rfl, List.getElem?_eq_getElem _, List.getElem?_eq_getElem _⟩
   rw [List.length_append] at h
   obtain ⟨e1, u, h1, h2, h3⟩ := flat_idx hs' (j := j - sz) (by omega)
   have h0 : 0 < sz := by
     rcases Nat.eq_zero_or_pos sz with h0 | h0
     · subst h0
       have : es.flatten = [] := List.flatten_eq_nil_iff.2 fun e he => List.eq_nil_of_length_eq_zero (hs' e he)
       rw [this] at h
       simp at h
       omega
     exact h0
   rw [List.getElem?_append_right (by omega), he, Nat.div_eq_sub_div h0 (by omega), Nat.mod_eq_sub_mod (by omega)]
   exact ⟨e1, u, by simpa using h1, h2, h3⟩
section
variable {H : Type} {enc : TypeId × Value → H} {P : Program} {w : World} {base : Nat} {spare : Nat → Bool} {held : Bool}
theorem fields_open {S : Nat → Prop} {sh : TypeId → Option (List Sh)} {n : Nat} {cs : List Value} (ih : ∀ t cs x r, sh t = some r → DataW.trod enc P w base spare held n t cs = some x → ∃ xs, RL (Rep P S w []) cs xs ∧ RL Mt xs r) :
   ∀ (fs : List Field) (o : Nat) (r : List Sh), fieldsSh sh P o fs = some r → (∀ f ∈ fs, ∃ y, DataW.trod enc P w base spare held n f.type ((cs.drop f.offset).take (P.cellsOf f.type)) = some y) →
     ∃ xs, RL (Rep P S w []) ((cs.drop o).take r.length) xs ∧ RL Mt xs r
 | [], o, r, h, _ => by
   simp only [fieldsSh, Option.some.injEq] at h
   subst h
   exact ⟨[], by simpa using RL.nil, RL.nil⟩
 | f :: fs, o, r, h, hf => by
   unfold fieldsSh at h
   split at h
   · rename_i ho
     obtain ⟨r1, h1, h2⟩ := Option.bind_eq_some_iff.1 h
     split at h2
     · rename_i hl
       obtain ⟨r2, h3, h4⟩ := Option.map_eq_some_iff.1 h2
       subst h4
       obtain ⟨y, hy⟩ := hf f (by simp)
       obtain ⟨xs1, a1, a2⟩ := ih _ _ _ _ h1 hy
       obtain ⟨xs2, b1, b2⟩ := fields_open ih fs (o + r1.length) r2 h3 fun f hf' => hf f (by simp [hf'])
       refine ⟨xs1 ++ xs2, ?_, a2.append b2⟩
       rw [List.length_append, take_split]
       rw [ho, ← hl] at a1
       exact a1.append b1
     cases h2
   cases h
theorem copies_open {S : Nat → Prop} {r : List Sh} {n c : Nat} {e : TypeId} {cs : List Value} (hr : r.length = c) (ih : ∀ cs x, DataW.trod enc P w base spare held n e cs = some x → ∃ xs, RL (Rep P S w []) cs xs ∧ RL Mt xs r) :
   ∀ (m o : Nat), (∀ i, i < m → ∃ y, DataW.trod enc P w base spare held n e ((cs.drop (o + i * c)).take c) = some y) → ∃ xs, RL (Rep P S w []) ((cs.drop o).take (m * c)) xs ∧ RL Mt xs (copies r m)
 | 0, o, _ => ⟨[], by simpa using RL.nil, RL.nil⟩
 | m + 1, o, h => by
   obtain ⟨y, hy⟩ := h 0 (by omega)
   rw [Nat.zero_mul, Nat.add_zero] at hy
   obtain ⟨xs1, a1, a2⟩ := ih _ _ hy
   obtain ⟨xs2, b1, b2⟩ := copies_open hr ih m (o + c) fun i hi => by
     have := h (i + 1) (by omega)
     rw [show o + (i + 1) * c = o + c + i * c by rw [Nat.succ_mul]; omega] at this
     exact this
   refine ⟨xs1 ++ xs2, ?_, a2.append b2⟩
   rw [Nat.succ_mul, Nat.add_comm (m * c) c, take_split]
   exact a1.append b1
theorem Rep.small {S : Nat → Prop} {A : Option Addr} {len c : Nat} {es : List (List AV)} (h : Rep P S w [] (.slice A len c) (.ro es)) : es.length ≤ maxLen := by
 obtain ⟨-, A', c', sz, us, e, h1, h2, -⟩ := h.ro_inv
 exact Nat.le_trans h1 h2
theorem open_sh : ∀ (m fuel : Nat) (t : TypeId) (cs : List Value) (x : DataW H × List MemPlace) (r : List Sh), shOf P m t = some r → DataW.trod enc P w base spare held fuel t cs = some x → ∃ xs, RL (Rep P (fun k => k < w.heap.size) w []) cs xs ∧ RL Mt xs r
 | 0, _, _, _, _, _, h, _ => by simp [shOf] at h
 | m + 1, fuel, t, cs, x, r, h, hx => by
   unfold shOf at h
   split at h
   · rename_i k ht
     injection h with h; subst h
     obtain ⟨n, rfl, _, hw⟩ := DataW.trod_int ht hx
     exact ⟨_, .cons (.v rfl) .nil, .cons (.int hw) .nil⟩
   · rename_i ht
     injection h with h; subst h
     obtain ⟨s, rfl, _, hw⟩ := DataW.trod_string ht hx
     exact ⟨_, .cons (.v rfl) .nil, .cons (.str hw) .nil⟩
   · rename_i ht
     injection h with h; subst h
     obtain ⟨b, rfl, _⟩ := DataW.trod_bool ht hx
     exact ⟨_, .cons (.v rfl) .nil, .cons .bool .nil⟩
   · rename_i e ht
     obtain ⟨row, h1, h2⟩ := Option.map_eq_some_iff.1 h
     subst h2
     rcases Go.Deep.open_slice ht hx with ⟨rfl, _⟩ | ⟨a, len, cap, mm, n, D, Pl, rfl, hb, hl, hm, hmm, _, hel⟩
     · exact ⟨_, .cons rep_ro_nil .nil, .cons (.sl (Nat.zero_le _) (by simp) (by simp)) .nil⟩
     have hlm : len ≤ mm := by rw [hmm]; split <;> omega
     have key : ∀ i, i < len → ∃ p : List Value × List AV, w.cells? base (a.add (i * P.cellsOf e)) (P.cellsOf e) = some p.1 ∧ RL (Rep P (fun k => k < w.heap.size) w []) p.1 p.2 ∧ RL Mt p.2 row := fun i hi => by
       obtain ⟨cs', c1, c2⟩ := hel i (by omega)
       obtain ⟨xs, c3, c4⟩ := open_sh m _ _ _ _ _ h1 c2
       exact ⟨(cs', xs), c1, c3, c4⟩
     obtain ⟨F, hF⟩ := Go.Deep.choose_lt key
     have lv : ∀ l ∈ (List.range len).map (fun i => (F i).1), l.length = P.cellsOf e := fun l hl' => by
       obtain ⟨i, hi, rfl⟩ := List.mem_map.1 hl'
       exact (World.cells?_some (hF i (List.mem_range.1 hi)).1).2.1
     have lx : ∀ l ∈ (List.range len).map (fun i => (F i).2), l.length = P.cellsOf e := fun l hl' => by
       obtain ⟨i, hi, rfl⟩ := List.mem_map.1 hl'
       rw [← (hF i (List.mem_range.1 hi)).2.1.1]
       exact (World.cells?_some (hF i (List.mem_range.1 hi)).1).2.1
     have hlen : ((List.range len).map fun i => (F i).2).length = len := by simp
     have hfl : ((List.range len).map fun i => (F i).1).flatten.length = ((List.range len).map fun i => (F i).2).flatten.length := by
       rw [List.length_flatten, List.length_flatten]
       congr 1
       rw [List.map_map, List.map_map]
       exact List.map_congr_left fun i hi => (hF i (List.mem_range.1 hi)).2.1.1
     have hrep : Rep P (fun k => k < w.heap.size) w [] (.slice (some a) ((List.range len).map fun i => (F i).2).length cap) (.ro ((List.range len).map fun i => (F i).2)) := by
       refine Rep.ro (sz := P.cellsOf e) (us := ((List.range len).map fun i => (F i).1).flatten) (by rw [hlen]; exact hl) hm lx (fun hn => ?_) hfl fun i u x hu hx' => ?_
       · have hget : ∀ j u, ((List.range len).map fun i => (F i).1).flatten[j]? = some u → w.cell? (a.add j) = some u := fun j u hu => by
           obtain ⟨l, u', q1, q2, q3⟩ := flat_idx lv (j := j) (List.getElem?_eq_some_iff.1 hu).1
           rw [q3] at hu
           injection hu with hu; subst hu
           rw [List.getElem?_map] at q1
           have hq : j / P.cellsOf e < len := by
             have := (List.getElem?_eq_some_iff.1 (show ((List.range len).map fun i => (F i).1)[j / P.cellsOf e]? = some l by rw [List.getElem?_map]; exact q1)).1
             simpa using this
           rw [List.getElem?_range hq] at q1
           injection q1 with q1; subst q1
           have hc := (World.cells?_some (hF _ hq).1)
           have hp : 0 < P.cellsOf e := by
             have := (List.getElem?_eq_some_iff.1 q2).1
             rw [hc.2.1] at this; omega
           have hcell := hc.2.2 (j % P.cellsOf e) (Nat.mod_lt _ hp)
           rw [q2, Go.Deep.add_add, Nat.mul_comm, Nat.div_add_mod] at hcell
           exact hcell
         have h0 := hget 0 _ (List.getElem?_eq_getElem hn)
         obtain ⟨g, o, sp⟩ := a
         have : sp = none := by simpa [Addr.add] using World.cell?_spot h0
         subst this
         refine ⟨g, o, rfl, World.block_lt_of_cell? w _ h0, fun j u hu => ?_⟩
         have := hget j u hu
         rw [add_off] at this
         exact this
       obtain ⟨l, u', q1, q2, q3⟩ := flat_idx lv (j := i) (List.getElem?_eq_some_iff.1 hu).1
       obtain ⟨l2, u2, p1, p2, p3⟩ := flat_idx lx (j := i) (List.getElem?_eq_some_iff.1 hx').1
       rw [q3] at hu
       injection hu with hu; subst hu
       rw [p3] at hx'
       injection hx' with hx'; subst hx'
       rw [List.getElem?_map] at q1 p1
       have hq : i / P.cellsOf e < len := by
         have := (List.getElem?_eq_some_iff.1 (show ((List.range len).map fun i => (F i).1)[i / P.cellsOf e]? = some l by rw [List.getElem?_map]; exact q1)).1
         simpa using this
       rw [List.getElem?_range hq] at q1 p1
       injection q1 with q1; subst q1
       injection p1 with p1; subst p1
       exact (hF _ hq).2.1.2 _ _ _ q2 p2
     rw [hlen] at hrep
     refine ⟨_, .cons hrep .nil, .cons (.sl hrep.small (fun l hl' => ?_) fun l hl' => ?_) .nil⟩
     · obtain ⟨i, hi, rfl⟩ := List.mem_map.1 hl'
       exact (hF i (List.mem_range.1 hi)).2.2.1
     obtain ⟨i, hi, rfl⟩ := List.mem_map.1 hl'
     exact (hF i (List.mem_range.1 hi)).2.2.2
   · rename_i fs ht
     obtain ⟨r1, h1, h2⟩ := Option.bind_eq_some_iff.1 h
     split at h2
     · rename_i hl
       injection h2 with h2; subst h2
       obtain ⟨ys, n, _, _, hcl, hyl, hf⟩ := DataW.trod_struct ht hx
       obtain ⟨xs, a1, a2⟩ := fields_open (fun t cs x r => open_sh m n t cs x r) fs.toList 0 r1 h1 (cs := cs) fun f hf' => by
         obtain ⟨i, hi, rfl⟩ := List.getElem_of_mem hf'
         have := hf i fs.toList[i] (by simp at hi; simp [hi])
         exact ⟨_, this.trans (List.getElem?_eq_getElem (by rw [hyl]; simpa using hi))⟩
       rw [List.drop_zero, hl, ← hcl, List.take_length] at a1
       exact ⟨xs, a1, a2⟩
     cases h2
   · rename_i k e ht
     obtain ⟨r1, h1, h2⟩ := Option.bind_eq_some_iff.1 h
     split at h2
     · rename_i hl
       injection h2 with h2; subst h2
       obtain ⟨ys, n, _, _, hcl, hyl, hf⟩ := DataW.trod_array ht hx
       obtain ⟨xs, a1, a2⟩ := copies_open (cs := cs) hl.1 (fun cs x hx => open_sh m n e cs x r1 h1 hx) k 0 fun i hi => by
         have := hf i hi
         rw [Nat.zero_add]
         exact ⟨_, this.trans (List.getElem?_eq_getElem (by omega))⟩
       rw [List.drop_zero, ← hl.2, ← hcl, List.take_length] at a1
       exact ⟨xs, a1, a2⟩
     cases h2
   cases h
/-- A datum of several cells. -/
theorem open_agg {m : Nat} {t : TypeId} {us : Array Value} {r : List Sh} {d : DataW H} {ps : List MemPlace} (hs : shOf P m t = some r) (h : DataW.Trod enc P w base spare held t (.agg us) d ps) : ∃ xs, AggOK P (fun k => k < w.heap.size) w (insT []) [] (.agg us) (.agg xs) ∧ RL Mt xs r := by
 obtain ⟨fuel, hf⟩ := h
 obtain ⟨xs, a1, a2⟩ := open_sh m fuel t us.toList _ r hs hf
 exact ⟨xs, ⟨us, rfl, a1.mono fun u x h => h.ref⟩, a2⟩
/-- A datum of one cell. -/
theorem open_one {m : Nat} {t : TypeId} {v : Value} {s : Sh} {d : DataW H} {ps : List MemPlace} (hs : shOf P m t = some [s]) (hv : v.cells = #[v]) (h : DataW.Trod enc P w base spare held t v d ps) : ∃ x, AggOK P (fun k => k < w.heap.size) w (insT []) [] v x ∧ Mt x s := by
 obtain ⟨fuel, hf⟩ := h
 rw [hv] at hf
 obtain ⟨xs, a1, a2⟩ := open_sh m fuel t [v] _ [s] hs hf
 obtain ⟨x, xs', rfl, b1, b2⟩ := a1.cons'
 obtain ⟨x2, xs2, q, c1, -⟩ := a2.cons'
 injection q with q _
 subst q
 refine ⟨x, ?_, c1⟩
 have hr := b1.ref (T := insT []) (vals := [])
 cases c1 <;> exact hr
end
theorem Spec.small {P : Program} {f : FuncId} {ins xs : List AV} {Q : List AV → List AV → Prop} {es : List (List AV)} (k : Nat) (hk : xs[k]? = some (.ro es)) (h : es.length ≤ 9223372036854775807 → Spec P f ins xs Q) : Spec P f ins xs Q := fun w S vals bss vs c => by
 obtain ⟨u, hu, hr⟩ := c.args.at_ hk
 have hr : Rep P S w [] u (.ro es) := hr
 obtain ⟨-, A, cc, sz, us, e, h1, h2, -⟩ := hr.ro_inv
 exact h (Nat.le_trans (Nat.le_trans h1 h2) (by decide)) w S vals bss vs c
/-- What a cell may hold, taken apart. -/
theorem Mt.i64 {x : AV} (h : Mt x (.int .i64)) : ∃ n, x = .v (.int .i64 n) := by cases h; exact ⟨_, rfl⟩
theorem Mt.u8 {x : AV} (h : Mt x (.int .u8)) : ∃ n, x = .v (.int .u8 n) := by cases h; exact ⟨_, rfl⟩
theorem Mt.s_ {x : AV} (h : Mt x .str) : ∃ n, x = .v (.string n) := by cases h; exact ⟨_, rfl⟩
theorem Mt.sl_ {x : AV} {r : List Sh} (h : Mt x (.sl r)) : ∃ es, x = .ro es := by cases h; exact ⟨_, rfl⟩
end Go.Proofs.YtmdohphcolffmaaGreat
