import Derived.Test.YtmdohphcolffmaaGreatPkh
namespace Go.Proofs.YtmdohphcolffmaaGreat
set_option maxHeartbeats 8000000
open Go.RowKit
set_option linter.unusedSimpArgs false
set_option linter.unusedVariables false
set_option maxRecDepth 100000
abbrev lav (l : List Container) : List AV := [.ro (l.map Container.av)]
theorem lav_flat (ls : List (List Container)) : ∀ r ∈ ls.map lav, ∀ c ∈ r, flatA c = true := fun r hr c hc => by
 obtain ⟨l, _, rfl⟩ := List.mem_map.1 hr
 simp only [lav, List.mem_cons, List.not_mem_nil, or_false] at hc
 subst hc
 rfl
theorem fl_flat (ls : List Flight) : ∀ r ∈ ls.map Flight.av, ∀ c ∈ r, flatA c = true := fun r hr c hc => by
 obtain ⟨l, _, rfl⟩ := List.mem_map.1 hr
 simp only [Flight.av, List.mem_cons, List.not_mem_nil, or_false] at hc
 rcases hc with rfl | rfl | rfl | rfl <;> rfl
theorem pi_flat (ls : List Piece) : ∀ r ∈ ls.map Piece.av, ∀ c ∈ r, flatA c = true := fun r hr c hc => by
 obtain ⟨l, _, rfl⟩ := List.mem_map.1 hr
 simp only [Piece.av, List.mem_cons, List.not_mem_nil, or_false] at hc
 rcases hc with rfl | rfl | rfl | rfl | rfl <;> rfl
theorem small_inv {xs : List Container} (h : smallB xs = true) : xs.length ≤ 30 ∧ ∀ c ∈ xs, c.pieces.length ≤ 70 := by
 unfold smallB at h
 simp only [Bool.and_eq_true, List.all_eq_true, decide_eq_true_eq] at h
 exact ⟨by omega, h.1⟩
def FitL (ys : List Container) : Prop := ys.length ≤ 1000 ∧ ∀ c ∈ ys, c.pieces.length ≤ 1000
theorem FitL.sml {ys : List Container} (h : FitL ys) : Sml ys := ⟨by have := h.1; omega, fun c hc => Nat.le_trans (h.2 c hc) (by omega)⟩
theorem fit4 {a b c d : List Container} (h1 : FitL a) (h2 : FitL b) (h3 : FitL c) (h4 : FitL d) : ∀ y ∈ [a, b, c, d], FitL y := fun y hy => by
 simp only [List.mem_cons, List.not_mem_nil, or_false] at hy
 rcases hy with rfl | rfl | rfl | rfl <;> assumption
theorem hl20 (l : List Int) : (l.take 2000).length ≤ 2000 := by simp; omega
theorem C17_3 : Fn Tryz.prog 17 [] [.v (.int .i64 3)] [.agg (⟨⟨#[66, 65]⟩, 2, ⟨#[]⟩, 1⟩ : Flight).av] [] := by
 refine Spec.body Tryz.func17 rfl Tryz.ntmps17 (by simp) rfl ?_; intro S0 own0 v0 w0
 refine zA fun K hK => zB ?_
 refine yB (op_alloc rfl ze25 rfl) ?_; simp only [nA, Nat.reduceBEq, Nat.reduceEqDiff, ↓reduceIte]
 refine zE (hK _ ?_); clear hK K; try simp only [nA, Nat.reduceBEq, Nat.reduceEqDiff, ↓reduceIte, Nat.reduceAdd, Nat.reduceSub]
 refine zA fun K hK => zB ?_
 refine zF (zC rfl rfl) ?_; simp only [nA, ↓reduceIte]
 refine yB (OpQ.j (zT (b := true) rfl en35 (C35n 3 (by decide)) (RL.cons (by exact View.same rfl) (RL.cons (by exact View.same rfl) (RL.nil))) rfl)) ?_; try simp only [nA, Nat.reduceBEq, Nat.reduceEqDiff, ↓reduceIte, Nat.reduceAdd, Nat.reduceSub]
 refine zF (zD rfl rfl) ?_; simp only [nA]
 refine zE (hK _ ?_); clear hK K
 refine zA fun K hK => zB ?_
 refine yB (zV rfl [(0, [_]), (1, [_]), (2, [_])] [[_], [_], [_]] Tryz.underlying40 ze9 rfl (by simp) rfl (by simp) rfl (bl rfl) (by simp [maxLen])) ?_; simp only [nA, Nat.reduceBEq, Nat.reduceEqDiff, ↓reduceIte]
 refine zF (zC rfl rfl) ?_; simp only [nA, ↓reduceIte]
 (refine zF (op_quoi rfl rfl rfl (by omega)) ?_); try simp only [nA, Nat.reduceBEq, Nat.reduceEqDiff, ↓reduceIte, Nat.reduceAdd, Nat.reduceSub]
 (refine zF (op_ia_sl 0 _ rfl rfl rfl rfl Tryz.underlying40 (by decide) (by decide) sz9 rfl) ?_); try simp only [nA, Nat.reduceBEq, Nat.reduceEqDiff, ↓reduceIte, Nat.reduceAdd, Nat.reduceSub]
 (refine awR (zG rfl rfl rfl rfl ag9 rfl rfl) ?_); try simp only [nA, Nat.reduceBEq, Nat.reduceEqDiff, ↓reduceIte, Nat.reduceAdd, Nat.reduceSub]
 refine zF (zC rfl rfl) ?_; simp only [nA, ↓reduceIte]
 (refine zF (op_quoi rfl rfl rfl (by omega)) ?_); try simp only [nA, Nat.reduceBEq, Nat.reduceEqDiff, ↓reduceIte, Nat.reduceAdd, Nat.reduceSub]
 (refine zF (op_remi rfl rfl rfl (by omega)) ?_); try simp only [nA, Nat.reduceBEq, Nat.reduceEqDiff, ↓reduceIte, Nat.reduceAdd, Nat.reduceSub]
 (refine zF (zR rfl rfl rfl (by omega)) ?_); try simp only [nA, Nat.reduceBEq, Nat.reduceEqDiff, ↓reduceIte, Nat.reduceAdd, Nat.reduceSub]
 refine zF (zC rfl rfl) ?_; simp only [nA, ↓reduceIte]
 (refine zF (op_remi rfl rfl rfl (by omega)) ?_); try simp only [nA, Nat.reduceBEq, Nat.reduceEqDiff, ↓reduceIte, Nat.reduceAdd, Nat.reduceSub]
 (refine zF (zR rfl rfl rfl (by omega)) ?_); try simp only [nA, Nat.reduceBEq, Nat.reduceEqDiff, ↓reduceIte, Nat.reduceAdd, Nat.reduceSub]
 refine zF (op_build2 (xs := [_, _, .v (.string ⟨#[]⟩), _]) rfl pl25 ze25 [(0, [_]), (1, [_]), (3, [_])] rfl rfl rfl) ?_; simp only [nA, ↓reduceIte]
 refine yB (z8 rfl rfl rfl rfl rfl rfl sz25 rfl (bl rfl) rfl) ?_; simp only [nA, Nat.reduceBEq, Nat.reduceEqDiff, ↓reduceIte]
 refine zE (hK _ ?_); clear hK K
 skip
 refine zO ?_; (try simp only [zJ, zK, Nat.reduceEqDiff, ↓reduceIte]); exact zS rfl (.cell (bl rfl) rfl rfl rfl ag25 sz25 (bl rfl) rfl rfl .nil)
theorem C17e {x : Int} (h : 0 ≤ x ∧ x < 4) : ∃ f : Flight, Fn Tryz.prog 17 [] [.v (.int .i64 x)] [.agg f.av] [] := by
 by_cases hx : x = 3
 · subst hx; exact ⟨_, C17_3⟩
 exact ⟨_, C17 x (by omega)⟩
theorem C4 {xs : List Container} {l : List Int} {f : Flight} {p : Piece} : Fn Tryz.prog 4 [] [.ro (xs.map Container.av), .ro (l.map iv), .agg f.av, .agg p.av] [.v (.bool true)] [] := by
 refine Spec.small 0 rfl fun hx => ?_
 rw [List.length_map] at hx
 obtain ⟨k0, cs, hC10, hinv, hcl⟩ := conts21 (l.take 2000) 0 8 12 (hl20 l) (by omega) (by omega)
 refine Spec.body Tryz.func4 rfl Tryz.ntmps4 (by simp) rfl ?_; intro S0 own0 v0 w0
 refine zA fun K hK => zB ?_
 refine yB (yL rfl rfl rfl sz25 rfl) ?_; simp only [nA, Nat.reduceBEq, Nat.reduceEqDiff, ↓reduceIte]
 refine yB (yL rfl rfl rfl sz35 rfl) ?_; simp only [nA, Nat.reduceBEq, Nat.reduceEqDiff, ↓reduceIte]
 refine zF (zD rfl rfl) ?_; try simp only [nA, Nat.reduceBEq, Nat.reduceEqDiff, ↓reduceIte, Nat.reduceAdd, Nat.reduceSub]
 refine zE (hK _ ?_); clear hK K; try simp only [nA, Nat.reduceBEq, Nat.reduceEqDiff, ↓reduceIte, Nat.reduceAdd, Nat.reduceSub]
 refine zA fun K hK => ?_
 refine zA fun K hK => zB ?_
 refine zF (zC rfl rfl) ?_; simp only [nA, ↓reduceIte]
 refine yB (OpQ.j (zT (b := true) rfl en15 (C15 (xs := xs) hx) (RL.cons (by exact View.same rfl) (RL.nil)) rfl)) ?_; try simp only [nA, Nat.reduceBEq, Nat.reduceEqDiff, ↓reduceIte, Nat.reduceAdd, Nat.reduceSub]
 refine zF (op_not rfl rfl rfl) ?_; try simp only [nA, Nat.reduceBEq, Nat.reduceEqDiff, ↓reduceIte, Nat.reduceAdd, Nat.reduceSub]
 refine zE (hK _ ?_); clear hK K
 refine zL rfl rfl rfl (fun hc => ?_) (fun hc => ?_)
 ·
  (try simp only [zY] at hc); have hc1 := hc
  refine zA fun K hK => zB ?_
  refine zF (zD rfl rfl) ?_; try simp only [nA, Nat.reduceBEq, Nat.reduceEqDiff, ↓reduceIte, Nat.reduceAdd, Nat.reduceSub]
  refine zE (hK _ ?_); clear hK K
  skip
  refine zO ?_; (try simp only [zJ, zK, Nat.reduceEqDiff, ↓reduceIte]); exact zS rfl (.tmp (bl rfl) rfl rfl .nil)
 (try simp only [zY] at hc); have hc1 := hc; have hsm := small_inv (xs := xs) (by simpa using hc1); have hcb : ∀ c ∈ cs, c.pieces.length ≤ 1000 := (fun c hc => Nat.le_trans (hinv.len c hc) (by omega)); have hsp := spoil_len (l.take 2000) k0 (b := 100) (fun c hc => Nat.le_trans (hinv.len c hc) (by omega)); have hfit : ∀ y ∈ [xs, cs, (spoilV (l.take 2000) k0 cs).2, cs ++ xs], FitL y := fit4 ⟨by omega, fun c hc => Nat.le_trans (hsm.2 c hc) (by omega)⟩ ⟨by omega, hcb⟩ ⟨Nat.le_trans hsp.2.1 (by omega), fun c hc => Nat.le_trans (hsp.2.2 c hc) (by omega)⟩ ⟨by rw [List.length_append]; omega, fun c hc => (List.mem_append.1 hc).elim (hcb c) (fun h => Nat.le_trans (hsm.2 c h) (by omega))⟩
 refine zN ?_
 refine hK _ ?_; clear hK K
 refine zA fun K hK => zB ?_
 refine zF (zC rfl rfl) ?_; simp only [nA, ↓reduceIte]
 refine yB (op_callB rfl en6 (C6) (RL.cons (by exact View.same rfl) (RL.nil))) ?_; simp only [nA, Nat.reduceBEq, Nat.reduceEqDiff, ↓reduceIte]
 refine zF (zD rfl rfl) ?_; simp only [nA]
 refine zE (hK _ ?_); clear hK K
 refine zA fun K hK => zB ?_
 refine zF (zC rfl rfl) ?_; simp only [nA]
 refine yB (yN rfl en10 hC10 (by exact rfl) (RL.cons .ptr (RL.cons (.base (by exact View.same rfl)) (RL.cons (.base (by exact View.same rfl)) (RL.nil)))) (by exact ⟨_, _, _, rfl, rfl, rfl⟩) (by exact rfl) (by exact rfl) (by exact rfl)) ?_; (simp only [nA, Nat.reduceBEq, Nat.reduceEqDiff, ↓reduceIte]); refine AWL.gh (Gh.freezeN 27 (bl rfl) rfl rfl (by simpa using flat2_cons cs []) (es' := cs.map Container.av) (by rw [List.take_of_length_le (by simp)]; simpa using fz_cons cs [])) ?_; try simp only [nA, Nat.reduceBEq, Nat.reduceEqDiff, ↓reduceIte, Nat.reduceAdd, Nat.reduceSub]
 refine zF (zD rfl rfl) ?_; simp only [nA]
 refine zE (hK _ ?_); clear hK K
 refine zA fun K hK => ?_
 refine zA fun K hK => ?_
 refine AW.ad [] mix rfl ?_
 refine adP 0 rfl (fun T' ok => zC rfl rfl) (by exact trivial) (by kernel_rfl) (by kernel_rfl) ?_; simp only [nA, Nat.reduceBEq, Nat.reduceEqDiff, ↓reduceIte]
 refine adP 1 rfl (fun T' ok => zC rfl rfl) (by exact trivial) (by kernel_rfl) (by kernel_rfl) ?_; simp only [nA, ↓reduceIte]
 refine adP 2 rfl (fun T' ok => zC rfl rfl) (by exact trivial) (by kernel_rfl) (by kernel_rfl) ?_; simp only [nA, ↓reduceIte]
 refine adP 3 rfl (fun T' ok => zC rfl rfl) (by exact trivial) (by kernel_rfl) (by kernel_rfl) ?_; simp only [nA, ↓reduceIte]
 refine adP 5 rfl (fun T' ok => zC rfl rfl) (by exact trivial) (by kernel_rfl) (by kernel_rfl) ?_; simp only [nA, ↓reduceIte]
 refine adP 6 rfl (fun T' ok => zC rfl rfl) (by exact trivial) (by kernel_rfl) (by kernel_rfl) ?_; simp only [nA, ↓reduceIte]
 refine adP 7 rfl (fun T' ok => yA (n := cs.length) rfl rfl Tryz.underlying42 (.inr (.inl ⟨_, rfl, by simp⟩))) (by exact trivial) (by kernel_rfl) (by kernel_rfl) ?_; try simp only [nA, Nat.reduceBEq, Nat.reduceEqDiff, ↓reduceIte, Nat.reduceAdd, Nat.reduceSub]
 refine adP 8 rfl (fun T' ok => zC rfl rfl) (by exact trivial) (by kernel_rfl) (by kernel_rfl) ?_; simp only [nA, ↓reduceIte]
 refine adP 9 rfl (fun T' ok => yA (n := cs.length) rfl rfl Tryz.underlying42 (.inr (.inl ⟨_, rfl, by simp⟩))) (by exact trivial) (by kernel_rfl) (by kernel_rfl) ?_; try simp only [nA, Nat.reduceBEq, Nat.reduceEqDiff, ↓reduceIte, Nat.reduceAdd, Nat.reduceSub]
 refine adP 10 rfl (fun T' ok => op_slice_full cs.length rfl (.inl rfl) rfl rfl (by simp) Tryz.underlying42 yH (cav_len _) (es' := cs.map Container.av) (by rw [List.take_of_length_le (by simp)])) (by exact trivial) (by kernel_rfl) (by kernel_rfl) ?_; try simp only [nA, Nat.reduceBEq, Nat.reduceEqDiff, ↓reduceIte, Nat.reduceAdd, Nat.reduceSub]
 refine adP 11 rfl (fun T' ok => zC rfl rfl) (by exact trivial) (by kernel_rfl) (by kernel_rfl) ?_; simp only [nA, ↓reduceIte]
 refine adP 15 rfl (fun T' ok => zC rfl rfl) (by exact trivial) (by kernel_rfl) (by kernel_rfl) ?_; try simp only [nA, Nat.reduceBEq, Nat.reduceEqDiff, ↓reduceIte, Nat.reduceAdd, Nat.reduceSub]
 refine adJ 4 rfl (yN rfl en16 (C16r (l := (l.take 2000)) (k := k0) (xs := cs) (hl20 l) (by omega) hcb) (by exact rfl) (RL.cons .ptr (RL.cons (.base (by exact View.same rfl)) (RL.nil))) (by exact ⟨_, _, _, rfl, rfl, rfl⟩) (by exact rfl) (by exact rfl) (by exact rfl)) (by kernel_rfl) (by exact trivial) ?_; try simp only [nA, Nat.reduceBEq, Nat.reduceEqDiff, ↓reduceIte, Nat.reduceAdd, Nat.reduceSub]
 refine adJ 12 rfl (op_app_rof (sz := 11) (es := cs.map Container.av) (rows := xs.map Container.av) rfl rfl rfl .ro Tryz.underlying42 ze33 (by decide) (cav_len _) (cav_len _) (by simp only [List.length_map]; omega) (by decide) (es' := (cs ++ xs).map Container.av) (by rw [List.map_append])) (by kernel_rfl) (by exact trivial) ?_; try simp only [nA, Nat.reduceBEq, Nat.reduceEqDiff, ↓reduceIte, Nat.reduceAdd, Nat.reduceSub]
 refine adJ 13 rfl (OpJ.frz (zV rfl [(0, lav xs), (1, lav cs), (2, lav (spoilV (l.take 2000) k0 cs).2), (3, lav (cs ++ xs))] ([xs, cs, (spoilV (l.take 2000) k0 cs).2, cs ++ xs].map lav) Tryz.underlying50 ze42 rfl (by simp) rfl (by simp) rfl (bl rfl) (by simp [maxLen])) (lav_flat [xs, cs, (spoilV (l.take 2000) k0 cs).2, cs ++ xs]) rfl) (by kernel_rfl) (by exact trivial) ?_; try simp only [nA, Nat.reduceBEq, Nat.reduceEqDiff, ↓reduceIte, Nat.reduceAdd, Nat.reduceSub]
 (refine adP 14 rfl (fun T' ok => yA rfl rfl Tryz.underlying50 (by exact .inr (.inl ⟨_, rfl, rfl⟩))) (by exact trivial) (by kernel_rfl) (by kernel_rfl) ?_); simp only [nA, Nat.reduceBEq, Nat.reduceEqDiff, ↓reduceIte]
 refine adDone (by kernel_rfl) ?_
 refine hK _ ?_; clear hK K
 refine zP ?_
 refine AW.gh (Gh.drop 3) ?_; (try simp only [nA, Nat.reduceBEq, Nat.reduceEqDiff, ↓reduceIte, Nat.reduceAdd, Nat.reduceSub]); obtain ⟨ls, hls⟩ : ∃ ls, ls = [xs, cs, (spoilV (l.take 2000) k0 cs).2, cs ++ xs] := ⟨_, rfl⟩; have hll : ls.length = 4 := (by rw [hls]; rfl); rw [← hls] at hfit; refine yG (fun (q : Nat × Nat × Nat) => [(6, .ptr 0 1 0 0), (7, .ptr 1 2 0 0), (9, .ptr 2 3 0 0), (41, .ro (ls.map lav)), (42, .v (.int .i64 (4 : Nat))), (43, .v (.int .i64 (q.1 : Nat)))]) (fun q => ⟨[(1, .own 25 [f.av]), (2, .own 35 [p.av]), (3, .own 67 [srcRow (l.take 2000) q.2.1])], q.2.2⟩) (fun q => q.1 ≤ 4) (fun q => 4 - q.1) (0, (spoilV (l.take 2000) k0 cs).1, _) (by simp) ⟨rfl, rfl, rfl, by rw [hls]; rfl, rfl, rfl, trivial⟩ rfl ?_; rintro ⟨i, k, e⟩ ρ hi; simp only at hi; simp only [updL]
 refine zA fun K hK => zB ?_
 refine zF (op_lss rfl rfl rfl) ?_; try simp only [nA, Nat.reduceBEq, Nat.reduceEqDiff, ↓reduceIte, Nat.reduceAdd, Nat.reduceSub]
 refine zE (hK _ ?_); clear hK K
 refine zA fun K hK => ?_
 refine zL rfl rfl rfl (fun hc => ?_) (fun hc => ?_)
 ·
  (try simp only [zY] at hc); have hc2 := hc; have hlt : i < ls.length := (by rw [hll]; omega); obtain ⟨ys, hyi⟩ : ∃ ys, ls[i]? = some ys := ⟨ls[i], List.getElem?_eq_getElem hlt⟩; have hS := (hfit ys (List.mem_of_getElem? hyi)).sml; obtain ⟨g0, hg0⟩ := C17e (gmod_bd (x := rawV (l.take 2000) k) (n := 4) (by decide))
  refine zN ?_
  refine hK _ ?_; clear hK K
  refine zA fun K hK => zP ?_
  refine zA fun K hK => zB ?_
  refine zF (zX i rfl (.inl rfl) rfl Tryz.underlying50 rfl (get_of hyi) (by exact sz42) (bl rfl)) ?_; try simp only [nA, Nat.reduceBEq, Nat.reduceEqDiff, ↓reduceIte, Nat.reduceAdd, Nat.reduceSub]
  (refine awR (z6 rfl rfl ag42) ?_); try simp only [nA, Nat.reduceBEq, Nat.reduceEqDiff, ↓reduceIte, Nat.reduceAdd, Nat.reduceSub]
  refine zF (zD rfl rfl) ?_; simp only [nA]
  refine zE (hK _ ?_); clear hK K
  refine zA fun K hK => ?_
  refine AW.ad [(0, 1, .own 25 [f.av])] mix rfl ?_
  (refine adR 0 rfl (fun T' ok => zI rfl rfl (by exact ok.1) rfl ag25 sz25 (bl rfl) rfl) (by exact ⟨rfl, trivial⟩) (by kernel_rfl) (by kernel_rfl) ?_); simp only [nA, Nat.reduceBEq, Nat.reduceEqDiff, ↓reduceIte]
  refine adP 1 rfl (fun T' ok => zC rfl rfl) (by exact ⟨rfl, trivial⟩) (by kernel_rfl) (by kernel_rfl) ?_; simp only [nA, ↓reduceIte]
  refine adP 6 rfl (fun T' ok => zC rfl rfl) (by exact ⟨rfl, trivial⟩) (by kernel_rfl) (by kernel_rfl) ?_; try simp only [nA, Nat.reduceBEq, Nat.reduceEqDiff, ↓reduceIte, Nat.reduceAdd, Nat.reduceSub]
  refine adJ 2 rfl (yN rfl en18 (C18 (l := (l.take 2000)) (k := k) (n := 4) (hl20 l) (by decide)) (by exact rfl) (RL.cons .ptr (RL.cons (.base (by exact View.same rfl)) (RL.nil))) (by exact ⟨_, _, _, rfl, rfl, rfl⟩) (by exact rfl) (by exact rfl) (by exact rfl)) (by kernel_rfl) (by exact ⟨rfl, trivial⟩) ?_; try simp only [nA, Nat.reduceBEq, Nat.reduceEqDiff, ↓reduceIte, Nat.reduceAdd, Nat.reduceSub]
  refine adF 3 rfl (fun T' ok => op_callS rfl en17 hg0 (RL.cons (by exact View.same rfl) (RL.nil)) rfl rfl rfl) (by exact ⟨rfl, trivial⟩) (by kernel_rfl) (by kernel_rfl) ?_; try simp only [nA, Nat.reduceBEq, Nat.reduceEqDiff, ↓reduceIte, Nat.reduceAdd, Nat.reduceSub]
  refine adJ 4 rfl (OpJ.frz (zV rfl [(0, f.av), (1, g0.av)] ([f, g0].map Flight.av) Tryz.underlying53 ze25 rfl (by simp) rfl (by simp) rfl (bl rfl) (by simp [maxLen])) (fl_flat [f, g0]) rfl) (by kernel_rfl) (by exact ⟨rfl, trivial⟩) ?_; try simp only [nA, Nat.reduceBEq, Nat.reduceEqDiff, ↓reduceIte, Nat.reduceAdd, Nat.reduceSub]
  (refine adP 5 rfl (fun T' ok => yA rfl rfl Tryz.underlying53 (by exact .inr (.inl ⟨_, rfl, rfl⟩))) (by exact ⟨rfl, trivial⟩) (by kernel_rfl) (by kernel_rfl) ?_); simp only [nA, Nat.reduceBEq, Nat.reduceEqDiff, ↓reduceIte]
  refine adDone (by kernel_rfl) ?_
  refine hK _ ?_; clear hK K
  refine zP ?_
  obtain ⟨fs, hfs⟩ : ∃ fs, fs = [f, g0] := ⟨_, rfl⟩; have hfl : fs.length = 2 := (by rw [hfs]; rfl); refine yG (fun (q : Nat × Nat × Nat) => [(6, .ptr 0 1 0 0), (7, .ptr 1 2 0 0), (9, .ptr 2 3 0 0), (41, .ro (ls.map lav)), (42, .v (.int .i64 (4 : Nat))), (43, .v (.int .i64 (i : Nat))), (12, .ro (ys.map Container.av)), (51, .ro (fs.map Flight.av)), (52, .v (.int .i64 (2 : Nat))), (53, .v (.int .i64 (q.1 : Nat)))]) (fun q => ⟨[(1, .own 25 [f.av]), (2, .own 35 [p.av]), (3, .own 67 [srcRow (l.take 2000) q.2.1])], q.2.2⟩) (fun q => q.1 ≤ 2) (fun q => 2 - q.1) (0, _, _) (by simp) ⟨rfl, rfl, rfl, rfl, rfl, rfl, rfl, by rw [hfs]; rfl, rfl, rfl, trivial⟩ rfl ?_; rintro ⟨j, k2, e2⟩ ρ hj; simp only at hj; simp only [updL]
  refine zA fun K hK => zB ?_
  refine zF (op_lss rfl rfl rfl) ?_; try simp only [nA, Nat.reduceBEq, Nat.reduceEqDiff, ↓reduceIte, Nat.reduceAdd, Nat.reduceSub]
  refine zE (hK _ ?_); clear hK K
  refine zA fun K hK => ?_
  refine zL rfl rfl rfl (fun hc => ?_) (fun hc => ?_)
  ·
   (try simp only [zY] at hc); have hc3 := hc; have hjl : j < fs.length := (by rw [hfl]; omega); obtain ⟨g, hgj⟩ : ∃ g, fs[j]? = some g := ⟨fs[j], List.getElem?_eq_getElem hjl⟩
   refine zN ?_
   refine hK _ ?_; clear hK K
   refine zA fun K hK => zP ?_
   refine zA fun K hK => zB ?_
   refine zF (zX j rfl (.inl rfl) rfl Tryz.underlying53 rfl (get_of hgj) (by exact sz25) (bl rfl)) ?_; try simp only [nA, Nat.reduceBEq, Nat.reduceEqDiff, ↓reduceIte, Nat.reduceAdd, Nat.reduceSub]
   (refine awR (yF rfl rfl ag25 sz25 (bl rfl) (by decide) rfl) ?_); try simp only [nA, Nat.reduceBEq, Nat.reduceEqDiff, ↓reduceIte, Nat.reduceAdd, Nat.reduceSub]
   refine yB (op_alloc rfl ze25 rfl) ?_; simp only [nA, Nat.reduceBEq, Nat.reduceEqDiff, ↓reduceIte]
   refine yB (z8 rfl rfl rfl rfl rfl rfl sz25 rfl (bl rfl) rfl) ?_; simp only [nA, Nat.reduceBEq, Nat.reduceEqDiff, ↓reduceIte]
   refine zE (hK _ ?_); clear hK K
   refine zA fun K hK => ?_
   refine zA fun K hK => ?_
   refine AW.quiet_tail 5 mix (by kernel_rfl) rfl rfl ?_
   refine zQ (zC rfl rfl) ?_; simp only [nA, ↓reduceIte]
   (refine aqR (zI rfl rfl rfl rfl ag25 sz25 (bl rfl) rfl) ?_); try simp only [nA, Nat.reduceBEq, Nat.reduceEqDiff, ↓reduceIte, Nat.reduceAdd, Nat.reduceSub]
   refine aqQ (zT (b := true) rfl en19 (C19 (l := ys) (f := g) hS) (RL.cons (by exact View.same rfl) (RL.cons (by exact View.same rfl) (RL.nil))) rfl) ?_; try simp only [nA, Nat.reduceBEq, Nat.reduceEqDiff, ↓reduceIte, Nat.reduceAdd, Nat.reduceSub]
   refine zQ (zC rfl rfl) ?_; simp only [nA, ↓reduceIte]
   (refine aqR (zI rfl rfl rfl rfl ag25 sz25 (bl rfl) rfl) ?_); try simp only [nA, Nat.reduceBEq, Nat.reduceEqDiff, ↓reduceIte, Nat.reduceAdd, Nat.reduceSub]
   refine yM ?_
   refine yB (op_call (b := false) rfl en20 (C20 (l := ys) (f := g) hS) (RL.cons (by exact View.same rfl) (RL.cons (by exact View.same rfl) (RL.nil))) rfl (fun h => by cases h) rfl rfl) ?_; try simp only [nA, Nat.reduceBEq, Nat.reduceEqDiff, ↓reduceIte, Nat.reduceAdd, Nat.reduceSub]
   (refine zF (op_neq rfl rfl rfl) ?_); try simp only [nA, Nat.reduceBEq, Nat.reduceEqDiff, ↓reduceIte, Nat.reduceAdd, Nat.reduceSub]
   refine zE (hK _ ?_); clear hK K
   refine zL rfl rfl rfl (fun hc => ?_) (fun hc => ?_)
   ·
    (try simp only [zY] at hc); have hc4 := hc
    refine zA fun K hK => zB ?_
    refine zF (zD rfl rfl) ?_; try simp only [nA, Nat.reduceBEq, Nat.reduceEqDiff, ↓reduceIte, Nat.reduceAdd, Nat.reduceSub]
    refine zE (hK _ ?_); clear hK K
    skip
    refine zO ?_; (try simp only [zJ, zK, Nat.reduceEqDiff, ↓reduceIte]); exfalso; simp at hc
   (try simp only [zY] at hc); have hc4 := hc
   refine zN ?_
   refine hK _ ?_; clear hK K
   refine zA fun K hK => ?_
   refine AW.ad [(1, 2, .own 35 [p.av])] mix rfl ?_
   (refine adR 0 rfl (fun T' ok => zI rfl rfl (by exact ok.1) rfl ag35 sz35 (bl rfl) rfl) (by exact ⟨rfl, trivial⟩) (by kernel_rfl) (by kernel_rfl) ?_); simp only [nA, Nat.reduceBEq, Nat.reduceEqDiff, ↓reduceIte]
   refine adP 1 rfl (fun T' ok => zC rfl rfl) (by exact ⟨rfl, trivial⟩) (by kernel_rfl) (by kernel_rfl) ?_; simp only [nA, ↓reduceIte]
   refine adP 3 rfl (fun T' ok => zC rfl rfl) (by exact ⟨rfl, trivial⟩) (by kernel_rfl) (by kernel_rfl) ?_; simp only [nA, ↓reduceIte]
   refine adP 7 rfl (fun T' ok => zC rfl rfl) (by exact ⟨rfl, trivial⟩) (by kernel_rfl) (by kernel_rfl) ?_; try simp only [nA, Nat.reduceBEq, Nat.reduceEqDiff, ↓reduceIte, Nat.reduceAdd, Nat.reduceSub]
   refine adJ 2 rfl (yN rfl en11 (C11 (l := (l.take 2000)) (k := k2) (n := 20) (hl20 l) (by decide)) (by exact rfl) (RL.cons .ptr (RL.cons (.base (by exact View.same rfl)) (RL.nil))) (by exact ⟨_, _, _, rfl, rfl, rfl⟩) (by exact rfl) (by exact rfl) (by exact rfl)) (by kernel_rfl) (by exact ⟨rfl, trivial⟩) ?_; try simp only [nA, Nat.reduceBEq, Nat.reduceEqDiff, ↓reduceIte, Nat.reduceAdd, Nat.reduceSub]
   refine adJ 4 rfl (yN rfl en11 (C11 (l := (l.take 2000)) (k := (zM (l.take 2000) (zM (l.take 2000) (zM (l.take 2000) k2)))) (n := 20) (hl20 l) (by decide)) (by exact rfl) (RL.cons .ptr (RL.cons (.base (by exact View.same rfl)) (RL.nil))) (by exact ⟨_, _, _, rfl, rfl, rfl⟩) (by exact rfl) (by exact rfl) (by exact rfl)) (by kernel_rfl) (by exact ⟨rfl, trivial⟩) ?_; try simp only [nA, Nat.reduceBEq, Nat.reduceEqDiff, ↓reduceIte, Nat.reduceAdd, Nat.reduceSub]
   refine adJ 5 rfl (OpJ.frz (zV rfl [(0, p.av), (1, (pieceV (l.take 2000) k2 20).av), (2, (pieceV (l.take 2000) (zM (l.take 2000) (zM (l.take 2000) (zM (l.take 2000) k2))) 20).av)] ([p, (pieceV (l.take 2000) k2 20), (pieceV (l.take 2000) (zM (l.take 2000) (zM (l.take 2000) (zM (l.take 2000) k2))) 20)].map Piece.av) Tryz.underlying31 ze35 rfl (by simp) rfl (by simp) rfl (bl rfl) (by simp [maxLen])) (pi_flat [p, (pieceV (l.take 2000) k2 20), (pieceV (l.take 2000) (zM (l.take 2000) (zM (l.take 2000) (zM (l.take 2000) k2))) 20)]) rfl) (by kernel_rfl) (by exact ⟨rfl, trivial⟩) ?_; try simp only [nA, Nat.reduceBEq, Nat.reduceEqDiff, ↓reduceIte, Nat.reduceAdd, Nat.reduceSub]
   (refine adP 6 rfl (fun T' ok => yA rfl rfl Tryz.underlying31 (by exact .inr (.inl ⟨_, rfl, rfl⟩))) (by exact ⟨rfl, trivial⟩) (by kernel_rfl) (by kernel_rfl) ?_); simp only [nA, Nat.reduceBEq, Nat.reduceEqDiff, ↓reduceIte]
   refine adDone (by kernel_rfl) ?_
   refine hK _ ?_; clear hK K
   refine zP ?_
   obtain ⟨ps, hps⟩ : ∃ ps, ps = [p, (pieceV (l.take 2000) k2 20), (pieceV (l.take 2000) (zM (l.take 2000) (zM (l.take 2000) (zM (l.take 2000) k2))) 20)] := ⟨_, rfl⟩; have hpl : ps.length = 3 := (by rw [hps]; rfl); refine yG (fun (q : Nat × Nat) => [(6, .ptr 0 1 0 0), (7, .ptr 1 2 0 0), (9, .ptr 2 3 0 0), (41, .ro (ls.map lav)), (42, .v (.int .i64 (4 : Nat))), (43, .v (.int .i64 (i : Nat))), (12, .ro (ys.map Container.av)), (51, .ro (fs.map Flight.av)), (52, .v (.int .i64 (2 : Nat))), (53, .v (.int .i64 (j : Nat))), (14, .ptr 3 e2 0 0), (69, .ro (ps.map Piece.av)), (70, .v (.int .i64 (3 : Nat))), (71, .v (.int .i64 (q.1 : Nat)))]) (fun q => ⟨[(1, .own 25 [f.av]), (2, .own 35 [p.av]), (3, .own 67 [srcRow (l.take 2000) (zM (l.take 2000) (zM (l.take 2000) (zM (l.take 2000) (zM (l.take 2000) (zM (l.take 2000) (zM (l.take 2000) k2))))))]), (e2, .own 25 [g.av])], q.2⟩) (fun q => q.1 ≤ 3) (fun q => 3 - q.1) (0, _) (by simp) ⟨rfl, rfl, rfl, rfl, rfl, rfl, rfl, rfl, rfl, rfl, rfl, by rw [hps]; rfl, rfl, rfl, trivial⟩ rfl ?_; rintro ⟨m, e3⟩ ρ hm; simp only at hm; simp only [updL]
   refine zA fun K hK => zB ?_
   refine zF (op_lss rfl rfl rfl) ?_; try simp only [nA, Nat.reduceBEq, Nat.reduceEqDiff, ↓reduceIte, Nat.reduceAdd, Nat.reduceSub]
   refine zE (hK _ ?_); clear hK K
   refine zA fun K hK => ?_
   refine zL rfl rfl rfl (fun hc => ?_) (fun hc => ?_)
   ·
    (try simp only [zY] at hc); have hc5 := hc; have hml : m < ps.length := (by rw [hpl]; omega); obtain ⟨r, hrm⟩ : ∃ r, ps[m]? = some r := ⟨ps[m], List.getElem?_eq_getElem hml⟩
    refine zN ?_
    refine hK _ ?_; clear hK K
    refine zA fun K hK => zP ?_
    refine zA fun K hK => zB ?_
    refine zF (zX m rfl (.inl rfl) rfl Tryz.underlying31 rfl (get_of hrm) (by exact sz35) (bl rfl)) ?_; try simp only [nA, Nat.reduceBEq, Nat.reduceEqDiff, ↓reduceIte, Nat.reduceAdd, Nat.reduceSub]
    (refine awR (yF rfl rfl ag35 sz35 (bl rfl) (by decide) rfl) ?_); try simp only [nA, Nat.reduceBEq, Nat.reduceEqDiff, ↓reduceIte, Nat.reduceAdd, Nat.reduceSub]
    refine yB (op_alloc rfl ze35 rfl) ?_; simp only [nA, Nat.reduceBEq, Nat.reduceEqDiff, ↓reduceIte]
    refine yB (z8 rfl rfl rfl rfl rfl rfl sz35 rfl (bl rfl) rfl) ?_; simp only [nA, Nat.reduceBEq, Nat.reduceEqDiff, ↓reduceIte]
    refine zE (hK _ ?_); clear hK K
    refine zA fun K hK => zB ?_
    refine zF (zC rfl rfl) ?_; simp only [nA, ↓reduceIte]
    (refine awR (zI rfl rfl rfl rfl ag25 sz25 (bl rfl) rfl) ?_); try simp only [nA, Nat.reduceBEq, Nat.reduceEqDiff, ↓reduceIte, Nat.reduceAdd, Nat.reduceSub]
    (refine awR (zI rfl rfl rfl rfl ag35 sz35 (bl rfl) rfl) ?_); try simp only [nA, Nat.reduceBEq, Nat.reduceEqDiff, ↓reduceIte, Nat.reduceAdd, Nat.reduceSub]
    refine yB (op_call (b := false) rfl en21 (C21 (l := ys) (f := g) (p := r) hS) (RL.cons (by exact View.same rfl) (RL.cons (by exact View.same rfl) (RL.cons (by exact View.same rfl) (RL.nil)))) rfl (fun h => by cases h) rfl rfl) ?_; try simp only [nA, Nat.reduceBEq, Nat.reduceEqDiff, ↓reduceIte, Nat.reduceAdd, Nat.reduceSub]
    refine zF (zC rfl rfl) ?_; simp only [nA]
    refine zF (zZ rfl rfl rfl) ?_; try simp only [nA, Nat.reduceBEq, Nat.reduceEqDiff, ↓reduceIte, Nat.reduceAdd, Nat.reduceSub]
    refine zF (zZ rfl rfl rfl) ?_; try simp only [nA, Nat.reduceBEq, Nat.reduceEqDiff, ↓reduceIte, Nat.reduceAdd, Nat.reduceSub]
    refine zF (zD rfl rfl) ?_; simp only [nA, ↓reduceIte]
    refine zF (zD rfl rfl) ?_; simp only [nA, ↓reduceIte]
    refine zE (hK _ ?_); clear hK K
    refine zA fun K hK => zB ?_
    refine zF (zC rfl rfl) ?_; simp only [nA, ↓reduceIte]
    (refine awR (zI rfl rfl rfl rfl ag25 sz25 (bl rfl) rfl) ?_); try simp only [nA, Nat.reduceBEq, Nat.reduceEqDiff, ↓reduceIte, Nat.reduceAdd, Nat.reduceSub]
    (refine awR (zI rfl rfl rfl rfl ag35 sz35 (bl rfl) rfl) ?_); try simp only [nA, Nat.reduceBEq, Nat.reduceEqDiff, ↓reduceIte, Nat.reduceAdd, Nat.reduceSub]
    refine yB (op_call (b := false) rfl en22 (C22 (l := ys) (f := g) (p := r) hS) (RL.cons (by exact View.same rfl) (RL.cons (by exact View.same rfl) (RL.cons (by exact View.same rfl) (RL.nil)))) rfl (fun h => by cases h) rfl rfl) ?_; try simp only [nA, Nat.reduceBEq, Nat.reduceEqDiff, ↓reduceIte, Nat.reduceAdd, Nat.reduceSub]
    refine zF (zC rfl rfl) ?_; simp only [nA]
    refine zF (zZ rfl rfl rfl) ?_; try simp only [nA, Nat.reduceBEq, Nat.reduceEqDiff, ↓reduceIte, Nat.reduceAdd, Nat.reduceSub]
    refine zF (zZ rfl rfl rfl) ?_; try simp only [nA, Nat.reduceBEq, Nat.reduceEqDiff, ↓reduceIte, Nat.reduceAdd, Nat.reduceSub]
    refine zF (zD rfl rfl) ?_; simp only [nA, ↓reduceIte]
    refine zF (zD rfl rfl) ?_; simp only [nA, ↓reduceIte]
    refine zE (hK _ ?_); clear hK K
    refine zA fun K hK => zB (AWL.quiet ?_)
    refine zQ (zC rfl rfl) ?_; simp only [nA, ↓reduceIte]
    refine zQ (zC rfl rfl) ?_; simp only [nA, ↓reduceIte]
    (refine zQ (op_neq rfl rfl rfl) ?_); try simp only [nA, Nat.reduceBEq, Nat.reduceEqDiff, ↓reduceIte, Nat.reduceAdd, Nat.reduceSub]
    refine zQ (zC rfl rfl) ?_; simp only [nA]
    refine' aqOr' [_, _, _] [93,94,95] rfl rfl rfl rfl rfl rfl rfl rfl rfl rfl rfl rfl (fun hb => ?_) ?_; rotate_left
    ·
     (try simp only [zY] at hb)
     refine zQ (zC rfl rfl) ?_; simp only [nA, ↓reduceIte]
     refine zQ (zC rfl rfl) ?_; simp only [nA, ↓reduceIte]
     (refine zQ (op_neq rfl rfl rfl) ?_); try simp only [nA, Nat.reduceBEq, Nat.reduceEqDiff, ↓reduceIte, Nat.reduceAdd, Nat.reduceSub]
     (refine yJ rfl rfl rfl ?_; repeat (first | exact fun _ _ => rfl | refine zU rfl ?_))
    refine yM (hK _ ?_); clear hK K
    refine zL rfl rfl rfl (fun hc => ?_) (fun hc => ?_)
    ·
     (try simp only [zY] at hc); have hc6 := hc
     refine zA fun K hK => zB ?_
     refine zF (zD rfl rfl) ?_; try simp only [nA, Nat.reduceBEq, Nat.reduceEqDiff, ↓reduceIte, Nat.reduceAdd, Nat.reduceSub]
     refine zE (hK _ ?_); clear hK K
     skip
     refine zO ?_; (try simp only [zJ, zK, Nat.reduceEqDiff, ↓reduceIte]); exfalso; simp at hc
    (try simp only [zY] at hc); have hc6 := hc
    refine zN ?_
    (try simp only [zJ, zK, Nat.reduceEqDiff, ↓reduceIte])
    refine hK _ ?_; clear hK K
    refine zB ?_
    (refine zF (zR rfl rfl rfl (by omega)) ?_); try simp only [nA, Nat.reduceBEq, Nat.reduceEqDiff, ↓reduceIte, Nat.reduceAdd, Nat.reduceSub]
    refine zF (zC rfl rfl) ?_; simp only [nA]
    refine AWL.gh (Gh.drop 4) ?_; try simp only [nA, Nat.reduceBEq, Nat.reduceEqDiff, ↓reduceIte, Nat.reduceAdd, Nat.reduceSub]
    refine zE ?_
    refine ⟨(m + 1, _), by dsimp only; omega, by dsimp only; omega, ⟨rfl, rfl, rfl, rfl, rfl, rfl, rfl, rfl, rfl, rfl, rfl, rfl, rfl, rfl, trivial⟩, (by rfl), (by rfl)⟩
   (try simp only [zY] at hc); have hc5 := hc
   refine yI ?_; try simp only [zJ, zK, Nat.reduceEqDiff, ↓reduceIte]
   clear hK K
   (try simp only [zJ, zK, Nat.reduceEqDiff, ↓reduceIte])
   refine hK _ ?_; clear hK K
   refine zB ?_
   (refine zF (zR rfl rfl rfl (by omega)) ?_); try simp only [nA, Nat.reduceBEq, Nat.reduceEqDiff, ↓reduceIte, Nat.reduceAdd, Nat.reduceSub]
   refine zF (zC rfl rfl) ?_; simp only [nA]
   refine AWL.gh (Gh.drop 3) ?_; try simp only [nA, Nat.reduceBEq, Nat.reduceEqDiff, ↓reduceIte, Nat.reduceAdd, Nat.reduceSub]
   refine zE ?_
   refine ⟨(j + 1, (zM (l.take 2000) (zM (l.take 2000) (zM (l.take 2000) (zM (l.take 2000) (zM (l.take 2000) (zM (l.take 2000) k2)))))), _), by dsimp only; omega, by dsimp only; omega, ⟨rfl, rfl, rfl, rfl, rfl, rfl, rfl, rfl, rfl, rfl, trivial⟩, (by rfl), (by rfl)⟩
  (try simp only [zY] at hc); have hc3 := hc
  refine yI ?_; try simp only [zJ, zK, Nat.reduceEqDiff, ↓reduceIte]
  clear hK K
  (try simp only [zJ, zK, Nat.reduceEqDiff, ↓reduceIte])
  refine hK _ ?_; clear hK K
  refine zB ?_
  (refine zF (zR rfl rfl rfl (by omega)) ?_); try simp only [nA, Nat.reduceBEq, Nat.reduceEqDiff, ↓reduceIte, Nat.reduceAdd, Nat.reduceSub]
  refine zF (zC rfl rfl) ?_; simp only [nA]
  skip
  refine zE ?_
  refine ⟨(i + 1, k2, _), by dsimp only; omega, by dsimp only; omega, ⟨rfl, rfl, rfl, rfl, rfl, rfl, trivial⟩, (by rfl), (by rfl)⟩
 (try simp only [zY] at hc); have hc2 := hc
 refine yI ?_; try simp only [zJ, zK, Nat.reduceEqDiff, ↓reduceIte]
 clear hK K
 refine hK _ ?_; clear hK K
 refine zA fun K hK => zB ?_
 refine yB (OpQ.j (zT (b := true) rfl en14 (C14) (RL.nil) rfl)) ?_; try simp only [nA, Nat.reduceBEq, Nat.reduceEqDiff, ↓reduceIte, Nat.reduceAdd, Nat.reduceSub]
 refine zF (zD rfl rfl) ?_; simp only [nA]
 refine zE (hK _ ?_); clear hK K
 skip
 refine zO ?_; (try simp only [zJ, zK, Nat.reduceEqDiff, ↓reduceIte]); exact zS rfl (.tmp (bl rfl) rfl rfl .nil)
set_option maxRecDepth 100000
abbrev decIntSh : List Sh := [.int .i64]
theorem decInt {xs : List AV} (h : RL Mt xs decIntSh) : ∃ c : Int, xs = iv c := by
 obtain ⟨x0, xs, rfl, h0, h⟩ := h.cons_inv
 obtain rfl := h.nil_inv
 obtain ⟨v0, rfl⟩ := Mt.i64 h0
 exact ⟨v0, rfl⟩
abbrev decIntsSh : Sh := .sl decIntSh
theorem decInts {x : AV} (h : Mt x decIntsSh) : ∃ l : List Int, x = .ro (l.map iv) := by
 obtain ⟨es, rfl⟩ := h.sl_
 obtain ⟨l, rfl⟩ := rows_of fun e he => decInt (h.rows e he)
 exact ⟨l, rfl⟩
abbrev decPieceSh : List Sh := [.int .i64, .int .i64, .int .i64, .int .i64, .int .i64]
theorem decPiece {xs : List AV} (h : RL Mt xs decPieceSh) : ∃ c : Piece, xs = Piece.av c := by
 obtain ⟨x0, xs, rfl, h0, h⟩ := h.cons_inv
 obtain ⟨x1, xs, rfl, h1, h⟩ := h.cons_inv
 obtain ⟨x2, xs, rfl, h2, h⟩ := h.cons_inv
 obtain ⟨x3, xs, rfl, h3, h⟩ := h.cons_inv
 obtain ⟨x4, xs, rfl, h4, h⟩ := h.cons_inv
 obtain rfl := h.nil_inv
 obtain ⟨v0, rfl⟩ := Mt.i64 h0
 obtain ⟨v1, rfl⟩ := Mt.i64 h1
 obtain ⟨v2, rfl⟩ := Mt.i64 h2
 obtain ⟨v3, rfl⟩ := Mt.i64 h3
 obtain ⟨v4, rfl⟩ := Mt.i64 h4
 exact ⟨⟨⟨v0, v1, v2⟩, v3, v4⟩, rfl⟩
abbrev decPlateSh : List Sh := [.int .i64, .int .i64, .int .i64]
abbrev decContSh : List Sh := [.int .i64, .str, .int .i64, .str, .int .i64, .int .i64, .int .i64, .int .i64, .int .i64, .int .i64, .sl decPieceSh]
theorem decCont {xs : List AV} (h : RL Mt xs decContSh) : ∃ c : Container, xs = Container.av c := by
 obtain ⟨x0, xs, rfl, h0, h⟩ := h.cons_inv
 obtain ⟨x1, xs, rfl, h1, h⟩ := h.cons_inv
 obtain ⟨x2, xs, rfl, h2, h⟩ := h.cons_inv
 obtain ⟨x3, xs, rfl, h3, h⟩ := h.cons_inv
 obtain ⟨x4, xs, rfl, h4, h⟩ := h.cons_inv
 obtain ⟨x5, xs, rfl, h5, h⟩ := h.cons_inv
 obtain ⟨x6, xs, rfl, h6, h⟩ := h.cons_inv
 obtain ⟨x7, xs, rfl, h7, h⟩ := h.cons_inv
 obtain ⟨x8, xs, rfl, h8, h⟩ := h.cons_inv
 obtain ⟨x9, xs, rfl, h9, h⟩ := h.cons_inv
 obtain ⟨x10, xs, rfl, h10, h⟩ := h.cons_inv
 obtain rfl := h.nil_inv
 obtain ⟨v0, rfl⟩ := Mt.i64 h0
 obtain ⟨v1, rfl⟩ := Mt.s_ h1
 obtain ⟨v2, rfl⟩ := Mt.i64 h2
 obtain ⟨v3, rfl⟩ := Mt.s_ h3
 obtain ⟨v4, rfl⟩ := Mt.i64 h4
 obtain ⟨v5, rfl⟩ := Mt.i64 h5
 obtain ⟨v6, rfl⟩ := Mt.i64 h6
 obtain ⟨v7, rfl⟩ := Mt.i64 h7
 obtain ⟨v8, rfl⟩ := Mt.i64 h8
 obtain ⟨v9, rfl⟩ := Mt.i64 h9
 obtain ⟨e10, rfl⟩ := Mt.sl_ h10
 obtain ⟨v10, rfl⟩ := rows_of (fun e he => decPiece (h10.rows e he))
 exact ⟨⟨v0, ⟨v1, v2, v3, v4⟩, v5, v6, v7, v8, v9, v10⟩, rfl⟩
abbrev decContsSh : Sh := .sl decContSh
theorem decConts {x : AV} (h : Mt x decContsSh) : ∃ l : List Container, x = .ro (l.map Container.av) := by
 obtain ⟨es, rfl⟩ := h.sl_
 obtain ⟨l, rfl⟩ := rows_of fun e he => decCont (h.rows e he)
 exact ⟨l, rfl⟩
set_option maxRecDepth 100000
abbrev decFlightSh : List Sh := [.str, .int .i64, .str, .int .i64]
theorem decFlight {xs : List AV} (h : RL Mt xs decFlightSh) : ∃ c : Flight, xs = Flight.av c := by
 obtain ⟨x0, xs, rfl, h0, h⟩ := h.cons_inv
 obtain ⟨x1, xs, rfl, h1, h⟩ := h.cons_inv
 obtain ⟨x2, xs, rfl, h2, h⟩ := h.cons_inv
 obtain ⟨x3, xs, rfl, h3, h⟩ := h.cons_inv
 obtain rfl := h.nil_inv
 obtain ⟨v0, rfl⟩ := Mt.s_ h0
 obtain ⟨v1, rfl⟩ := Mt.i64 h1
 obtain ⟨v2, rfl⟩ := Mt.s_ h2
 obtain ⟨v3, rfl⟩ := Mt.i64 h3
 exact ⟨⟨v0, v1, v2, v3⟩, rfl⟩
abbrev decPiecesSh : Sh := .sl decPieceSh
abbrev decLegSh : List Sh := [.str, .int .i64, .str, .int .i64, .str, .str]
abbrev decBagSh : List Sh := [.int .i64, .int .i64, .int .i64, .str, .int .i64, .str, .int .i64, .str, .str, .str, .int .i64, .str, .int .i64, .str, .str, .sl decLegSh, .int .i64, .int .i64, .int .i64, .bool, .str, .str, .int .i64, .str, .bool]
end Go.Proofs.YtmdohphcolffmaaGreat
