import Derived.Test.YtmdohphcolffmaaCoc
namespace Go.Proofs.Ytmdohphcolffmaa
open Go.RowKit
set_option linter.unusedSimpArgs false
set_option linter.unusedVariables false
set_option maxRecDepth 100000
def headNe (c d : Container) : Bool := ((((((!decide (c.number = d.number) || !flEq c.flight d.flight) || !decide (c.categories = d.categories)) || !decide (c.limit = d.limit)) || !decide (c.most = d.most)) || !decide (c.position = d.position)) || !decide (c.arm = d.arm)) || !decide ((c.pieces.length : Int) = (d.pieces.length : Int))
def sameC (c d : Container) : Bool := !headNe c d && (List.range c.pieces.length).all fun i => piEq (c.pieces.getD i default) (d.pieces.getD i default)
theorem all_range_no {n i : Nat} {f : Nat → Bool} (h : i < n) (hf : f i = false) : (List.range n).all f = false := by
  rw [List.all_eq_false]
  exact ⟨i, List.mem_range.2 h, by rw [hf]; simp⟩
theorem all_range_yes {n i : Nat} {f : Nat → Bool} (h : ¬ i < n) (hf : ∀ k, k < i → f k = true) : (List.range n).all f = true := by
  rw [List.all_eq_true]
  intro k hk
  exact hf k (by have := List.mem_range.1 hk; omega)
theorem all_b_step {f : Nat → Bool} {i : Nat} (h : ∀ k, k < i → f k = true) (h2 : f i = true) : ∀ k, k < i + 1 → f k = true := fun k hk => by
  by_cases e : k = i
  · rw [e, h2]
  exact h k (by omega)
set_option maxHeartbeats 8000000 in
theorem C21 {c d : Container} (hcc : c.pieces.length ≤ 1000000000) : Fn Try.prog 21 [] [.agg c.av, .agg d.av] [.v (.bool (sameC c d))] [] := by
  refine Spec.body Try.func21 rfl Try.ntmps21 (by simp) rfl ?_; intro S0 own0 v0 w0
  (refine AW.seq_k ?_; intro K hK)
  refine AW.region ?_
  refine awJ (op_box rfl rfl rfl sz45 rfl) ?_; (simp only [nA, Nat.reduceBEq, Nat.reduceEqDiff, ↓reduceIte])
  refine awJ (op_box rfl rfl rfl sz45 rfl) ?_; (simp only [nA, Nat.reduceBEq, Nat.reduceEqDiff, ↓reduceIte])
  refine awP (op_assign rfl rfl) ?_
  refine AWL.nil ?_
  (refine hK _ ?_; clear hK K; (try simp only [nA, Nat.reduceBEq, Nat.reduceEqDiff, ↓reduceIte, Nat.reduceAdd, Nat.reduceSub]))
  (refine AW.seq_k ?_; intro K hK)
  (refine AW.seq_k ?_; intro K hK)
  refine AW.region (AWL.quiet ?_)
  (refine aqP (op_fa_ptr rfl rfl rfl fl45_0 (by exact sz3) (by decide) rfl) ?_)
  (refine aqR (op_load_ptr1 rfl rfl rfl rfl ag3 rfl rfl) ?_)
  (refine aqP (op_fa_ptr rfl rfl rfl fl45_0 (by exact sz3) (by decide) rfl) ?_)
  (refine aqR (op_load_ptr1 rfl rfl rfl rfl ag3 rfl rfl) ?_)
  (refine aqP (op_neq rfl rfl rfl) ?_)
  refine aqP (op_move rfl rfl) ?_
  refine' aqOr' [_, _, _, _, _] [12,13,14,15,16] rfl rfl rfl rfl rfl rfl rfl rfl rfl rfl rfl rfl (fun hb => ?_) ?_; rotate_left
  ·
   (try simp only [hcS] at hb)
   (refine aqP (op_fa_ptr rfl rfl rfl fl45_1 (by exact sz30) (by decide) rfl) ?_)
   (refine aqR (op_load_ptr rfl rfl rfl rfl ag30 sz30 (bl rfl) rfl) ?_)
   (refine aqP (op_fa_ptr rfl rfl rfl fl45_1 (by exact sz30) (by decide) rfl) ?_)
   (refine aqR (op_load_ptr rfl rfl rfl rfl ag30 sz30 (bl rfl) rfl) ?_)
   refine aqP (op_neq30 rfl rfl rfl) ?_; (simp only [nA])
   (refine aqSeg rfl rfl rfl ?_; repeat (first | exact fun _ _ => rfl | refine upd_out rfl ?_))
  simp only [nA]
  refine aqP (op_move rfl rfl) ?_
  refine' aqOr' [_, _, _, _, _] [19,20,21,22,23] rfl rfl rfl rfl rfl rfl rfl rfl rfl rfl rfl rfl (fun hb => ?_) ?_; rotate_left
  ·
   (try simp only [hcS] at hb)
   (refine aqP (op_fa_ptr rfl rfl rfl fl45_2 (by exact sz3) (by decide) rfl) ?_)
   (refine aqR (op_load_ptr1 rfl rfl rfl rfl ag3 rfl rfl) ?_)
   (refine aqP (op_fa_ptr rfl rfl rfl fl45_2 (by exact sz3) (by decide) rfl) ?_)
   (refine aqR (op_load_ptr1 rfl rfl rfl rfl ag3 rfl rfl) ?_)
   (refine aqP (op_neq rfl rfl rfl) ?_)
   (refine aqSeg rfl rfl rfl ?_; repeat (first | exact fun _ _ => rfl | refine upd_out rfl ?_))
  simp only [nA]
  refine aqP (op_move rfl rfl) ?_
  refine' aqOr' [_, _, _, _, _] [26,27,28,29,30] rfl rfl rfl rfl rfl rfl rfl rfl rfl rfl rfl rfl (fun hb => ?_) ?_; rotate_left
  ·
   (try simp only [hcS] at hb)
   (refine aqP (op_fa_ptr rfl rfl rfl fl45_3 (by exact sz3) (by decide) rfl) ?_)
   (refine aqR (op_load_ptr1 rfl rfl rfl rfl ag3 rfl rfl) ?_)
   (refine aqP (op_fa_ptr rfl rfl rfl fl45_3 (by exact sz3) (by decide) rfl) ?_)
   (refine aqR (op_load_ptr1 rfl rfl rfl rfl ag3 rfl rfl) ?_)
   (refine aqP (op_neq rfl rfl rfl) ?_)
   (refine aqSeg rfl rfl rfl ?_; repeat (first | exact fun _ _ => rfl | refine upd_out rfl ?_))
  simp only [nA]
  refine aqP (op_move rfl rfl) ?_
  refine' aqOr' [_, _, _, _, _] [33,34,35,36,37] rfl rfl rfl rfl rfl rfl rfl rfl rfl rfl rfl rfl (fun hb => ?_) ?_; rotate_left
  ·
   (try simp only [hcS] at hb)
   (refine aqP (op_fa_ptr rfl rfl rfl fl45_4 (by exact sz3) (by decide) rfl) ?_)
   (refine aqR (op_load_ptr1 rfl rfl rfl rfl ag3 rfl rfl) ?_)
   (refine aqP (op_fa_ptr rfl rfl rfl fl45_4 (by exact sz3) (by decide) rfl) ?_)
   (refine aqR (op_load_ptr1 rfl rfl rfl rfl ag3 rfl rfl) ?_)
   (refine aqP (op_neq rfl rfl rfl) ?_)
   (refine aqSeg rfl rfl rfl ?_; repeat (first | exact fun _ _ => rfl | refine upd_out rfl ?_))
  simp only [nA]
  refine aqP (op_move rfl rfl) ?_
  refine' aqOr' [_, _, _, _, _] [40,41,42,43,44] rfl rfl rfl rfl rfl rfl rfl rfl rfl rfl rfl rfl (fun hb => ?_) ?_; rotate_left
  ·
   (try simp only [hcS] at hb)
   (refine aqP (op_fa_ptr rfl rfl rfl fl45_5 (by exact sz3) (by decide) rfl) ?_)
   (refine aqR (op_load_ptr1 rfl rfl rfl rfl ag3 rfl rfl) ?_)
   (refine aqP (op_fa_ptr rfl rfl rfl fl45_5 (by exact sz3) (by decide) rfl) ?_)
   (refine aqR (op_load_ptr1 rfl rfl rfl rfl ag3 rfl rfl) ?_)
   (refine aqP (op_neq rfl rfl rfl) ?_)
   (refine aqSeg rfl rfl rfl ?_; repeat (first | exact fun _ _ => rfl | refine upd_out rfl ?_))
  simp only [nA]
  refine aqP (op_move rfl rfl) ?_
  refine' aqOr' [_, _, _, _, _] [47,48,49,50,51] rfl rfl rfl rfl rfl rfl rfl rfl rfl rfl rfl rfl (fun hb => ?_) ?_; rotate_left
  ·
   (try simp only [hcS] at hb)
   (refine aqP (op_fa_ptr rfl rfl rfl fl45_6 (by exact sz3) (by decide) rfl) ?_)
   (refine aqR (op_load_ptr1 rfl rfl rfl rfl ag3 rfl rfl) ?_)
   (refine aqP (op_fa_ptr rfl rfl rfl fl45_6 (by exact sz3) (by decide) rfl) ?_)
   (refine aqR (op_load_ptr1 rfl rfl rfl rfl ag3 rfl rfl) ?_)
   (refine aqP (op_neq rfl rfl rfl) ?_)
   (refine aqSeg rfl rfl rfl ?_; repeat (first | exact fun _ _ => rfl | refine upd_out rfl ?_))
  simp only [nA]
  refine aqP (op_move rfl rfl) ?_
  refine' aqOr' [_, _, _, _, _, _, _] [54,55,56,57,58,59,60] rfl rfl rfl rfl rfl rfl rfl rfl rfl rfl rfl rfl (fun hb => ?_) ?_; rotate_left
  ·
   (try simp only [hcS] at hb)
   (refine aqP (op_fa_ptr rfl rfl rfl fl45_7 (by exact sz27) (by decide) rfl) ?_)
   (refine aqR (op_load_ptr1 rfl rfl rfl rfl ag27 rfl rfl) ?_)
   (refine aqP (op_len_ro rfl rfl Try.underlying27 (by exact .inr (.inl ⟨_, rfl, rfl⟩))) ?_)
   (refine aqP (op_fa_ptr rfl rfl rfl fl45_7 (by exact sz27) (by decide) rfl) ?_)
   (refine aqR (op_load_ptr1 rfl rfl rfl rfl ag27 rfl rfl) ?_)
   (refine aqP (op_len_ro rfl rfl Try.underlying27 (by exact .inr (.inl ⟨_, rfl, rfl⟩))) ?_)
   (refine aqP (op_neq rfl rfl rfl) ?_)
   (refine aqSeg rfl rfl rfl ?_; repeat (first | exact fun _ _ => rfl | refine upd_out rfl ?_))
  simp only [nA]
  refine AQ.nil ?_
  (refine hK _ ?_; clear hK K; (skip))
  refine AW.cond rfl rfl rfl (fun hc => ?_) (fun hc => ?_)
  ·
   have hc1 := hc
   (refine AW.seq_k ?_; intro K hK)
   refine AW.region ?_
   refine awP (op_assign rfl rfl) ?_
   refine AWL.nil ?_
   (refine hK _ ?_; clear hK K; (try simp only [nA, Nat.reduceBEq, Nat.reduceEqDiff, ↓reduceIte, Nat.reduceAdd, Nat.reduceSub]))
   skip
   refine AW.ret ?_; (try simp only [thenE, inBlk, Nat.reduceEqDiff, ↓reduceIte]); rw [show sameC c d = false by unfold sameC; rw [show headNe c d = true from hc1]; rfl]; exact RQ.of0 rfl (.tmp (bl rfl) rfl rfl .nil)
  have hc1 := hc
  refine AW.skip ?_
  (refine hK _ ?_; clear hK K; (skip))
  (refine AW.seq_k ?_; intro K hK)
  (refine AW.seq_k ?_; intro K hK)
  refine AW.region ?_
  refine awP (op_assign rfl rfl) ?_
  refine AWL.nil ?_
  (refine hK _ ?_; clear hK K; (try simp only [nA, Nat.reduceBEq, Nat.reduceEqDiff, ↓reduceIte, Nat.reduceAdd, Nat.reduceSub]))
  refine AW.block ?_
  have hh : headNe c d = false := hc1; have hle : c.pieces.length = d.pieces.length := (by unfold headNe at hh; simp at hh; omega); refine AW.loopI (fun i => [(2, .ptr 0 1 0 0), (3, .ptr 1 2 0 0), (5, .v (.int .i64 (i : Nat)))]) (fun i => ⟨[(1, .own 45 [c.av]), (2, .own 45 [d.av])], 3⟩) (fun i => i ≤ c.pieces.length ∧ ∀ k, k < i → piEq (c.pieces.getD k default) (d.pieces.getD k default) = true) (fun i => c.pieces.length - i) 0 (by simp) ⟨rfl, rfl, rfl, trivial⟩ rfl ?_; intro i ρ hi; simp only [updL]
  (refine AW.seq_k ?_; intro K hK)
  (refine AW.seq_k ?_; intro K hK)
  refine AW.region ?_
  refine awP (op_move rfl rfl) ?_
  (refine awP (op_fa_ptr rfl rfl rfl fl45_7 (by exact sz27) (by decide) rfl) ?_)
  (refine awR (op_load_ptr1 rfl rfl rfl rfl ag27 rfl rfl) ?_)
  (refine awP (op_len_ro rfl rfl Try.underlying27 (by exact .inr (.inl ⟨_, rfl, rfl⟩))) ?_)
  refine awP (op_lss rfl rfl rfl) ?_
  refine AWL.nil ?_
  (refine hK _ ?_; clear hK K; (simp only [nA, ↓reduceIte]))
  refine AW.cond rfl rfl rfl (fun hc => ?_) (fun hc => ?_)
  ·
   have hc2 := hc; have hlt : i < c.pieces.length := (by simpa using hc2)
   refine AW.skip ?_
   (refine hK _ ?_; clear hK K; (skip))
   (refine AW.seq_k ?_; intro K hK)
   refine AW.block ?_
   (refine AW.seq_k ?_; intro K hK)
   refine AW.quiet mix (by kernel_rfl) ?_
   (refine aqP (op_fa_ptr rfl rfl rfl fl45_7 (by exact sz27) (by decide) rfl) ?_)
   (refine aqR (op_load_ptr1 rfl rfl rfl rfl ag27 rfl rfl) ?_)
   refine aqP (op_move rfl rfl) ?_
   (refine aqP (op_ia_ro i rfl (.inl rfl) rfl Try.underlying27 rfl (get_mapD (by omega)) (by exact sz41) (bl rfl)) ?_)
   (refine aqR (op_load_rop rfl rfl ag41 sz41 (bl rfl) (by decide) rfl) ?_)
   (refine aqP (op_fa_ptr rfl rfl rfl fl45_7 (by exact sz27) (by decide) rfl) ?_)
   (refine aqR (op_load_ptr1 rfl rfl rfl rfl ag27 rfl rfl) ?_)
   refine aqP (op_move rfl rfl) ?_
   (refine aqP (op_ia_ro i rfl (.inl rfl) rfl Try.underlying27 rfl (get_mapD (by omega)) (by exact sz41) (bl rfl)) ?_)
   (refine aqR (op_load_rop rfl rfl ag41 sz41 (bl rfl) (by decide) rfl) ?_)
   refine aqP (op_neq41 rfl rfl rfl) ?_; (simp only [nA, ↓reduceIte])
   refine AQ.nil ?_
   (refine hK _ ?_; clear hK K; (skip))
   refine AW.cond rfl rfl rfl (fun hc => ?_) (fun hc => ?_)
   ·
    have hc3 := hc
    (refine AW.seq_k ?_; intro K hK)
    refine AW.region ?_
    refine awP (op_assign rfl rfl) ?_
    refine AWL.nil ?_
    (refine hK _ ?_; clear hK K; (try simp only [nA, Nat.reduceBEq, Nat.reduceEqDiff, ↓reduceIte, Nat.reduceAdd, Nat.reduceSub]))
    skip
    refine AW.ret ?_; (try simp only [thenE, inBlk, Nat.reduceEqDiff, ↓reduceIte]); rw [show sameC c d = false by unfold sameC; rw [all_range_no hlt (by simpa using hc3)]; simp]; exact RQ.of0 rfl (.tmp (bl rfl) rfl rfl .nil)
   have hc3 := hc
   refine AW.skip ?_
   (try simp only [thenE, inBlk, Nat.reduceEqDiff, ↓reduceIte])
   (refine hK _ ?_; clear hK K; (skip))
   refine AW.region ?_
   refine awP (op_move rfl rfl) ?_
   (refine awP (op_addi rfl rfl rfl (by omega)) ?_)
   refine awP (op_assign rfl rfl) ?_
   skip
   refine AWL.nil ?_
   refine ⟨i + 1, ⟨by omega, all_b_step hi.2 (by simpa using hc3)⟩, by omega, ⟨rfl, rfl, rfl, trivial⟩, (by rfl), (by rfl)⟩
  have hc2 := hc; have hnl : ¬ i < c.pieces.length := (by simpa using hc2)
  refine AW.exit ?_; (try simp only [thenE, inBlk, Nat.reduceEqDiff, ↓reduceIte])
  clear hK K
  (refine hK _ ?_; clear hK K; (skip))
  (refine AW.seq_k ?_; intro K hK)
  refine AW.region ?_
  refine awP (op_assign rfl rfl) ?_
  refine AWL.nil ?_
  (refine hK _ ?_; clear hK K; (try simp only [nA, Nat.reduceBEq, Nat.reduceEqDiff, ↓reduceIte, Nat.reduceAdd, Nat.reduceSub]))
  skip
  refine AW.ret ?_; (try simp only [thenE, inBlk, Nat.reduceEqDiff, ↓reduceIte]); rw [show sameC c d = true by unfold sameC; rw [hh, all_range_yes hnl hi.2]; rfl]; exact RQ.of0 rfl (.tmp (bl rfl) rfl rfl .nil)
end Go.Proofs.Ytmdohphcolffmaa
namespace Go.Proofs.Ytmdohphcolffmaa
open Go.RowKit
set_option linter.unusedSimpArgs false
set_option linter.unusedVariables false
set_option maxRecDepth 100000
abbrev flight0 : Flight := ⟨⟨#[66, 65]⟩, 1, ⟨#[]⟩, 1⟩
abbrev pieceP (i w : Int) : Piece := ⟨platesP i, w, 0⟩
abbrev emptyC : Container := ⟨7, flight0, 1, 100, 3, 0, 0, []⟩
end Go.Proofs.Ytmdohphcolffmaa
namespace Go.Proofs.Ytmdohphcolffmaa
open Go.RowKit
set_option linter.unusedSimpArgs false
set_option linter.unusedVariables false
set_option maxRecDepth 100000
theorem val_intro {c : Container} (h1 : coB c = true) (h2 : c.pieces.length ≤ 60) (h3 : ∀ p ∈ c.pieces, piB p = true) (h4 : Asc c.pieces) : valC c = 0 := by
  refine val_ok (i := c.pieces.length) h1 h2 (by omega) fun k hk => ?_
  rw [errI_at hk, if_neg (by rw [h3 _ (List.getElem_mem hk)]; simp)]
  split
  · rfl
  rename_i h0
  have := h4 (k - 1) k (by omega) hk (by omega)
  rcases cmpP_cases c.pieces[k - 1].plate c.pieces[k].plate with ⟨_, e⟩ | ⟨h, _⟩ | ⟨h, _⟩
  · rw [if_neg (by omega), if_neg (by omega)]
  · rw [h] at this; exact absurd this (PLt.irrefl _)
  exact absurd (this.trans h) (PLt.irrefl _)
theorem Asc.snoc {l : List Piece} {p : Piece} (h : Asc l) (hp : ∀ x ∈ l, PLt x.plate p.plate) : Asc (l ++ [p]) := by
  intro i j hi hj hij
  have hjl : j ≤ l.length := by simp at hj; omega
  have hil : i < l.length := by omega
  rw [List.getElem_append_left hil]
  by_cases e : j < l.length
  · rw [List.getElem_append_left e]; exact h i j hil e hij
  rw [List.getElem_append_right (by omega)]
  simp
  exact hp _ (List.getElem_mem hil)
theorem pos_end {l : List Piece} {p : Plate} (hp : ∀ x ∈ l, PLt x.plate p) : posP l p = l.length :=
  pos_eq (Nat.le_refl _) (fun i h _ => cmpP_lt.2 (hp _ (List.getElem_mem h))) fun i h h' => by omega
theorem found_end {l : List Piece} {p : Plate} (hp : ∀ x ∈ l, PLt x.plate p) : foundP l p = false := by
  unfold foundP
  rw [pos_end hp]
  simp
theorem plates_lt {i : Nat} (h : i < 100) : platesP i = ⟨0, 117, 1000 + i⟩ := by
  have e : gmod (i : Int) 1000 = i := by
    unfold gmod
    rw [if_neg (by omega), Int.tmod_eq_emod_of_nonneg (by omega), Int.emod_eq_of_lt (by omega) (by omega), if_neg (by omega)]
  unfold platesP
  rw [e]
  congr 1 <;> omega
structure Good (i : Nat) (c : Container) : Prop where
  val : valC c = 0
  len : c.pieces.length = i
  below : ∀ x ∈ c.pieces, x.plate.lead = 0 ∧ x.plate.airline = 117 ∧ x.plate.serial < 1000 + i ∧ x.category = 0
  most : c.most = 3
  cat : c.categories = 1
theorem Good.zero : Good 0 emptyC := ⟨by kernel_rfl, rfl, by simp, rfl, rfl⟩
theorem Good.step {i : Nat} {c : Container} {w : Int} (h : Good i c) (hi : i < 20) (hw : 1 ≤ w ∧ w ≤ 999) :
    (putC c (pieceP i w) false).2 = 0 ∧ Good (i + 1) (putC c (pieceP i w) false).1 ∧ weightC (putC c (pieceP i w) false).1 = weightC c + w := by
  have hv := val_inv h.val
  have hpl := plates_lt (i := i) (by omega)
  have hlt : ∀ x ∈ c.pieces, PLt x.plate (platesP i) := fun x hx => by
    obtain ⟨h1, h2, h3, _⟩ := h.below x hx
    rw [hpl]
    unfold PLt
    simp only
    omega
  have hpi : piB (pieceP i w) = true := by
    unfold piB plB inB
    rw [show (pieceP (i : Int) w).plate = ⟨0, 117, 1000 + i⟩ from hpl]
    simp
    omega
  have hlen := h.len
  have e : putC c (pieceP i w) false = (insC c (pieceP i w), 0) := by
    unfold putC
    rw [if_neg (by simp [h.val]), if_neg (by simp [hpi]), if_neg (by rw [found_end hlt]; simp), if_neg (by simp), if_neg (by simp), if_neg (by omega)]
  have e2 : (insC c (pieceP i w)).pieces = c.pieces ++ [pieceP i w] := by
    unfold insC
    simp only
    rw [pos_end hlt]
    simp
  have hval : valC (insC c (pieceP i w)) = 0 := by
    refine val_intro hv.1 (by rw [e2]; simp; omega) (fun p hp => ?_) (by rw [e2]; exact hv.2.2.2.snoc hlt)
    rw [e2] at hp
    rcases List.mem_append.1 hp with hp | hp
    · exact hv.2.2.1 p hp
    have : p = pieceP i w := by simpa using hp
    rw [this]; exact hpi
  rw [e]
  refine ⟨rfl, ⟨hval, by simp only; rw [e2]; simp; omega, fun x hx => ?_, h.most, h.cat⟩, ?_⟩
  · simp only at hx
    rw [e2] at hx
    rcases List.mem_append.1 hx with hx | hx
    · obtain ⟨h1, h2, h3, h4⟩ := h.below x hx
      exact ⟨h1, h2, by omega, h4⟩
    have : x = pieceP i w := by simpa using hx
    rw [this]
    rw [show (pieceP (i : Int) w).plate = ⟨0, 117, 1000 + i⟩ from hpl]
    exact ⟨rfl, rfl, by dsimp only; omega, rfl⟩
  unfold weightC
  rw [if_neg (by simp [hval]), if_neg (by simp [h.val])]
  simp only
  rw [e2]
  simp [sumW]
theorem Good.weight {i : Nat} {c : Container} (h : Good i c) (hi : i ≤ 20) : 0 ≤ weightC c ∧ weightC c ≤ 20000 := by
  unfold weightC
  rw [if_neg (by simp [h.val])]
  have := sum_bd c.pieces (val_w h.val)
  have := h.len
  omega
theorem Good.over {c : Container} (h : Good 20 c) : overC c = true := by
  unfold overC
  rw [if_neg (by simp [h.val])]
  split
  · rfl
  rw [h.most, h.len]
  simp
end Go.Proofs.Ytmdohphcolffmaa
namespace Go.Proofs.Ytmdohphcolffmaa
open Go.RowKit
set_option linter.unusedSimpArgs false
set_option linter.unusedVariables false
set_option maxRecDepth 100000
def insL (l : List Piece) (p : Piece) : List Piece := l.take (posP l p.plate) ++ p :: l.drop (posP l p.plate)
theorem insL_perm (l : List Piece) (p : Piece) : (insL l p).Perm (p :: l) := by
  unfold insL
  have h : (l.take (posP l p.plate) ++ p :: l.drop (posP l p.plate)).Perm (p :: (l.take (posP l p.plate) ++ l.drop (posP l p.plate))) := List.perm_middle
  rwa [List.take_append_drop] at h
def AscP (l : List Piece) : Prop := l.Pairwise fun a b => PLt a.plate b.plate
theorem ascP_iff {l : List Piece} : AscP l ↔ Asc l := by
  unfold AscP Asc
  rw [List.pairwise_iff_getElem]
theorem ascP_perm : ∀ {l m : List Piece}, AscP l → AscP m → l.Perm m → l = m
  | [], m, _, _, h => (List.nil_perm.1 h).symm
  | a :: l, [], _, _, h => by have := h.length_eq; simp at this
  | a :: l, b :: m, hl, hm, h => by
    have hla := List.pairwise_cons.1 hl
    have hmb := List.pairwise_cons.1 hm
    have e : a = b := by
      have h1 : a ∈ b :: m := h.mem_iff.1 (by simp)
      have h2 : b ∈ a :: l := h.mem_iff.2 (by simp)
      rcases List.mem_cons.1 h1 with h1 | h1
      · exact h1
      rcases List.mem_cons.1 h2 with h2 | h2
      · exact h2.symm
      exact absurd ((hmb.1 a h1).trans (hla.1 b h2)) (PLt.irrefl _)
    subst e
    rw [ascP_perm hla.2 hmb.2 (List.perm_cons a |>.1 h)]
theorem posP_cons (a : Piece) (l : List Piece) (p : Plate) : posP (a :: l) p = if cmpP a.plate p < 0 then posP l p + 1 else 0 := by
  unfold posP
  rw [List.takeWhile_cons]
  by_cases h : cmpP a.plate p < 0
  · rw [if_pos h, if_pos (by simpa using h)]; rfl
  rw [if_neg h, if_neg (by simpa using h)]; rfl
theorem insL_cons (a : Piece) (l : List Piece) (p : Piece) : insL (a :: l) p = if cmpP a.plate p.plate < 0 then a :: insL l p else p :: a :: l := by
  unfold insL
  rw [posP_cons]
  by_cases h : cmpP a.plate p.plate < 0
  · rw [if_pos h, if_pos h]; rfl
  rw [if_neg h, if_neg h]; rfl
theorem plt_of {p q : Plate} (h : ¬ cmpP p q < 0) (hne : p ≠ q) : PLt q p := by
  rcases cmpP_cases p q with ⟨_, e⟩ | ⟨e, _⟩ | ⟨h, _⟩
  · omega
  · exact absurd e hne
  exact h
theorem insL_asc : ∀ {l : List Piece} {p : Piece}, AscP l → (∀ x ∈ l, x.plate ≠ p.plate) → AscP (insL l p)
  | [], p, _, _ => by unfold insL AscP; simp [posP]
  | a :: l, p, h, hne => by
    have ha := List.pairwise_cons.1 h
    rw [insL_cons]
    split
    · rename_i hc
      refine List.pairwise_cons.2 ⟨fun x hx => ?_, insL_asc ha.2 fun x hx => hne x (by simp [hx])⟩
      rcases List.mem_cons.1 ((insL_perm l p).mem_iff.1 hx) with rfl | hx
      · exact cmpP_lt.1 hc
      exact ha.1 x hx
    rename_i hc
    have hpa := plt_of hc (hne a (by simp))
    refine List.pairwise_cons.2 ⟨fun x hx => ?_, h⟩
    rcases List.mem_cons.1 hx with rfl | hx
    · exact hpa
    exact hpa.trans (ha.1 x hx)
theorem found_no : ∀ {l : List Piece} {p : Plate}, (∀ x ∈ l, x.plate ≠ p) → foundP l p = false := by
  intro l p h
  unfold foundP
  by_cases hl : posP l p < l.length
  · have : (l.getD (posP l p) default).plate ≠ p := by
      rw [List.getD_eq_getElem?_getD, List.getElem?_eq_getElem hl]
      exact h _ (List.getElem_mem hl)
    rw [show decide ((l.getD (posP l p) default).plate = p) = false from decide_eq_false this, Bool.and_false]
  rw [show decide ((posP l p : Int) < (l.length : Int)) = false from decide_eq_false (by omega)]; rfl
/-- The container of the examples, with pieces. -/
abbrev withP (m : List Piece) : Container := ⟨7, flight0, 1, 100, 3, 0, 0, m⟩
end Go.Proofs.Ytmdohphcolffmaa
namespace Go.Proofs.Ytmdohphcolffmaa
open Go.RowKit
set_option linter.unusedSimpArgs false
set_option linter.unusedVariables false
set_option maxRecDepth 100000
/-- What is told of a slice of integers that came in. -/
def IsRow (k : IntKind) (w : World) (a : Option Addr) (len cap : Nat) (zs : List Int) : Prop :=
  (a = none ∧ len = 0 ∧ cap = 0 ∧ zs = []) ∨
  ∃ x, a = some x ∧ len ≤ cap ∧ cap ≤ maxLen ∧ zs.length = cap ∧ (∀ i, i < zs.length → w.cell? (x.add i) = some (.int k (zs.getD i 0))) ∧ ∀ n ∈ zs, (Lit.int k n).wf = true
theorem flat_iv : ∀ l : List Int, (l.map iv).flatten = l.map fun n => AV.v (.int .i64 n)
  | [] => rfl
  | n :: l => by rw [List.map_cons, List.flatten_cons, flat_iv l]; rfl
theorem IsRow.av {w : World} {a : Option Addr} {len cap : Nat} {zs : List Int} (h : IsRow .i64 w a len cap zs) :
    AggOK Try.prog (fun k => k < w.heap.size) w (insT []) [] (.slice a len cap) (.ro ((zs.take len).map iv)) := by
  rcases h with ⟨rfl, rfl, rfl, rfl⟩ | ⟨x, rfl, h1, h2, h3, h4, h5⟩
  · exact rep_ro_nil
  have hl : (zs.take len).length = len := by rw [List.length_take]; omega
  have hget : ∀ j u, ((zs.take len).map fun n => Value.int .i64 n)[j]? = some u → w.cell? (x.add j) = some u := fun j u hu => by
    rw [List.getElem?_map, List.getElem?_take] at hu
    split at hu
    · have hj : j < zs.length := by omega
      rw [h4 j hj]
      rw [List.getElem?_eq_getElem hj] at hu
      simp at hu
      rw [← hu]
      simp [hj]
    simp at hu
  have hrep : Rep Try.prog (fun k => k < w.heap.size) w [] (.slice (some x) ((zs.take len).map iv).length cap) (.ro ((zs.take len).map iv)) := by
    refine Rep.ro (us := (zs.take len).map fun n => Value.int .i64 n) (sz := 1) (by rw [List.length_map, hl]; exact h1) h2 (iv_len _) (fun hn => ?_) (by rw [flat_iv, List.length_map, List.length_map]) fun i u y hu hy => ?_
    · have h0 := hget 0 _ (List.getElem?_eq_getElem hn)
      obtain ⟨g, o, sp⟩ := x
      have : sp = none := by simpa [Addr.add] using World.cell?_spot h0
      subst this
      refine ⟨g, o, rfl, World.block_lt_of_cell? w _ h0, fun j u hu => ?_⟩
      have := hget j u hu
      rw [add_off] at this
      exact this
    rw [flat_iv, List.getElem?_map] at hy
    rw [List.getElem?_map] at hu
    cases hq : (zs.take len)[i]? with
    | none => rw [hq] at hu; cases hu
    | some n =>
      rw [hq] at hu hy
      simp only [Option.map_some, Option.some.injEq] at hu hy
      subst hu; subst hy
      exact Rep.v rfl
  rw [List.length_map, hl] at hrep
  exact hrep
end Go.Proofs.Ytmdohphcolffmaa
namespace Go.Proofs.Ytmdohphcolffmaa
open Go.RowKit
set_option linter.unusedSimpArgs false
set_option linter.unusedVariables false
set_option maxRecDepth 100000
/-- What has been gathered before round i. -/
structure Pcs (i : Nat) (m : List Piece) : Prop where
  asc : AscP m
  ok : ∀ x ∈ m, piB x = true
  below : ∀ x ∈ m, x.plate.lead = 0 ∧ x.plate.airline = 117 ∧ x.plate.serial < 1000 + i
  len : m.length ≤ i
theorem Pcs.zero : Pcs 0 [] := ⟨List.Pairwise.nil, by simp, by simp, by simp⟩
theorem Pcs.skip {i : Nat} {m : List Piece} (h : Pcs i m) : Pcs (i + 1) m :=
  ⟨h.asc, h.ok, fun x hx => by have := h.below x hx; omega, by have := h.len; omega⟩
theorem Pcs.add {i : Nat} {m : List Piece} {w c : Int} (h : Pcs i m) (hi : i < 12) (hw : 1 ≤ w ∧ w ≤ 30) (hc : 0 ≤ c ∧ c ≤ 4) : Pcs (i + 1) (m ++ [⟨platesP i, w, c⟩]) := by
  have hpl := plates_lt (i := i) (by omega)
  refine ⟨?_, fun x hx => ?_, fun x hx => ?_, by have := h.len; simp; omega⟩
  · refine List.pairwise_append.2 ⟨h.asc, List.pairwise_singleton _ _, fun a ha b hb => ?_⟩
    obtain rfl : b = _ := by simpa using hb
    obtain ⟨h1, h2, h3⟩ := h.below a ha
    show PLt a.plate (platesP i)
    rw [hpl]
    unfold PLt
    simp only
    omega
  · rcases List.mem_append.1 hx with hx | hx
    · exact h.ok x hx
    obtain rfl : x = _ := by simpa using hx
    unfold piB plB inB
    rw [hpl]
    simp
    omega
  rcases List.mem_append.1 hx with hx | hx
  · have := h.below x hx; omega
  obtain rfl : x = _ := by simpa using hx
  rw [hpl]
  exact ⟨rfl, rfl, by dsimp only; omega⟩
/-- What is forced, and what remains. -/
structure Rst (m c rest : List Piece) : Prop where
  asc : AscP c
  perm : (c ++ rest).Perm m
theorem Rst.zero (m : List Piece) : Rst m [] m := ⟨List.Pairwise.nil, by simp⟩
theorem Rst.len {m c rest : List Piece} (h : Rst m c rest) : c.length + rest.length = m.length := by
  have := h.perm.length_eq
  rwa [List.length_append] at this
theorem Rst.fin {m c : List Piece} (hm : Pcs 12 m) (h : Rst m c []) : c = m := by
  have := h.perm
  rw [List.append_nil] at this
  exact ascP_perm h.asc hm.asc this
theorem piEq_self (p : Piece) : piEq p p = true := by unfold piEq; simp
theorem sameC_self (c : Container) : sameC c c = true := by
  unfold sameC headNe
  rw [show flEq c.flight c.flight = true by unfold flEq; simp]
  simp [piEq_self]
end Go.Proofs.Ytmdohphcolffmaa
namespace Go.Proofs.Ytmdohphcolffmaa
open Go.RowKit
set_option linter.unusedSimpArgs false
set_option linter.unusedVariables false
set_option maxRecDepth 100000
def delC (c : Container) (p : Plate) : Container := { c with pieces := c.pieces.take (posP c.pieces p) ++ c.pieces.drop (posP c.pieces p + 1) }
def remC (c : Container) (p : Plate) : Container × Int :=
  if valC c ≠ 0 then (zeroC, valC c) else if foundP c.pieces p = false then (zeroC, 6) else (delC c p, 0)
end Go.Proofs.Ytmdohphcolffmaa
namespace Go.Proofs.Ytmdohphcolffmaa
open Go.RowKit
set_option linter.unusedSimpArgs false
set_option linter.unusedVariables false
set_option maxRecDepth 100000
theorem iv_flat (l : List Int) : ∀ r ∈ l.map iv, ∀ c ∈ r, flatA c = true := fun r hr c hc => by
  obtain ⟨p, _, rfl⟩ := List.mem_map.1 hr
  obtain rfl : c = _ := by simpa using hc
  rfl
def pickV (l : List Int) (k : Nat) (xs : List Int) : Int := xs.getD (gmod (rawV l k) (xs.length : Nat)).toNat default
theorem pickV_mem {l : List Int} {k : Nat} {xs : List Int} (h : 1 ≤ xs.length) : pickV l k xs ∈ xs := by
  have hg := gmod_bd (x := rawV l k) (n := (xs.length : Nat)) (by omega)
  unfold pickV
  rw [List.getD_eq_getElem?_getD, List.getElem?_eq_getElem (by omega)]
  exact List.getElem_mem _
set_option maxHeartbeats 8000000 in
theorem C31 {l : List Int} {k : Nat} {xs : List Int} (hl : l.length ≤ 2000) (h1 : 1 ≤ xs.length) (h2 : xs.length ≤ 1000) : Fn Try.prog 31 [.own 65 [srcRow l k]] [.ptr 0 0 0 0, .ro (xs.map iv)] [.v (.int .i64 (pickV l k xs))] [.own 65 [srcRow l (rawN l k)]] := by
  have hg := gmod_bd (x := rawV l k) (n := (xs.length : Nat)) (by omega)
  refine Spec.body Try.func31 rfl Try.ntmps31 (by simp) rfl ?_; intro S0 own0 v0 w0
  (refine AW.seq_k ?_; intro K hK)
  refine AW.region ?_
  refine awP (op_assign rfl rfl) ?_; (try simp only [nA, Nat.reduceBEq, Nat.reduceEqDiff, ↓reduceIte, Nat.reduceAdd, Nat.reduceSub])
  refine AWL.nil ?_
  (refine hK _ ?_; clear hK K; (try simp only [nA, Nat.reduceBEq, Nat.reduceEqDiff, ↓reduceIte, Nat.reduceAdd, Nat.reduceSub]))
  (refine AW.seq_k ?_; intro K hK)
  refine AW.region ?_
  refine awP (op_move rfl rfl) ?_; (simp only [nA, ↓reduceIte])
  refine awP (op_move rfl rfl) ?_; (simp only [nA, ↓reduceIte])
  refine awP (op_move rfl rfl) ?_; (simp only [nA, ↓reduceIte])
  (refine awP (op_len_ro rfl rfl Try.underlying22 (by exact .inr (.inl ⟨_, rfl, rfl⟩))) ?_); (try simp only [nA, Nat.reduceBEq, Nat.reduceEqDiff, ↓reduceIte, Nat.reduceAdd, Nat.reduceSub])
  refine awJ (op_call1 rfl en11 (C11 hl (n := (xs.length : Nat)) (by omega)) (by exact rfl) (RL.cons .ptr (RL.cons (.base (by exact View.same rfl)) (RL.nil))) (by exact ⟨_, _, _, rfl, rfl, rfl⟩) (by exact rfl) (by exact rfl) (by exact rfl)) ?_; (try simp only [nA, Nat.reduceBEq, Nat.reduceEqDiff, ↓reduceIte, Nat.reduceAdd, Nat.reduceSub])
  (refine awP (op_ia_ro (gmod (rawV l k) (xs.length : Nat)).toNat rfl (.inl rfl) rfl Try.underlying22 (by omega) (get_mapD (by omega)) (by exact sz3) (bl rfl)) ?_); (try simp only [nA, Nat.reduceBEq, Nat.reduceEqDiff, ↓reduceIte, Nat.reduceAdd, Nat.reduceSub])
  (refine awR (op_load_rop1 rfl rfl ag3) ?_); (try simp only [nA, Nat.reduceBEq, Nat.reduceEqDiff, ↓reduceIte, Nat.reduceAdd, Nat.reduceSub])
  refine awP (op_assign rfl rfl) ?_; (simp only [nA])
  refine AWL.nil ?_
  (refine hK _ ?_; clear hK K; (skip))
  skip
  refine AW.ret ?_; (try simp only [thenE, inBlk, Nat.reduceEqDiff, ↓reduceIte]); exact RQ.of (.inl rfl) rfl (.tmp (bl rfl) rfl rfl .nil) (by simp) rfl (one_out rfl)
set_option maxHeartbeats 8000000 in
theorem C46 {l : List Int} {k : Nat} {n : Int} (hl : l.length ≤ 2000) (hn : n ≤ 9223372036854775807) : Fn Try.prog 46 [.own 65 [srcRow l k]] [.ptr 0 0 0 0, .v (.int .i64 n)] [.agg (platesP (gmod (rawV l k) n)).av] [.own 65 [srcRow l (rawN l k)]] := by
  refine Spec.body Try.func46 rfl Try.ntmps46 (by simp) rfl ?_; intro S0 own0 v0 w0
  (refine AW.seq_k ?_; intro K hK)
  refine AW.region ?_
  refine awJ (op_alloc rfl ze39 rfl) ?_; (simp only [nA, Nat.reduceBEq, Nat.reduceEqDiff, ↓reduceIte])
  refine AWL.nil ?_
  (refine hK _ ?_; clear hK K; (try simp only [nA, Nat.reduceBEq, Nat.reduceEqDiff, ↓reduceIte, Nat.reduceAdd, Nat.reduceSub]))
  (refine AW.seq_k ?_; intro K hK)
  refine AW.region ?_
  refine awP (op_move rfl rfl) ?_; (simp only [nA, ↓reduceIte])
  refine awP (op_move rfl rfl) ?_; (simp only [nA, ↓reduceIte])
  refine awJ (op_call1 rfl en11 (C11 hl hn) (by exact rfl) (RL.cons .ptr (RL.cons (.base (by exact View.same rfl)) (RL.nil))) (by exact ⟨_, _, _, rfl, rfl, rfl⟩) (by exact rfl) (by exact rfl) (by exact rfl)) ?_; (try simp only [nA, Nat.reduceBEq, Nat.reduceEqDiff, ↓reduceIte, Nat.reduceAdd, Nat.reduceSub])
  refine awJ (op_call (b := false) rfl en27 (C27 (i := gmod (rawV l k) n)) (RL.cons (by exact View.same rfl) (RL.nil)) rfl (fun h => by cases h) rfl rfl) ?_; (try simp only [nA, Nat.reduceBEq, Nat.reduceEqDiff, ↓reduceIte, Nat.reduceAdd, Nat.reduceSub])
  refine awJ (op_store rfl rfl rfl rfl rfl rfl sz39 rfl (bl rfl) rfl) ?_; (simp only [nA, Nat.reduceBEq, Nat.reduceEqDiff, ↓reduceIte])
  refine AWL.nil ?_
  (refine hK _ ?_; clear hK K; (skip))
  skip
  refine AW.ret ?_; (try simp only [thenE, inBlk, Nat.reduceEqDiff, ↓reduceIte]); exact RQ.of (.inl rfl) rfl (.cell (bl rfl) rfl rfl rfl ag39 sz39 (bl rfl) rfl rfl .nil) (by simp) rfl (one_out rfl)
abbrev catsL : List Int := [0, 0, 0, 1, 1, 2, 3, 4]
abbrev pieceV (l : List Int) (k : Nat) (n : Int) : Piece := ⟨platesP (gmod (rawV l k) n), 1 + gmod (rawV l (rawN l k)) 40, pickV l (rawN l (rawN l k)) catsL⟩
set_option maxHeartbeats 8000000 in
theorem C26 {l : List Int} {k : Nat} {n : Int} (hl : l.length ≤ 2000) (hn : n ≤ 9223372036854775807) : Fn Try.prog 26 [.own 65 [srcRow l k]] [.ptr 0 0 0 0, .v (.int .i64 n)] [.agg (pieceV l k n).av] [.own 65 [srcRow l (rawN l (rawN l (rawN l k)))]] := by
  have hg := gmod_bd (x := rawV l (rawN l k)) (n := 40) (by decide)
  refine Spec.body Try.func26 rfl Try.ntmps26 (by simp) rfl ?_; intro S0 own0 v0 w0
  (refine AW.seq_k ?_; intro K hK)
  refine AW.region ?_
  refine awJ (op_alloc rfl ze41 rfl) ?_; (simp only [nA, Nat.reduceBEq, Nat.reduceEqDiff, ↓reduceIte])
  refine AWL.nil ?_
  (refine hK _ ?_; clear hK K; (try simp only [nA, Nat.reduceBEq, Nat.reduceEqDiff, ↓reduceIte, Nat.reduceAdd, Nat.reduceSub]))
  (refine AW.seq_k ?_; intro K hK)
  refine AW.region ?_
  refine awP (op_move rfl rfl) ?_; (simp only [nA, ↓reduceIte])
  refine awP (op_move rfl rfl) ?_; (simp only [nA, ↓reduceIte])
  refine awJ (op_call1 rfl en46 (C46 hl hn) (by exact rfl) (RL.cons .ptr (RL.cons (.base (by exact View.same rfl)) (RL.nil))) (by exact ⟨_, _, _, rfl, rfl, rfl⟩) (by exact rfl) (by exact rfl) (by exact rfl)) ?_; (try simp only [nA, Nat.reduceBEq, Nat.reduceEqDiff, ↓reduceIte, Nat.reduceAdd, Nat.reduceSub])
  refine awP (op_move rfl rfl) ?_; (simp only [nA, ↓reduceIte])
  refine awJ (op_call1 rfl en11 (C11 (n := 40) hl (by decide)) (by exact rfl) (RL.cons .ptr (RL.cons (.base (by exact View.same rfl)) (RL.nil))) (by exact ⟨_, _, _, rfl, rfl, rfl⟩) (by exact rfl) (by exact rfl) (by exact rfl)) ?_; (try simp only [nA, Nat.reduceBEq, Nat.reduceEqDiff, ↓reduceIte, Nat.reduceAdd, Nat.reduceSub])
  (refine awP (op_addi rfl rfl rfl (by omega)) ?_); (try simp only [nA, Nat.reduceBEq, Nat.reduceEqDiff, ↓reduceIte, Nat.reduceAdd, Nat.reduceSub])
  refine awP (op_move rfl rfl) ?_; (simp only [nA, ↓reduceIte])
  refine awJ (op_buildSlice rfl [(0, iv 0), (1, iv 0), (2, iv 0), (3, iv 1), (4, iv 1), (5, iv 2), (6, iv 3), (7, iv 4)] (([0, 0, 0, 1, 1, 2, 3, 4] : List Int).map iv) Try.underlying22 ze3 rfl (by simp) (fold_dense 1 (([0, 0, 0, 1, 1, 2, 3, 4] : List Int).map iv) (iv_len _)) (iv_len _) rfl (bl rfl) (by simp [maxLen])) ?_; (simp only [nA, Nat.reduceBEq, Nat.reduceEqDiff, ↓reduceIte]); refine AWL.gh (Gh.freeze 12 (bl rfl) rfl rfl (iv_flat catsL) (es' := catsL.map iv) rfl) ?_; (try simp only [nA, Nat.reduceBEq, Nat.reduceEqDiff, ↓reduceIte, Nat.reduceAdd, Nat.reduceSub])
  refine awJ (op_call1 rfl en31 (C31 (xs := catsL) hl (by decide) (by decide)) (by exact rfl) (RL.cons .ptr (RL.cons (.base (by exact View.same rfl)) (RL.nil))) (by exact ⟨_, _, _, rfl, rfl, rfl⟩) (by exact rfl) (by exact rfl) (by exact rfl)) ?_; (try simp only [nA, Nat.reduceBEq, Nat.reduceEqDiff, ↓reduceIte, Nat.reduceAdd, Nat.reduceSub])
  refine awP (op_build2 (xs := [_, _, _, _, _]) rfl pl41 ze41 [(0, [_, _, _]), (1, [_]), (2, [_])] rfl rfl rfl) ?_; (simp only [nA, ↓reduceIte])
  refine awJ (op_store rfl rfl rfl rfl rfl rfl sz41 rfl (bl rfl) rfl) ?_; (simp only [nA, Nat.reduceBEq, Nat.reduceEqDiff, ↓reduceIte])
  refine AWL.nil ?_
  (refine hK _ ?_; clear hK K; (skip))
  skip
  refine AW.ret ?_; (try simp only [thenE, inBlk, Nat.reduceEqDiff, ↓reduceIte]); exact RQ.of (.inl rfl) rfl (.cell (bl rfl) rfl rfl rfl ag41 sz41 (bl rfl) rfl rfl .nil) (by simp) rfl (one_out rfl)
def hasB (l : List Piece) (p : Plate) : Bool := l.any fun x => decide (x.plate = p)
set_option maxHeartbeats 8000000 in
theorem C23 {c : Container} {p : Plate} (hcl : c.pieces.length ≤ 1000000000) : Fn Try.prog 23 [] [.agg c.av, .agg p.av] [.v (.bool (hasB c.pieces p))] [] := by
  refine Spec.body Try.func23 rfl Try.ntmps23 (by simp) rfl ?_; intro S0 own0 v0 w0
  (refine AW.seq_k ?_; intro K hK)
  refine AW.region ?_
  refine awJ (op_box rfl rfl rfl sz45 rfl) ?_; (simp only [nA, Nat.reduceBEq, Nat.reduceEqDiff, ↓reduceIte])
  refine awJ (op_box rfl rfl rfl sz39 rfl) ?_; (simp only [nA, Nat.reduceBEq, Nat.reduceEqDiff, ↓reduceIte])
  refine awP (op_assign rfl rfl) ?_; (try simp only [nA, Nat.reduceBEq, Nat.reduceEqDiff, ↓reduceIte, Nat.reduceAdd, Nat.reduceSub])
  refine AWL.nil ?_
  (refine hK _ ?_; clear hK K; (try simp only [nA, Nat.reduceBEq, Nat.reduceEqDiff, ↓reduceIte, Nat.reduceAdd, Nat.reduceSub]))
  (refine AW.seq_k ?_; intro K hK)
  (refine AW.seq_k ?_; intro K hK)
  refine AW.region ?_
  (refine awP (op_fa_ptr rfl rfl rfl fl45_7 (by exact sz27) (by decide) rfl) ?_); (try simp only [nA, Nat.reduceBEq, Nat.reduceEqDiff, ↓reduceIte, Nat.reduceAdd, Nat.reduceSub])
  (refine awR (op_load_ptr1 rfl rfl rfl rfl ag27 rfl rfl) ?_); (try simp only [nA, Nat.reduceBEq, Nat.reduceEqDiff, ↓reduceIte, Nat.reduceAdd, Nat.reduceSub])
  (refine awP (op_len_ro rfl rfl Try.underlying27 (by exact .inr (.inl ⟨_, rfl, rfl⟩))) ?_); (try simp only [nA, Nat.reduceBEq, Nat.reduceEqDiff, ↓reduceIte, Nat.reduceAdd, Nat.reduceSub])
  refine awP (op_move rfl rfl) ?_; (try simp only [nA, Nat.reduceBEq, Nat.reduceEqDiff, ↓reduceIte, Nat.reduceAdd, Nat.reduceSub])
  refine AWL.nil ?_
  (refine hK _ ?_; clear hK K; (skip))
  refine AW.block ?_
  refine AW.loopI (fun (i : Nat) => [(3, .ptr 1 2 0 0), (8, .ro (c.pieces.map Piece.av)), (9, .v (.int .i64 (c.pieces.length : Nat))), (10, .v (.int .i64 (i : Nat)))]) (fun i => ⟨[(1, .own 45 [c.av]), (2, .own 39 [p.av])], 3 + i⟩) (fun i => i ≤ c.pieces.length ∧ ∀ k (h : k < c.pieces.length), k < i → c.pieces[k].plate ≠ p) (fun i => c.pieces.length - i) 0 (by simp) ⟨rfl, rfl, rfl, rfl, trivial⟩ rfl ?_; intro i ρ hi; simp only [updL]
  (refine AW.seq_k ?_; intro K hK)
  refine AW.region ?_
  refine awP (op_lss rfl rfl rfl) ?_; (try simp only [nA, Nat.reduceBEq, Nat.reduceEqDiff, ↓reduceIte, Nat.reduceAdd, Nat.reduceSub])
  refine AWL.nil ?_
  (refine hK _ ?_; clear hK K; (skip))
  (refine AW.seq_k ?_; intro K hK)
  refine AW.cond rfl rfl rfl (fun hc => ?_) (fun hc => ?_)
  ·
   (try simp only [hcS] at hc); have hc1 := hc; have hlt : i < c.pieces.length := (by simpa using hc1)
   refine AW.skip ?_
   (refine hK _ ?_; clear hK K; (skip))
   (refine AW.seq_k ?_; intro K hK)
   refine AW.block ?_
   (refine AW.seq_k ?_; intro K hK)
   refine AW.region ?_
   (refine awP (op_ia_ro _ rfl (.inl rfl) rfl Try.underlying27 rfl (get_map (by omega)) (by exact sz41) (bl rfl)) ?_); (try simp only [nA, Nat.reduceBEq, Nat.reduceEqDiff, ↓reduceIte, Nat.reduceAdd, Nat.reduceSub])
   (refine awR (op_load_rop rfl rfl ag41 sz41 (bl rfl) (by decide) rfl) ?_); (try simp only [nA, Nat.reduceBEq, Nat.reduceEqDiff, ↓reduceIte, Nat.reduceAdd, Nat.reduceSub])
   refine awJ (op_alloc rfl ze41 rfl) ?_; (simp only [nA, Nat.reduceBEq, Nat.reduceEqDiff, ↓reduceIte])
   refine awJ (op_store rfl rfl rfl rfl rfl rfl sz41 rfl (bl rfl) rfl) ?_; (simp only [nA, Nat.reduceBEq, Nat.reduceEqDiff, ↓reduceIte])
   refine AWL.nil ?_
   (refine hK _ ?_; clear hK K; (skip))
   (refine AW.seq_k ?_; intro K hK)
   refine AW.region ?_
   (refine awP (op_fa_ptr rfl rfl rfl fl41_0 (by exact sz39) (by decide) rfl) ?_); (try simp only [nA, Nat.reduceBEq, Nat.reduceEqDiff, ↓reduceIte, Nat.reduceAdd, Nat.reduceSub])
   (refine awR (op_load_ptr rfl rfl rfl rfl ag39 sz39 (bl rfl) rfl) ?_); (try simp only [nA, Nat.reduceBEq, Nat.reduceEqDiff, ↓reduceIte, Nat.reduceAdd, Nat.reduceSub])
   (refine awR (op_load_ptr rfl rfl rfl rfl ag39 sz39 (bl rfl) rfl) ?_); (try simp only [nA, Nat.reduceBEq, Nat.reduceEqDiff, ↓reduceIte, Nat.reduceAdd, Nat.reduceSub])
   refine awP (op_eq39 rfl rfl rfl) ?_; (try simp only [nA, Nat.reduceBEq, Nat.reduceEqDiff, ↓reduceIte, Nat.reduceAdd, Nat.reduceSub])
   refine AWL.nil ?_
   (refine hK _ ?_; clear hK K; (skip))
   refine AW.cond rfl rfl rfl (fun hc => ?_) (fun hc => ?_)
   ·
    (try simp only [hcS] at hc); have hc2 := hc
    (refine AW.seq_k ?_; intro K hK)
    refine AW.region ?_
    refine awP (op_assign rfl rfl) ?_; (try simp only [nA, Nat.reduceBEq, Nat.reduceEqDiff, ↓reduceIte, Nat.reduceAdd, Nat.reduceSub])
    refine AWL.nil ?_
    (refine hK _ ?_; clear hK K; (skip))
    skip
    refine AW.ret ?_; (try simp only [thenE, inBlk, Nat.reduceEqDiff, ↓reduceIte]); rw [show hasB c.pieces p = true by unfold hasB; rw [List.any_eq_true]; exact ⟨c.pieces[i], List.getElem_mem _, by simpa using hc2⟩]; exact RQ.of0 rfl (.tmp (bl rfl) rfl rfl .nil)
   (try simp only [hcS] at hc); have hc2 := hc
   refine AW.skip ?_
   (try simp only [thenE, inBlk, Nat.reduceEqDiff, ↓reduceIte])
   (refine hK _ ?_; clear hK K; (skip))
   refine AW.region ?_
   (refine awP (op_addi rfl rfl rfl (by omega)) ?_); (try simp only [nA, Nat.reduceBEq, Nat.reduceEqDiff, ↓reduceIte, Nat.reduceAdd, Nat.reduceSub])
   refine awP (op_move rfl rfl) ?_; (simp only [nA])
   refine AWL.gh (Gh.drop 2) ?_; (try simp only [nA, Nat.reduceBEq, Nat.reduceEqDiff, ↓reduceIte, Nat.reduceAdd, Nat.reduceSub])
   refine AWL.nil ?_
   refine ⟨i + 1, ⟨by omega, fun k h hk => by rcases Nat.lt_or_ge k i with h' | h'; exact hi.2 k h h'; (obtain rfl : k = i := by omega); exact hc2⟩, by omega, ⟨rfl, rfl, rfl, rfl, trivial⟩, (by rfl), (by rfl)⟩
  (try simp only [hcS] at hc); have hc1 := hc
  refine AW.exit ?_; (try simp only [thenE, inBlk, Nat.reduceEqDiff, ↓reduceIte])
  clear hK K
  (refine hK _ ?_; clear hK K; (skip))
  (refine AW.seq_k ?_; intro K hK)
  refine AW.region ?_
  refine awP (op_assign rfl rfl) ?_; (try simp only [nA, Nat.reduceBEq, Nat.reduceEqDiff, ↓reduceIte, Nat.reduceAdd, Nat.reduceSub])
  refine AWL.nil ?_
  (refine hK _ ?_; clear hK K; (skip))
  skip
  refine AW.ret ?_; (try simp only [thenE, inBlk, Nat.reduceEqDiff, ↓reduceIte]); rw [show hasB c.pieces p = false by unfold hasB; rw [List.any_eq_false]; intro x hx; obtain ⟨k, hk, rfl⟩ := List.getElem_of_mem hx; have := hi.2 k hk (by simp at hc1; omega); simpa using this]; exact RQ.of0 rfl (.tmp (bl rfl) rfl rfl .nil)
end Go.Proofs.Ytmdohphcolffmaa
namespace Go.Proofs.Ytmdohphcolffmaa
open Go.RowKit
set_option linter.unusedSimpArgs false
set_option linter.unusedVariables false
set_option maxRecDepth 100000
theorem sumW_perm {l m : List Piece} (h : l.Perm m) : sumW l = sumW m := by
  unfold sumW
  induction h with
  | nil => rfl
  | cons x _ ih => simp [ih]
  | swap x y l => simp; omega
  | trans _ _ h1 h2 => exact h1.trans h2
theorem hasB_iff {l : List Piece} {p : Plate} : hasB l p = true ↔ ∃ x ∈ l, x.plate = p := by unfold hasB; simp
theorem hasB_no {l : List Piece} {p : Plate} : hasB l p = false ↔ ∀ x ∈ l, x.plate ≠ p := by unfold hasB; simp
theorem found_has {l : List Piece} {p : Plate} (ha : AscP l) : foundP l p = hasB l p := by
  cases hb : hasB l p with
  | false => exact found_no (hasB_no.1 hb)
  | true =>
    obtain ⟨x, hx, e⟩ := hasB_iff.1 hb
    obtain ⟨i, hi, rfl⟩ := List.getElem_of_mem hx
    have hpos : posP l p = i := pos_eq (by omega) (fun j h hj => by
      rw [← e]; exact cmpP_lt.2 (List.pairwise_iff_getElem.1 ha j i h hi hj)) (fun j h hj hlt => by
      rw [← e] at hlt
      rcases Nat.lt_or_ge i j with h' | h'
      · exact PLt.irrefl _ ((cmpP_lt.1 hlt).trans (List.pairwise_iff_getElem.1 ha i j hi h h'))
      obtain rfl : j = i := by omega
      exact PLt.irrefl _ (cmpP_lt.1 hlt))
    unfold foundP
    rw [hpos, List.getD_eq_getElem?_getD, List.getElem?_eq_getElem hi]
    simp [hi, e]
theorem val_asc {c : Container} (h : valC c = 0) : AscP c.pieces := ascP_iff.2 (val_inv h).2.2.2
theorem ins_pieces (c : Container) (p : Piece) : (insC c p).pieces = insL c.pieces p := rfl
theorem ins_val {c : Container} {p : Piece} (h : valC c = 0) (hp : piB p = true) (hn : hasB c.pieces p.plate = false) (hl : c.pieces.length < 60) : valC (insC c p) = 0 := by
  have hv := val_inv h
  have hperm := insL_perm c.pieces p
  refine val_intro hv.1 ?_ (fun x hx => ?_) (ascP_iff.1 (insL_asc (val_asc h) (hasB_no.1 hn)))
  · rw [ins_pieces, hperm.length_eq]; simp; omega
  rcases List.mem_cons.1 (hperm.mem_iff.1 hx) with rfl | hx
  · exact hp
  exact hv.2.2.1 x hx
theorem del_sub (c : Container) (p : Plate) : (delC c p).pieces.Sublist c.pieces := by
  show (c.pieces.take _ ++ c.pieces.drop _).Sublist c.pieces
  conv => rhs; rw [← List.take_append_drop (posP c.pieces p) c.pieces]
  exact (List.Sublist.refl _).append (List.drop_sublist_drop_left _ (Nat.le_succ _))
theorem del_val {c : Container} {p : Plate} (h : valC c = 0) : valC (delC c p) = 0 := by
  have hv := val_inv h
  have hs := del_sub c p
  exact val_intro hv.1 (Nat.le_trans hs.length_le hv.2.1) (fun x hx => hv.2.2.1 x (hs.subset hx)) (ascP_iff.1 ((val_asc h).sublist hs))
theorem val_nn {c : Container} (h : valC c = 0) {x : Piece} (hx : x ∈ c.pieces) : 1 ≤ x.weight := (piB_inv ((val_inv h).2.2.1 x hx)).2.1
theorem sumW_sub : ∀ {l m : List Piece}, l.Sublist m → (∀ x ∈ m, 1 ≤ x.weight) → sumW l ≤ sumW m
  | _, _, .slnil, _ => Int.le_refl _
  | _, _, .cons a h, hm => by
    have := sumW_sub h fun x hx => hm x (by simp [hx])
    have := hm a (by simp)
    unfold sumW at *
    simp; omega
  | _, _, .cons_cons a h, hm => by
    have := sumW_sub h fun x hx => hm x (by simp [hx])
    unfold sumW at *
    simp; omega
theorem over_no {c : Container} (h : valC c = 0) : overC c = false ↔ (∀ x ∈ c.pieces, bitB c.categories x.category = true) ∧ sumW c.pieces ≤ c.limit ∧ (c.pieces.length : Int) ≤ c.most := by
  unfold overC weightC
  simp only [h, ne_eq, not_true_eq_false, if_false]
  by_cases hb : (c.pieces.all fun p => bitB c.categories p.category) = true
  · rw [if_neg (by simp [hb])]
    simp at hb
    simp
    exact fun _ _ => hb
  rw [if_pos (by simpa using hb)]
  simp at hb
  obtain ⟨x, hx, hb⟩ := hb
  simp
  intro hall
  rw [hall x hx] at hb
  cases hb
/-- A container as the law has it. -/
structure Lim (c : Container) : Prop where
  val : valC c = 0
  no : overC c = false
  most : c.most ≤ 8
theorem Lim.len {c : Container} (h : Lim c) : c.pieces.length ≤ 8 := by
  have := ((over_no h.val).1 h.no).2.2
  have := h.most
  omega
theorem Lim.rem {c : Container} {p : Plate} (h : Lim c) : ((remC c p).2 = 0 ∧ hasB c.pieces p = true ∧ Lim (remC c p).1) ∨ ((remC c p).2 = 6 ∧ hasB c.pieces p = false) := by
  unfold remC
  rw [if_neg (by simp [h.val]), found_has (val_asc h.val)]
  cases hb : hasB c.pieces p with
  | false => right; simp
  | true =>
    left
    have ho := (over_no h.val).1 h.no
    have hs := del_sub c p
    refine ⟨rfl, rfl, del_val h.val, (over_no (del_val h.val)).2 ⟨fun x hx => ho.1 x (hs.subset hx), Int.le_trans (sumW_sub hs fun x hx => val_nn h.val hx) ho.2.1, ?_⟩, h.most⟩
    have := hs.length_le
    show (((delC c p).pieces.length : Nat) : Int) ≤ c.most
    omega
theorem put_eq {c : Container} {p : Piece} {lim : Bool} (h : valC c = 0) (hp : piB p = true) : putC c p lim = if foundP c.pieces p.plate = true then (zeroC, 5)
  else if (lim && !bitB c.categories p.category) = true then (zeroC, 4) else if (lim && fullB c p) = true then (zeroC, 8)
  else if (c.pieces.length : Int) ≥ 60 then (zeroC, 2) else (insC c p, 0) := by
  unfold putC
  rw [if_neg (by simp [h]), if_neg (by simp [hp])]
theorem Lim.add {c : Container} {p : Piece} (h : Lim c) (hp : piB p = true) :
    ((putC c p true).2 = 5 ∧ (putC c p false).2 = 5 ∧ hasB c.pieces p.plate = true) ∨
    ((putC c p true).2 = 0 ∧ (putC c p false).2 = 0 ∧ (putC c p true).1 = (putC c p false).1 ∧ hasB c.pieces p.plate = false ∧ Lim (putC c p true).1) ∨
    ((putC c p true).2 ≠ 0 ∧ (putC c p false).2 = 0 ∧ overC (putC c p false).1 = true ∧ hasB c.pieces p.plate = false) := by
  have hl := h.len
  rw [put_eq h.val hp, put_eq h.val hp, found_has (val_asc h.val)]
  cases hb : hasB c.pieces p.plate with
  | true => left; simp
  | false =>
    right
    have hiv := ins_val h.val hp hb (by omega)
    have hperm := insL_perm c.pieces p
    have ho := (over_no h.val).1 h.no
    have hsum : sumW (insL c.pieces p) = p.weight + sumW c.pieces := by rw [sumW_perm hperm]; simp [sumW]
    have hlen : (insL c.pieces p).length = c.pieces.length + 1 := by rw [hperm.length_eq]; rfl
    have hin : ∀ x, x ∈ insL c.pieces p ↔ x = p ∨ x ∈ c.pieces := fun x => by rw [hperm.mem_iff]; simp
    have e2 : (if (c.pieces.length : Int) ≥ 60 then (zeroC, 2) else (insC c p, 0)) = (insC c p, (0 : Int)) := by rw [if_neg (by omega)]
    simp only [Bool.false_and, Bool.false_eq_true, if_false, Bool.true_and]
    rw [e2]
    by_cases hbit : bitB c.categories p.category = true
    · rw [if_neg (by simp [hbit])]
      by_cases hf : fullB c p = true
      · rw [if_pos hf]
        right
        refine ⟨by simp, rfl, ?_, trivial⟩
        cases hov : overC (insC c p) with
        | true => rfl
        | false =>
          obtain ⟨-, q2, q3⟩ := (over_no hiv).1 hov
          rw [ins_pieces, hsum] at q2
          rw [ins_pieces, hlen] at q3
          unfold fullB at hf
          simp at hf
          have : (insC c p).limit = c.limit := rfl
          have : (insC c p).most = c.most := rfl
          omega
      rw [if_neg hf]
      left
      refine ⟨rfl, rfl, rfl, trivial, hiv, (over_no hiv).2 ⟨fun x hx => ?_, ?_, ?_⟩, h.most⟩
      · rcases (hin x).1 hx with rfl | hx
        · exact hbit
        exact ho.1 x hx
      · unfold fullB at hf
        simp at hf
        rw [ins_pieces, hsum]
        show _ ≤ c.limit
        omega
      unfold fullB at hf
      simp at hf
      rw [ins_pieces, hlen]
      show _ ≤ c.most
      omega
    rw [if_pos (by simpa using hbit)]
    right
    refine ⟨by simp, rfl, ?_, trivial⟩
    cases hov : overC (insC c p) with
    | true => rfl
    | false =>
      have := ((over_no hiv).1 hov).1 p (by rw [ins_pieces, hin]; exact .inl rfl)
      exact absurd this hbit
theorem plates_ok (x : Int) : plB (platesP x) = true := by
  have h1 := gmod_bd (x := x) (n := 1000) (by decide)
  unfold plB platesP
  generalize gmod x 1000 = a at *
  have e : ∀ {a b c d e f : Prop} [Decidable a] [Decidable b] [Decidable c] [Decidable d] [Decidable e] [Decidable f], a → b → c → d → e → f → (((((decide a && decide b) && decide c) && decide d) && decide e) && decide f) = true := fun h1 h2 h3 h4 h5 h6 => by simp [h1, h2, h3, h4, h5, h6]
  refine e ?_ ?_ ?_ ?_ ?_ ?_ <;> dsimp only <;> omega
theorem piece_ok (l : List Int) (k : Nat) {n : Int} : piB (pieceV l k n) = true := by
  have h2 := gmod_bd (x := rawV l (rawN l k)) (n := 40) (by decide)
  have h3 : pickV l (rawN l (rawN l k)) catsL ∈ catsL := pickV_mem (by decide)
  have h4 : 0 ≤ pickV l (rawN l (rawN l k)) catsL ∧ pickV l (rawN l (rawN l k)) catsL ≤ 4 := by
    simp at h3; omega
  have e : ∀ {a b c d : Prop} [Decidable a] [Decidable b] [Decidable c] [Decidable d], a → b → c → d → ((true && (decide a && decide b)) && (decide c && decide d)) = true := fun h1 h2 h3 h4 => by simp [h1, h2, h3, h4]
  unfold piB inB
  rw [show plB (pieceV l k n).plate = true from plates_ok _]
  refine e ?_ ?_ ?_ ?_ <;> dsimp only [pieceV] <;> omega
theorem Lim.zero {a b m : Int} (h1 : 0 ≤ a ∧ a < 32) (h2 : 0 ≤ b ∧ b < 200) (h3 : 0 ≤ m ∧ m < 9) : Lim ⟨7, flight0, a, b, m, 0, 0, []⟩ := by
  have hv : valC (⟨7, flight0, a, b, m, 0, 0, []⟩ : Container) = 0 := by
    refine val_intro ?_ (by simp) (by simp) (by unfold Asc; simp)
    have : flB flight0 = true := by kernel_rfl
    unfold coB inB
    rw [this]
    simp
    omega
  exact ⟨hv, (over_no hv).2 ⟨by simp, by show (0 : Int) ≤ b; omega, by show (0 : Int) ≤ m; omega⟩, by show m ≤ 8; omega⟩
end Go.Proofs.Ytmdohphcolffmaa
namespace Go.Proofs.Ytmdohphcolffmaa
open Go.RowKit
set_option linter.unusedSimpArgs false
set_option linter.unusedVariables false
set_option maxRecDepth 100000
abbrev flightN (x : Int) : Flight := ⟨⟨#[66, 65]⟩, 1, ⟨#[]⟩, 1 + x⟩
set_option maxHeartbeats 8000000 in
theorem C30n (x : Int) (h : 0 ≤ x ∧ x < 27) : Fn Try.prog 30 [] [.v (.int .i64 x), .v (.int .i64 27)] [.v (.int .i64 x)] [] := by
  have h1 := C30 (x := x) (n := 27) (by decide)
  rwa [show gmod x 27 = x by unfold gmod; rw [if_neg (by decide), Int.tmod_eq_emod_of_nonneg (by omega), Int.emod_eq_of_lt (by omega) (by omega), if_neg (by omega)]] at h1
set_option maxHeartbeats 8000000 in
theorem C10_0 : Fn Try.prog 10 [] [.v (.int .i64 0)] [.agg (flightN 0).av] [] := by
  refine Spec.body Try.func10 rfl Try.ntmps10 (by simp) rfl ?_; intro S0 own0 v0 w0
  (refine AW.seq_k ?_; intro K hK)
  refine AW.region ?_
  refine awJ (op_alloc rfl ze30 rfl) ?_; (simp only [nA, Nat.reduceBEq, Nat.reduceEqDiff, ↓reduceIte])
  refine AWL.nil ?_
  (refine hK _ ?_; clear hK K; (try simp only [nA, Nat.reduceBEq, Nat.reduceEqDiff, ↓reduceIte, Nat.reduceAdd, Nat.reduceSub]))
  (refine AW.seq_k ?_; intro K hK)
  refine AW.region ?_
  refine awP (op_move rfl rfl) ?_
  refine awJ (OpQ.j (op_callQ (b := true) rfl en30 (C30n 0 (by decide)) (RL.cons (by exact View.same rfl) (RL.cons (by exact View.same rfl) (RL.nil))) rfl)) ?_; (simp only [nA, ↓reduceIte])
  refine awP (op_assign rfl rfl) ?_
  refine AWL.nil ?_
  (refine hK _ ?_; clear hK K; (simp only [nA]))
  (refine AW.seq_k ?_; intro K hK)
  refine AW.region ?_
  refine awJ (op_buildSlice rfl [(0, [_]), (1, [_]), (2, [_])] [[_], [_], [_]] Try.underlying67 ze9 rfl (by simp) rfl (by simp) rfl (bl rfl) (by simp [maxLen])) ?_; (simp only [nA, Nat.reduceBEq, Nat.reduceEqDiff, ↓reduceIte])
  refine awP (op_move rfl rfl) ?_
  (refine awP (op_quoi rfl rfl rfl (by omega)) ?_)
  (refine awP (op_ia_sl 0 _ rfl rfl rfl rfl Try.underlying67 (by decide) (by decide) sz9 rfl) ?_)
  (refine awR (op_load_ptr1 rfl rfl rfl rfl ag9 rfl rfl) ?_)
  refine awP (op_move rfl rfl) ?_
  (refine awP (op_quoi rfl rfl rfl (by omega)) ?_)
  (refine awP (op_remi rfl rfl rfl (by omega)) ?_)
  (refine awP (op_addi rfl rfl rfl (by omega)) ?_)
  refine awP (op_move rfl rfl) ?_
  (refine awP (op_remi rfl rfl rfl (by omega)) ?_)
  (refine awP (op_addi rfl rfl rfl (by omega)) ?_)
  refine awP (op_build2 (xs := [_, _, .v (.string ⟨#[]⟩), _]) rfl pl30 ze30 [(0, [_]), (1, [_]), (3, [_])] rfl rfl rfl) ?_
  refine awJ (op_store rfl rfl rfl rfl rfl rfl sz30 rfl (bl rfl) rfl) ?_; (simp only [nA, Nat.reduceBEq, Nat.reduceEqDiff, ↓reduceIte])
  refine AWL.nil ?_
  (refine hK _ ?_; clear hK K; (skip))
  skip
  refine AW.ret ?_; (try simp only [thenE, inBlk, Nat.reduceEqDiff, ↓reduceIte]); exact RQ.of0 rfl (.cell (bl rfl) rfl rfl rfl ag30 sz30 (bl rfl) rfl rfl .nil)
set_option maxHeartbeats 8000000 in
theorem C10_1 : Fn Try.prog 10 [] [.v (.int .i64 1)] [.agg (flightN 1).av] [] := by
  refine Spec.body Try.func10 rfl Try.ntmps10 (by simp) rfl ?_; intro S0 own0 v0 w0
  (refine AW.seq_k ?_; intro K hK)
  refine AW.region ?_
  refine awJ (op_alloc rfl ze30 rfl) ?_; (simp only [nA, Nat.reduceBEq, Nat.reduceEqDiff, ↓reduceIte])
  refine AWL.nil ?_
  (refine hK _ ?_; clear hK K; (try simp only [nA, Nat.reduceBEq, Nat.reduceEqDiff, ↓reduceIte, Nat.reduceAdd, Nat.reduceSub]))
  (refine AW.seq_k ?_; intro K hK)
  refine AW.region ?_
  refine awP (op_move rfl rfl) ?_
  refine awJ (OpQ.j (op_callQ (b := true) rfl en30 (C30n 1 (by decide)) (RL.cons (by exact View.same rfl) (RL.cons (by exact View.same rfl) (RL.nil))) rfl)) ?_; (simp only [nA, ↓reduceIte])
  refine awP (op_assign rfl rfl) ?_
  refine AWL.nil ?_
  (refine hK _ ?_; clear hK K; (simp only [nA]))
  (refine AW.seq_k ?_; intro K hK)
  refine AW.region ?_
  refine awJ (op_buildSlice rfl [(0, [_]), (1, [_]), (2, [_])] [[_], [_], [_]] Try.underlying67 ze9 rfl (by simp) rfl (by simp) rfl (bl rfl) (by simp [maxLen])) ?_; (simp only [nA, Nat.reduceBEq, Nat.reduceEqDiff, ↓reduceIte])
  refine awP (op_move rfl rfl) ?_
  (refine awP (op_quoi rfl rfl rfl (by omega)) ?_)
  (refine awP (op_ia_sl 0 _ rfl rfl rfl rfl Try.underlying67 (by decide) (by decide) sz9 rfl) ?_)
  (refine awR (op_load_ptr1 rfl rfl rfl rfl ag9 rfl rfl) ?_)
  refine awP (op_move rfl rfl) ?_
  (refine awP (op_quoi rfl rfl rfl (by omega)) ?_)
  (refine awP (op_remi rfl rfl rfl (by omega)) ?_)
  (refine awP (op_addi rfl rfl rfl (by omega)) ?_)
  refine awP (op_move rfl rfl) ?_
  (refine awP (op_remi rfl rfl rfl (by omega)) ?_)
  (refine awP (op_addi rfl rfl rfl (by omega)) ?_)
  refine awP (op_build2 (xs := [_, _, .v (.string ⟨#[]⟩), _]) rfl pl30 ze30 [(0, [_]), (1, [_]), (3, [_])] rfl rfl rfl) ?_
  refine awJ (op_store rfl rfl rfl rfl rfl rfl sz30 rfl (bl rfl) rfl) ?_; (simp only [nA, Nat.reduceBEq, Nat.reduceEqDiff, ↓reduceIte])
  refine AWL.nil ?_
  (refine hK _ ?_; clear hK K; (skip))
  skip
  refine AW.ret ?_; (try simp only [thenE, inBlk, Nat.reduceEqDiff, ↓reduceIte]); exact RQ.of0 rfl (.cell (bl rfl) rfl rfl rfl ag30 sz30 (bl rfl) rfl rfl .nil)
set_option maxHeartbeats 8000000 in
theorem C10_2 : Fn Try.prog 10 [] [.v (.int .i64 2)] [.agg (flightN 2).av] [] := by
  refine Spec.body Try.func10 rfl Try.ntmps10 (by simp) rfl ?_; intro S0 own0 v0 w0
  (refine AW.seq_k ?_; intro K hK)
  refine AW.region ?_
  refine awJ (op_alloc rfl ze30 rfl) ?_; (simp only [nA, Nat.reduceBEq, Nat.reduceEqDiff, ↓reduceIte])
  refine AWL.nil ?_
  (refine hK _ ?_; clear hK K; (try simp only [nA, Nat.reduceBEq, Nat.reduceEqDiff, ↓reduceIte, Nat.reduceAdd, Nat.reduceSub]))
  (refine AW.seq_k ?_; intro K hK)
  refine AW.region ?_
  refine awP (op_move rfl rfl) ?_
  refine awJ (OpQ.j (op_callQ (b := true) rfl en30 (C30n 2 (by decide)) (RL.cons (by exact View.same rfl) (RL.cons (by exact View.same rfl) (RL.nil))) rfl)) ?_; (simp only [nA, ↓reduceIte])
  refine awP (op_assign rfl rfl) ?_
  refine AWL.nil ?_
  (refine hK _ ?_; clear hK K; (simp only [nA]))
  (refine AW.seq_k ?_; intro K hK)
  refine AW.region ?_
  refine awJ (op_buildSlice rfl [(0, [_]), (1, [_]), (2, [_])] [[_], [_], [_]] Try.underlying67 ze9 rfl (by simp) rfl (by simp) rfl (bl rfl) (by simp [maxLen])) ?_; (simp only [nA, Nat.reduceBEq, Nat.reduceEqDiff, ↓reduceIte])
  refine awP (op_move rfl rfl) ?_
  (refine awP (op_quoi rfl rfl rfl (by omega)) ?_)
  (refine awP (op_ia_sl 0 _ rfl rfl rfl rfl Try.underlying67 (by decide) (by decide) sz9 rfl) ?_)
  (refine awR (op_load_ptr1 rfl rfl rfl rfl ag9 rfl rfl) ?_)
  refine awP (op_move rfl rfl) ?_
  (refine awP (op_quoi rfl rfl rfl (by omega)) ?_)
  (refine awP (op_remi rfl rfl rfl (by omega)) ?_)
  (refine awP (op_addi rfl rfl rfl (by omega)) ?_)
  refine awP (op_move rfl rfl) ?_
  (refine awP (op_remi rfl rfl rfl (by omega)) ?_)
  (refine awP (op_addi rfl rfl rfl (by omega)) ?_)
  refine awP (op_build2 (xs := [_, _, .v (.string ⟨#[]⟩), _]) rfl pl30 ze30 [(0, [_]), (1, [_]), (3, [_])] rfl rfl rfl) ?_
  refine awJ (op_store rfl rfl rfl rfl rfl rfl sz30 rfl (bl rfl) rfl) ?_; (simp only [nA, Nat.reduceBEq, Nat.reduceEqDiff, ↓reduceIte])
  refine AWL.nil ?_
  (refine hK _ ?_; clear hK K; (skip))
  skip
  refine AW.ret ?_; (try simp only [thenE, inBlk, Nat.reduceEqDiff, ↓reduceIte]); exact RQ.of0 rfl (.cell (bl rfl) rfl rfl rfl ag30 sz30 (bl rfl) rfl rfl .nil)
set_option maxHeartbeats 8000000 in
theorem C10 (x : Int) (h : 0 ≤ x ∧ x < 3) : Fn Try.prog 10 [] [.v (.int .i64 x)] [.agg (flightN x).av] [] := by
  rcases (by omega : x = 0 ∨ x = 1 ∨ x = 2) with rfl | rfl | rfl
  · exact C10_0
  · exact C10_1
  exact C10_2
end Go.Proofs.Ytmdohphcolffmaa
namespace Go.Proofs.Ytmdohphcolffmaa
open Go.RowKit
set_option linter.unusedSimpArgs false
set_option linter.unusedVariables false
set_option maxRecDepth 100000
instance : Inhabited Container := ⟨zeroC⟩
abbrev oav (c : Container) : List AV := [.v (.int .i64 c.number), .v (.string c.flight.carrier), .v (.int .i64 c.flight.number), .v (.string c.flight.suffix), .v (.int .i64 c.flight.day), .v (.int .i64 c.categories), .v (.int .i64 c.limit), .v (.int .i64 c.most), .v (.int .i64 c.position), .v (.int .i64 c.arm), .own 41 (c.pieces.map Piece.av)]
abbrev nav (c : Container) : List AV := [.v (.int .i64 c.number), .v (.string c.flight.carrier), .v (.int .i64 c.flight.number), .v (.string c.flight.suffix), .v (.int .i64 c.flight.day), .v (.int .i64 c.categories), .v (.int .i64 c.limit), .v (.int .i64 c.most), .v (.int .i64 c.position), .v (.int .i64 c.arm), .v (.slice none 0 0)]
theorem RL.refl_le {P : Program} (l : List AV) : RL (Le2 P) l l := ⟨rfl, fun i u x h1 h2 => by rw [h1] at h2; injection h2 with h2; subst h2; exact .same⟩
theorem nav_le (cs : List Container) (c : Container) (h : c.pieces = []) : RL (Le2 Try.prog) (cs.map oav ++ [nav c]).flatten ((cs ++ [c]).map oav).flatten := by
  rw [List.map_append, List.flatten_append, List.flatten_append]
  refine RL.append (RL.refl_le _) ?_
  refine ⟨by simp, fun i u x hu hx => ?_⟩
  rcases i with _ | _ | _ | _ | _ | _ | _ | _ | _ | _ | _ | i <;> simp [h] at hu hx <;> subst hu <;> subst hx <;> first | exact .same | exact .nilo sz41
theorem nav_lens (cs : List Container) (c : Container) : ((cs ++ [c]).map oav).map List.length = (cs.map oav ++ [nav c]).map List.length := by simp
abbrev mask6 : List Int := [31, 31, 31, 3, 30, 1]
abbrev cat8 : List Int := [0, 0, 0, 0, 1, 2, 3, 4]
abbrev nx2 (l : List Int) (k : Nat) : Nat := rawN l (rawN l k)
abbrev nx3 (l : List Int) (k : Nat) : Nat := rawN l (nx2 l k)
abbrev nx4 (l : List Int) (k : Nat) : Nat := rawN l (nx3 l k)
abbrev nx5 (l : List Int) (k : Nat) : Nat := rawN l (nx4 l k)
abbrev nx6 (l : List Int) (k : Nat) : Nat := rawN l (nx5 l k)
abbrev nx7 (l : List Int) (k : Nat) : Nat := rawN l (nx6 l k)
abbrev conA (l : List Int) (k : Nat) (num pos : Int) : Container :=
  ⟨num + (1 + gmod (rawV l k) 2), flightN (gmod (rawV l (rawN l k)) 3), pickV l (nx2 l k) mask6, 50 + gmod (rawV l (nx3 l k)) 300, 2 + gmod (rawV l (nx4 l k)) 10, pos, gmod (rawV l (nx5 l k)) 21 - 10, []⟩
def ph1 (l : List Int) : Nat → Nat → Int → List Container → Nat × List Container
  | 0, k, _, cs => (k, cs)
  | f + 1, k, num, cs => ph1 l f (nx7 l k) (num + (1 + gmod (rawV l k) 2)) (cs ++ [conA l k num (if gmod (rawV l (nx6 l k)) 3 > 0 then cs.length + 1 else 0)])
def idxV (l : List Int) (k n : Nat) : Nat := (gmod (rawV l k) (n : Nat)).toNat
theorem idxV_eq (l : List Int) (k : Nat) {n : Nat} (h : 1 ≤ n) : gmod (rawV l k) (n : Nat) = (idxV l k n : Nat) := by
  have hg := gmod_bd (x := rawV l k) (n := (n : Nat)) (by omega)
  unfold idxV; omega
theorem idxV_lt (l : List Int) (k : Nat) {n : Nat} (h : 1 ≤ n) : idxV l k n < n := by
  have hg := gmod_bd (x := rawV l k) (n := (n : Nat)) (by omega)
  unfold idxV; omega
set_option maxHeartbeats 8000000 in
theorem C11n {l : List Int} {k n : Nat} (hl : l.length ≤ 2000) (h1 : 1 ≤ n) (h2 : n ≤ 100000) : Fn Try.prog 11 [.own 65 [srcRow l k]] [.ptr 0 0 0 0, .v (.int .i64 (n : Nat))] [.v (.int .i64 (idxV l k n : Nat))] [.own 65 [srcRow l (rawN l k)]] := by
  have := C11 (l := l) (k := k) (n := (n : Nat)) hl (by omega)
  rwa [idxV_eq l k h1] at this
def addP (c : Container) (p : Piece) : Container := { c with pieces := c.pieces ++ [p] }
abbrev pieA (l : List Int) (i k : Nat) : Piece := ⟨platesP i, 1 + gmod (rawV l (nx2 l k)) 30, pickV l (nx3 l k) cat8⟩
def ph2 (l : List Int) : Nat → Nat → Nat → List Container → Nat × List Container
  | 0, _, k, cs => (k, cs)
  | f + 1, i, k, cs => if gmod (rawV l k) 3 = 0 then ph2 l f (i + 1) (rawN l k) cs else
    if (((cs.getD (idxV l (rawN l k) cs.length) default).pieces.length : Nat) : Int) < 20 then ph2 l f (i + 1) (nx4 l k) (cs.set (idxV l (rawN l k) cs.length) (addP (cs.getD (idxV l (rawN l k) cs.length) default) (pieA l i k)))
    else ph2 l f (i + 1) (nx4 l k) cs
def contsV (l : List Int) (k m n : Nat) : Nat × List Container :=
  let r := ph1 l (idxV l k (m + 1)) (rawN l k) 0 []
  if r.2.length = 0 then r else ph2 l n 0 r.1 r.2
theorem cons_put {cs : List Container} {q : Nat} {p : Piece} (hq : q < cs.length) (x : AV) :
    ((cs.map oav).set q ((oav (cs.getD q default)).set 10 x)).set q (((oav (cs.getD q default)).set 10 x).set 10 (.own 41 (((cs.getD q default).pieces ++ [p]).map Piece.av))) = (cs.set q (addP (cs.getD q default) p)).map oav := by
  rw [List.set_set, List.set_set, List.map_set]
  rfl
set_option maxHeartbeats 4000000 in
theorem C8 {l : List Int} {k m n : Nat} (hl : l.length ≤ 2000) (hm : m ≤ 50) (hn : n ≤ 1000) : Fn Try.prog 8 [.own 65 [srcRow l k]] [.ptr 0 0 0 0, .v (.int .i64 (m : Nat)), .v (.int .i64 (n : Nat))] [.own 45 ((contsV l k m n).2.map oav)] [.own 65 [srcRow l (contsV l k m n).1]] := by
  have hk0 := idxV_lt l k (n := m + 1) (by omega)
  generalize k = k0 at *
  refine Spec.body Try.func8 rfl Try.ntmps8 (by simp) rfl ?_; intro S0 own0 v0 w0
  (refine AW.seq_k ?_; intro K hK)
  refine AW.region ?_
  refine awP (op_assign rfl rfl) ?_; (try simp only [nA, Nat.reduceBEq, Nat.reduceEqDiff, ↓reduceIte, Nat.reduceAdd, Nat.reduceSub])
  refine AWL.nil ?_
  (refine hK _ ?_; clear hK K; (try simp only [nA, Nat.reduceBEq, Nat.reduceEqDiff, ↓reduceIte, Nat.reduceAdd, Nat.reduceSub]))
  (refine AW.seq_k ?_; intro K hK)
  refine AW.region ?_
  refine awP (op_assign rfl rfl) ?_; (try simp only [nA, Nat.reduceBEq, Nat.reduceEqDiff, ↓reduceIte, Nat.reduceAdd, Nat.reduceSub])
  refine AWL.nil ?_
  (refine hK _ ?_; clear hK K; (skip))
  (refine AW.seq_k ?_; intro K hK)
  refine AW.region ?_
  refine awP (op_assign rfl rfl) ?_; (try simp only [nA, Nat.reduceBEq, Nat.reduceEqDiff, ↓reduceIte, Nat.reduceAdd, Nat.reduceSub])
  refine AWL.nil ?_
  (refine hK _ ?_; clear hK K; (skip))
  (refine AW.seq_k ?_; intro K hK)
  (refine AW.seq_k ?_; intro K hK)
  refine AW.region ?_
  refine awP (op_move rfl rfl) ?_; (simp only [nA, ↓reduceIte])
  refine awP (op_move rfl rfl) ?_; (simp only [nA, ↓reduceIte])
  (refine awP (op_addi rfl rfl rfl (by omega)) ?_); (try simp only [nA, Nat.reduceBEq, Nat.reduceEqDiff, ↓reduceIte, Nat.reduceAdd, Nat.reduceSub])
  refine awJ (op_call1 rfl en11 (C11n (n := m + 1) hl (by omega) (by omega)) (by exact rfl) (RL.cons .ptr (RL.cons (.base (by exact View.same rfl)) (RL.nil))) (by exact ⟨_, _, _, rfl, rfl, rfl⟩) (by exact rfl) (by exact rfl) (by exact rfl)) ?_; (try simp only [nA, Nat.reduceBEq, Nat.reduceEqDiff, ↓reduceIte, Nat.reduceAdd, Nat.reduceSub])
  refine awP (op_assign rfl rfl) ?_; (simp only [nA])
  refine AWL.nil ?_
  (refine hK _ ?_; clear hK K; (skip))
  refine AW.block ?_
  refine AW.gh (Gh.nil (e := 45) 7 (bl rfl) rfl sz45) ?_; (simp only [nA, Nat.reduceBEq, Nat.reduceEqDiff, ↓reduceIte]); refine AW.loopI (fun (q : Nat × Nat × Int × List Container × Nat × Nat) => [(0, .ptr 0 0 0 0), (2, .v (.int .i64 (n : Nat))), (7, .sl 1 q.2.2.2.2.1 0 q.2.2.2.1.length), (8, .v (.int .i64 q.2.2.1)), (9, .v (.int .i64 (q.1 : Nat)))]) (fun q => ⟨[(0, .own 65 [srcRow l q.2.1]), (q.2.2.2.2.1, .own 45 (q.2.2.2.1.map oav))], q.2.2.2.2.2⟩) (fun q => q.2.2.2.1.length + q.1 ≤ 100 ∧ 0 ≤ q.2.2.1 ∧ q.2.2.1 ≤ 2 * q.2.2.2.1.length ∧ ph1 l q.1 q.2.1 q.2.2.1 q.2.2.2.1 = ph1 l (idxV l k0 (m + 1)) (rawN l k0) 0 []) (fun q => q.1) (idxV l k0 (m + 1), rawN l k0, 0, [], 1, 2) ⟨by simp; omega, by simp, by simp, rfl⟩ ⟨rfl, rfl, rfl, rfl, rfl, trivial⟩ rfl ?_; rintro ⟨f, k, num, cs, v, ep⟩ ρ hI; simp only at hI; simp only [updL]
  (refine AW.seq_k ?_; intro K hK)
  (refine AW.seq_k ?_; intro K hK)
  refine AW.region ?_
  refine awP (op_move rfl rfl) ?_; (simp only [nA, ↓reduceIte])
  refine awP (op_gtr rfl rfl rfl) ?_; (try simp only [nA, Nat.reduceBEq, Nat.reduceEqDiff, ↓reduceIte, Nat.reduceAdd, Nat.reduceSub])
  refine AWL.nil ?_
  (refine hK _ ?_; clear hK K; (skip))
  refine AW.cond rfl rfl rfl (fun hc => ?_) (fun hc => ?_)
  ·
   (try simp only [hcS] at hc); have hc1 := hc; obtain ⟨f, rfl⟩ : ∃ g, f = g + 1 := ⟨f - 1, by omega⟩; have hg1 := gmod_bd (x := rawV l k) (n := 2) (by decide); have hg2 := gmod_bd (x := rawV l (rawN l k)) (n := 3) (by decide); have hg3 := gmod_bd (x := rawV l (rawN l (rawN l (rawN l k)))) (n := 300) (by decide); have hg4 := gmod_bd (x := rawV l (rawN l (rawN l (rawN l (rawN l k))))) (n := 10) (by decide); have hg5 := gmod_bd (x := rawV l (rawN l (rawN l (rawN l (rawN l (rawN l k)))))) (n := 21) (by decide)
   refine AW.skip ?_
   (refine hK _ ?_; clear hK K; (skip))
   (refine AW.seq_k ?_; intro K hK)
   refine AW.block ?_
   (refine AW.seq_k ?_; intro K hK)
   refine AW.region ?_
   refine awP (op_move rfl rfl) ?_; (simp only [nA, ↓reduceIte])
   refine awP (op_move rfl rfl) ?_; (simp only [nA, ↓reduceIte])
   refine awJ (op_call1 rfl en11 (C11 (n := 2) hl (by decide)) (by exact rfl) (RL.cons .ptr (RL.cons (.base (by exact View.same rfl)) (RL.nil))) (by exact ⟨_, _, _, rfl, rfl, rfl⟩) (by exact rfl) (by exact rfl) (by exact rfl)) ?_; (try simp only [nA, Nat.reduceBEq, Nat.reduceEqDiff, ↓reduceIte, Nat.reduceAdd, Nat.reduceSub])
   (refine awP (op_addi rfl rfl rfl (by omega)) ?_); (try simp only [nA, Nat.reduceBEq, Nat.reduceEqDiff, ↓reduceIte, Nat.reduceAdd, Nat.reduceSub])
   (refine awP (op_addi rfl rfl rfl (by omega)) ?_); (try simp only [nA, Nat.reduceBEq, Nat.reduceEqDiff, ↓reduceIte, Nat.reduceAdd, Nat.reduceSub])
   refine awP (op_assign rfl rfl) ?_; (simp only [nA])
   refine AWL.nil ?_
   (refine hK _ ?_; clear hK K; (skip))
   (refine AW.seq_k ?_; intro K hK)
   refine AW.region ?_
   refine awP (op_move rfl rfl) ?_; (simp only [nA])
   refine awP (op_move rfl rfl) ?_; (simp only [nA, ↓reduceIte])
   refine awJ (op_call1 rfl en11 (C11 (n := 3) hl (by decide)) (by exact rfl) (RL.cons .ptr (RL.cons (.base (by exact View.same rfl)) (RL.nil))) (by exact ⟨_, _, _, rfl, rfl, rfl⟩) (by exact rfl) (by exact rfl) (by exact rfl)) ?_; (try simp only [nA, Nat.reduceBEq, Nat.reduceEqDiff, ↓reduceIte, Nat.reduceAdd, Nat.reduceSub])
   refine awJ (op_call (b := false) rfl en10 (C10 _ hg2) (RL.cons (by exact View.same rfl) (RL.nil)) rfl (fun h => by cases h) rfl rfl) ?_; (try simp only [nA, Nat.reduceBEq, Nat.reduceEqDiff, ↓reduceIte, Nat.reduceAdd, Nat.reduceSub])
   refine awP (op_move rfl rfl) ?_; (simp only [nA, ↓reduceIte])
   refine awJ (op_buildSlice rfl [(0, iv 31), (1, iv 31), (2, iv 31), (3, iv 3), (4, iv 30), (5, iv 1)] (([31, 31, 31, 3, 30, 1] : List Int).map iv) Try.underlying22 ze3 rfl (by simp) (fold_dense 1 (([31, 31, 31, 3, 30, 1] : List Int).map iv) (iv_len _)) (iv_len _) rfl (bl rfl) (by simp [maxLen])) ?_; (simp only [nA, Nat.reduceBEq, Nat.reduceEqDiff, ↓reduceIte]); refine AWL.gh (Gh.freeze 32 (bl rfl) rfl rfl (iv_flat mask6) (es' := mask6.map iv) rfl) ?_; (try simp only [nA, Nat.reduceBEq, Nat.reduceEqDiff, ↓reduceIte, Nat.reduceAdd, Nat.reduceSub])
   refine awJ (op_call1 rfl en31 (C31 (xs := mask6) hl (by decide) (by decide)) (by exact rfl) (RL.cons .ptr (RL.cons (.base (by exact View.same rfl)) (RL.nil))) (by exact ⟨_, _, _, rfl, rfl, rfl⟩) (by exact rfl) (by exact rfl) (by exact rfl)) ?_; (try simp only [nA, Nat.reduceBEq, Nat.reduceEqDiff, ↓reduceIte, Nat.reduceAdd, Nat.reduceSub])
   refine awP (op_move rfl rfl) ?_; (simp only [nA, ↓reduceIte])
   refine awJ (op_call1 rfl en11 (C11 (n := 300) hl (by decide)) (by exact rfl) (RL.cons .ptr (RL.cons (.base (by exact View.same rfl)) (RL.nil))) (by exact ⟨_, _, _, rfl, rfl, rfl⟩) (by exact rfl) (by exact rfl) (by exact rfl)) ?_; (try simp only [nA, Nat.reduceBEq, Nat.reduceEqDiff, ↓reduceIte, Nat.reduceAdd, Nat.reduceSub])
   (refine awP (op_addi rfl rfl rfl (by omega)) ?_); (try simp only [nA, Nat.reduceBEq, Nat.reduceEqDiff, ↓reduceIte, Nat.reduceAdd, Nat.reduceSub])
   refine awP (op_move rfl rfl) ?_; (simp only [nA, ↓reduceIte])
   refine awJ (op_call1 rfl en11 (C11 (n := 10) hl (by decide)) (by exact rfl) (RL.cons .ptr (RL.cons (.base (by exact View.same rfl)) (RL.nil))) (by exact ⟨_, _, _, rfl, rfl, rfl⟩) (by exact rfl) (by exact rfl) (by exact rfl)) ?_; (try simp only [nA, Nat.reduceBEq, Nat.reduceEqDiff, ↓reduceIte, Nat.reduceAdd, Nat.reduceSub])
   (refine awP (op_addi rfl rfl rfl (by omega)) ?_); (try simp only [nA, Nat.reduceBEq, Nat.reduceEqDiff, ↓reduceIte, Nat.reduceAdd, Nat.reduceSub])
   refine awP (op_move rfl rfl) ?_; (simp only [nA, ↓reduceIte])
   refine awJ (op_call1 rfl en11 (C11 (n := 21) hl (by decide)) (by exact rfl) (RL.cons .ptr (RL.cons (.base (by exact View.same rfl)) (RL.nil))) (by exact ⟨_, _, _, rfl, rfl, rfl⟩) (by exact rfl) (by exact rfl) (by exact rfl)) ?_; (try simp only [nA, Nat.reduceBEq, Nat.reduceEqDiff, ↓reduceIte, Nat.reduceAdd, Nat.reduceSub])
   (refine awP (op_subi rfl rfl rfl (by omega)) ?_); (try simp only [nA, Nat.reduceBEq, Nat.reduceEqDiff, ↓reduceIte, Nat.reduceAdd, Nat.reduceSub])
   refine awP (op_build2 (xs := [_, _, _, _, _, _, _, _, .v (.int .i64 0), _, .v (.slice none 0 0)]) rfl pl45 ze45 [(0, [_]), (1, [_, _, _, _]), (2, [_]), (3, [_]), (4, [_]), (6, [_])] rfl rfl rfl) ?_; (simp only [nA, ↓reduceIte])
   refine awJ (op_alloc rfl ze45 rfl) ?_; (simp only [nA, Nat.reduceBEq, Nat.reduceEqDiff, ↓reduceIte])
   refine awJ (op_store rfl rfl rfl rfl rfl rfl sz45 rfl (bl rfl) rfl) ?_; (simp only [nA, Nat.reduceBEq, Nat.reduceEqDiff, ↓reduceIte])
   refine AWL.nil ?_
   (refine hK _ ?_; clear hK K; (skip))
   (refine AW.seq_k ?_; intro K hK)
   (refine AW.seq_k ?_; intro K hK)
   refine AW.region ?_
   refine awP (op_move rfl rfl) ?_; (simp only [nA, ↓reduceIte])
   refine awJ (op_call1 rfl en11 (C11 (n := 3) hl (by decide)) (by exact rfl) (RL.cons .ptr (RL.cons (.base (by exact View.same rfl)) (RL.nil))) (by exact ⟨_, _, _, rfl, rfl, rfl⟩) (by exact rfl) (by exact rfl) (by exact rfl)) ?_; (try simp only [nA, Nat.reduceBEq, Nat.reduceEqDiff, ↓reduceIte, Nat.reduceAdd, Nat.reduceSub])
   refine awP (op_gtr rfl rfl rfl) ?_; (try simp only [nA, Nat.reduceBEq, Nat.reduceEqDiff, ↓reduceIte, Nat.reduceAdd, Nat.reduceSub])
   refine AWL.nil ?_
   (refine hK _ ?_; clear hK K; (skip))
   refine AW.cond rfl rfl rfl (fun hc => ?_) (fun hc => ?_)
   ·
    (try simp only [hcS] at hc); have hc2 := hc
    refine AW.region ?_
    refine awP (op_move rfl rfl) ?_; (simp only [nA, ↓reduceIte])
    (refine awP (op_len_sl rfl rfl rfl Try.underlying25) ?_); (try simp only [nA, Nat.reduceBEq, Nat.reduceEqDiff, ↓reduceIte, Nat.reduceAdd, Nat.reduceSub])
    (refine awP (op_addi rfl rfl rfl (by omega)) ?_); (try simp only [nA, Nat.reduceBEq, Nat.reduceEqDiff, ↓reduceIte, Nat.reduceAdd, Nat.reduceSub])
    (refine awP (op_fa_ptr rfl rfl rfl fl45_5 (by exact sz3) (by decide) rfl) ?_); (try simp only [nA, Nat.reduceBEq, Nat.reduceEqDiff, ↓reduceIte, Nat.reduceAdd, Nat.reduceSub])
    refine awJ (op_store rfl rfl rfl rfl rfl rfl sz3 rfl (bl rfl) rfl) ?_; (simp only [nA, ↓reduceIte])
    refine AWL.nil ?_
    (refine hK _ ?_; clear hK K; (skip))
    refine AW.region ?_
    refine awP (op_move rfl rfl) ?_; (simp only [nA, ↓reduceIte])
    (refine awR (op_load_ptr rfl rfl rfl rfl ag45 sz45 (bl rfl) rfl) ?_); (try simp only [nA, Nat.reduceBEq, Nat.reduceEqDiff, ↓reduceIte, Nat.reduceAdd, Nat.reduceSub])
    refine awJ (op_buildSlice rfl [(0, nav (conA l k num (cs.length + 1)))] [nav (conA l k num (cs.length + 1))] Try.underlying25 ze45 rfl (by simp) rfl (by simp) rfl (bl rfl) (by simp [maxLen])) ?_; (simp only [nA, Nat.reduceBEq, Nat.reduceEqDiff, ↓reduceIte])
    refine awJ (op_app (rows := [nav (conA l k num (cs.length + 1))]) rfl rfl rfl rfl (by simp) (.sl (es := [nav (conA l k num (cs.length + 1))]) rfl rfl) Try.underlying25 ze45 (by decide) (by simp) (by simp; omega) (by decide) (es' := cs.map oav ++ [nav (conA l k num (cs.length + 1))]) rfl (n := (cs ++ [conA l k num (cs.length + 1)]).length) (by simp)) ?_; (try simp only [nA, Nat.reduceBEq, Nat.reduceEqDiff, ↓reduceIte, Nat.reduceAdd, Nat.reduceSub]); refine AWL.gh (Gh.slot2 (r := 1) (es' := (cs ++ [conA l k num (cs.length + 1)]).map oav) rfl (nav_lens _ _) (nav_le _ _ rfl)) ?_; (try simp only [nA, Nat.reduceBEq, Nat.reduceEqDiff, ↓reduceIte, Nat.reduceAdd, Nat.reduceSub])
    refine awP (op_assign rfl rfl) ?_; (simp only [nA])
    refine AWL.nil ?_
    (try simp only [thenE, inBlk, Nat.reduceEqDiff, ↓reduceIte])
    (refine hK _ ?_; clear hK K; (skip))
    refine AW.region ?_
    refine awP (op_move rfl rfl) ?_; (simp only [nA, ↓reduceIte])
    (refine awP (op_subi rfl rfl rfl (by omega)) ?_); (try simp only [nA, Nat.reduceBEq, Nat.reduceEqDiff, ↓reduceIte, Nat.reduceAdd, Nat.reduceSub])
    refine awP (op_assign rfl rfl) ?_; (simp only [nA])
    refine AWL.gh (Gh.drop 2) ?_; (try simp only [nA, Nat.reduceBEq, Nat.reduceEqDiff, ↓reduceIte, Nat.reduceAdd, Nat.reduceSub])
    refine AWL.nil ?_
    refine ⟨(f, nx7 l k, num + (1 + gmod (rawV l k) 2), cs ++ [conA l k num (cs.length + 1)], _, _), ⟨by simp; omega, by dsimp only; omega, by simp; omega, by rw [← hI.2.2.2]; dsimp only [ph1]; rw [if_pos (by simpa using hc2)]⟩, by dsimp only; omega, ⟨rfl, rfl, rfl, rfl, (by show AV.v (Value.int .i64 (((f + 1 : Nat) : Int) - 1)) = AV.v (Value.int .i64 (f : Nat)); congr 2; omega), trivial⟩, (by rfl), (by rfl)⟩
   (try simp only [hcS] at hc); have hc2 := hc
   refine AW.skip ?_
   (refine hK _ ?_; clear hK K; (skip))
   refine AW.region ?_
   refine awP (op_move rfl rfl) ?_; (simp only [nA, ↓reduceIte])
   (refine awR (op_load_ptr rfl rfl rfl rfl ag45 sz45 (bl rfl) rfl) ?_); (try simp only [nA, Nat.reduceBEq, Nat.reduceEqDiff, ↓reduceIte, Nat.reduceAdd, Nat.reduceSub])
   refine awJ (op_buildSlice rfl [(0, nav (conA l k num 0))] [nav (conA l k num 0)] Try.underlying25 ze45 rfl (by simp) rfl (by simp) rfl (bl rfl) (by simp [maxLen])) ?_; (simp only [nA, Nat.reduceBEq, Nat.reduceEqDiff, ↓reduceIte])
   refine awJ (op_app (rows := [nav (conA l k num 0)]) rfl rfl rfl rfl (by simp) (.sl (es := [nav (conA l k num 0)]) rfl rfl) Try.underlying25 ze45 (by decide) (by simp) (by simp; omega) (by decide) (es' := cs.map oav ++ [nav (conA l k num 0)]) rfl (n := (cs ++ [conA l k num 0]).length) (by simp)) ?_; (try simp only [nA, Nat.reduceBEq, Nat.reduceEqDiff, ↓reduceIte, Nat.reduceAdd, Nat.reduceSub]); refine AWL.gh (Gh.slot2 (r := 1) (es' := (cs ++ [conA l k num 0]).map oav) rfl (nav_lens _ _) (nav_le _ _ rfl)) ?_; (try simp only [nA, Nat.reduceBEq, Nat.reduceEqDiff, ↓reduceIte, Nat.reduceAdd, Nat.reduceSub])
   refine awP (op_assign rfl rfl) ?_; (simp only [nA])
   refine AWL.nil ?_
   (try simp only [thenE, inBlk, Nat.reduceEqDiff, ↓reduceIte])
   (refine hK _ ?_; clear hK K; (skip))
   refine AW.region ?_
   refine awP (op_move rfl rfl) ?_; (simp only [nA, ↓reduceIte])
   (refine awP (op_subi rfl rfl rfl (by omega)) ?_); (try simp only [nA, Nat.reduceBEq, Nat.reduceEqDiff, ↓reduceIte, Nat.reduceAdd, Nat.reduceSub])
   refine awP (op_assign rfl rfl) ?_; (simp only [nA])
   refine AWL.gh (Gh.drop 2) ?_; (try simp only [nA, Nat.reduceBEq, Nat.reduceEqDiff, ↓reduceIte, Nat.reduceAdd, Nat.reduceSub])
   refine AWL.nil ?_
   refine ⟨(f, nx7 l k, num + (1 + gmod (rawV l k) 2), cs ++ [conA l k num 0], _, _), ⟨by simp; omega, by dsimp only; omega, by simp; omega, by rw [← hI.2.2.2]; dsimp only [ph1]; rw [if_neg (by simpa using hc2)]⟩, by dsimp only; omega, ⟨rfl, rfl, rfl, rfl, (by show AV.v (Value.int .i64 (((f + 1 : Nat) : Int) - 1)) = AV.v (Value.int .i64 (f : Nat)); congr 2; omega), trivial⟩, (by rfl), (by rfl)⟩
  (try simp only [hcS] at hc); have hc1 := hc; obtain rfl : f = 0 := (by omega); have hE : ph1 l (idxV l k0 (m + 1)) (rawN l k0) 0 [] = (k, cs) := hI.2.2.2.symm
  refine AW.exit ?_; (try simp only [thenE, inBlk, Nat.reduceEqDiff, ↓reduceIte])
  clear hK K
  (refine hK _ ?_; clear hK K; (skip))
  (refine AW.seq_k ?_; intro K hK)
  (refine AW.seq_k ?_; intro K hK)
  refine AW.region ?_
  refine awP (op_move rfl rfl) ?_; (simp only [nA, ↓reduceIte])
  (refine awP (op_len_sl rfl rfl rfl Try.underlying25) ?_); (try simp only [nA, Nat.reduceBEq, Nat.reduceEqDiff, ↓reduceIte, Nat.reduceAdd, Nat.reduceSub])
  (refine awP (op_eql rfl rfl rfl) ?_); (try simp only [nA, Nat.reduceBEq, Nat.reduceEqDiff, ↓reduceIte, Nat.reduceAdd, Nat.reduceSub])
  refine AWL.nil ?_
  (refine hK _ ?_; clear hK K; (skip))
  refine AW.cond rfl rfl rfl (fun hc => ?_) (fun hc => ?_)
  ·
   (try simp only [hcS] at hc); have hc3 := hc
   (refine AW.seq_k ?_; intro K hK)
   refine AW.region ?_
   refine awP (op_move rfl rfl) ?_; (simp only [nA, ↓reduceIte])
   refine awP (op_assign rfl rfl) ?_; (simp only [nA])
   refine AWL.nil ?_
   (refine hK _ ?_; clear hK K; (skip))
   skip
   refine AW.ret ?_; (try simp only [thenE, inBlk, Nat.reduceEqDiff, ↓reduceIte]); have hlen0 : cs.length = 0 := (by simpa using hc3); rw [show contsV l k0 m n = (k, cs) by unfold contsV; simp only [hE]; rw [if_pos hlen0]]; exact RQ.of (.inl rfl) rfl (.own (bl rfl) rfl rfl (by simp) (by simp) .nil) (by simp) rfl (one_out rfl)
  (try simp only [hcS] at hc); have hc3 := hc; have hcl : 1 ≤ cs.length := (by simp at hc3; omega); have hE2 : contsV l k0 m n = ph2 l n 0 k cs := (by unfold contsV; simp only [hE]; rw [if_neg (by omega)])
  refine AW.skip ?_
  (refine hK _ ?_; clear hK K; (skip))
  (refine AW.seq_k ?_; intro K hK)
  (refine AW.seq_k ?_; intro K hK)
  refine AW.region ?_
  refine awP (op_assign rfl rfl) ?_; (try simp only [nA, Nat.reduceBEq, Nat.reduceEqDiff, ↓reduceIte, Nat.reduceAdd, Nat.reduceSub])
  refine AWL.nil ?_
  (refine hK _ ?_; clear hK K; (skip))
  refine AW.block ?_
  refine AW.loopI (fun (q : Nat × Nat × Nat × List Container × Nat) => [(0, .ptr 0 0 0 0), (2, .v (.int .i64 (n : Nat))), (7, .sl 1 v 0 q.2.2.2.1.length), (11, .v (.int .i64 (q.2.1 : Nat)))]) (fun q => ⟨[(0, .own 65 [srcRow l q.2.2.1]), (v, .own 45 (q.2.2.2.1.map oav))], q.2.2.2.2⟩) (fun q => q.1 + q.2.1 = n ∧ 1 ≤ q.2.2.2.1.length ∧ q.2.2.2.1.length ≤ 100 ∧ ph2 l q.1 q.2.1 q.2.2.1 q.2.2.2.1 = contsV l k0 m n) (fun q => q.1) (n, 0, k, cs, ep) ⟨by simp, hcl, by dsimp only; omega, hE2.symm⟩ ⟨rfl, rfl, rfl, rfl, trivial⟩ rfl ?_; clear hE hE2 hc3 hI; rintro ⟨f, i, k, cs, ep⟩ ρ hI; simp only at hI; simp only [updL]
  (refine AW.seq_k ?_; intro K hK)
  (refine AW.seq_k ?_; intro K hK)
  refine AW.region ?_
  refine awP (op_move rfl rfl) ?_; (simp only [nA, ↓reduceIte])
  refine awP (op_move rfl rfl) ?_; (simp only [nA, ↓reduceIte])
  refine awP (op_lss rfl rfl rfl) ?_; (try simp only [nA, Nat.reduceBEq, Nat.reduceEqDiff, ↓reduceIte, Nat.reduceAdd, Nat.reduceSub])
  refine AWL.nil ?_
  (refine hK _ ?_; clear hK K; (skip))
  refine AW.cond rfl rfl rfl (fun hc => ?_) (fun hc => ?_)
  ·
   (try simp only [hcS] at hc); have hc4 := hc; obtain ⟨f, rfl⟩ : ∃ g, f = g + 1 := ⟨f - 1, by omega⟩; have hR := hI.2.2.2; unfold ph2 at hR; have hg2 := gmod_bd (x := rawV l (rawN l (rawN l k))) (n := 30) (by decide); have hkk := idxV_lt l (rawN l k) hI.2.1
   refine AW.skip ?_
   (refine hK _ ?_; clear hK K; (skip))
   (refine AW.seq_k ?_; intro K hK)
   refine AW.block ?_
   (refine AW.seq_k ?_; intro K hK)
   (refine AW.seq_k ?_; intro K hK)
   refine AW.region ?_
   refine awP (op_move rfl rfl) ?_; (simp only [nA, ↓reduceIte])
   refine awJ (op_call1 rfl en11 (C11 (n := 3) hl (by decide)) (by exact rfl) (RL.cons .ptr (RL.cons (.base (by exact View.same rfl)) (RL.nil))) (by exact ⟨_, _, _, rfl, rfl, rfl⟩) (by exact rfl) (by exact rfl) (by exact rfl)) ?_; (try simp only [nA, Nat.reduceBEq, Nat.reduceEqDiff, ↓reduceIte, Nat.reduceAdd, Nat.reduceSub])
   (refine awP (op_eql rfl rfl rfl) ?_); (try simp only [nA, Nat.reduceBEq, Nat.reduceEqDiff, ↓reduceIte, Nat.reduceAdd, Nat.reduceSub])
   refine AWL.nil ?_
   (refine hK _ ?_; clear hK K; (skip))
   refine AW.cond rfl rfl rfl (fun hc => ?_) (fun hc => ?_)
   ·
    (try simp only [hcS] at hc); have hc5 := hc
    refine AW.exit ?_; (try simp only [thenE, inBlk, Nat.reduceEqDiff, ↓reduceIte])
    clear hK K
    (refine hK _ ?_; clear hK K; (skip))
    refine AW.region ?_
    refine awP (op_move rfl rfl) ?_; (simp only [nA, ↓reduceIte])
    (refine awP (op_addi rfl rfl rfl (by omega)) ?_); (try simp only [nA, Nat.reduceBEq, Nat.reduceEqDiff, ↓reduceIte, Nat.reduceAdd, Nat.reduceSub])
    refine awP (op_assign rfl rfl) ?_; (simp only [nA])
    refine AWL.gh (Gh.drop 2) ?_; (try simp only [nA, Nat.reduceBEq, Nat.reduceEqDiff, ↓reduceIte, Nat.reduceAdd, Nat.reduceSub])
    refine AWL.nil ?_
    refine ⟨(f, i + 1, rawN l k, cs, _), ⟨by dsimp only; omega, hI.2.1, hI.2.2.1, by rw [← hR, if_pos (by simpa using hc5)]⟩, by dsimp only; omega, ⟨rfl, rfl, rfl, rfl, trivial⟩, (by rfl), (by rfl)⟩
   (try simp only [hcS] at hc); have hc5 := hc
   refine AW.skip ?_
   (refine hK _ ?_; clear hK K; (skip))
   (refine AW.seq_k ?_; intro K hK)
   refine AW.region ?_
   refine awP (op_move rfl rfl) ?_; (simp only [nA, ↓reduceIte])
   refine awP (op_move rfl rfl) ?_; (simp only [nA, ↓reduceIte])
   (refine awP (op_len_sl rfl rfl rfl Try.underlying25) ?_); (try simp only [nA, Nat.reduceBEq, Nat.reduceEqDiff, ↓reduceIte, Nat.reduceAdd, Nat.reduceSub])
   refine awJ (op_call1 rfl en11 (C11n (n := cs.length) hl hI.2.1 (by omega)) (by exact rfl) (RL.cons .ptr (RL.cons (.base (by exact View.same rfl)) (RL.nil))) (by exact ⟨_, _, _, rfl, rfl, rfl⟩) (by exact rfl) (by exact rfl) (by exact rfl)) ?_; (try simp only [nA, Nat.reduceBEq, Nat.reduceEqDiff, ↓reduceIte, Nat.reduceAdd, Nat.reduceSub])
   refine awP (op_assign rfl rfl) ?_; (simp only [nA])
   refine AWL.nil ?_
   (refine hK _ ?_; clear hK K; (skip))
   (refine AW.seq_k ?_; intro K hK)
   refine AW.region ?_
   refine awP (op_move rfl rfl) ?_; (simp only [nA, ↓reduceIte])
   refine awJ (op_call (b := false) rfl en27 (C27 (i := (i : Nat))) (RL.cons (by exact View.same rfl) (RL.nil)) rfl (fun h => by cases h) rfl rfl) ?_; (try simp only [nA, Nat.reduceBEq, Nat.reduceEqDiff, ↓reduceIte, Nat.reduceAdd, Nat.reduceSub])
   refine awP (op_move rfl rfl) ?_; (simp only [nA, ↓reduceIte])
   refine awJ (op_call1 rfl en11 (C11 (n := 30) hl (by decide)) (by exact rfl) (RL.cons .ptr (RL.cons (.base (by exact View.same rfl)) (RL.nil))) (by exact ⟨_, _, _, rfl, rfl, rfl⟩) (by exact rfl) (by exact rfl) (by exact rfl)) ?_; (try simp only [nA, Nat.reduceBEq, Nat.reduceEqDiff, ↓reduceIte, Nat.reduceAdd, Nat.reduceSub])
   (refine awP (op_addi rfl rfl rfl (by omega)) ?_); (try simp only [nA, Nat.reduceBEq, Nat.reduceEqDiff, ↓reduceIte, Nat.reduceAdd, Nat.reduceSub])
   refine awP (op_move rfl rfl) ?_; (simp only [nA, ↓reduceIte])
   refine awJ (op_buildSlice rfl [(0, iv 0), (1, iv 0), (2, iv 0), (3, iv 0), (4, iv 1), (5, iv 2), (6, iv 3), (7, iv 4)] (([0, 0, 0, 0, 1, 2, 3, 4] : List Int).map iv) Try.underlying22 ze3 rfl (by simp) (fold_dense 1 (([0, 0, 0, 0, 1, 2, 3, 4] : List Int).map iv) (iv_len _)) (iv_len _) rfl (bl rfl) (by simp [maxLen])) ?_; (simp only [nA, Nat.reduceBEq, Nat.reduceEqDiff, ↓reduceIte]); refine AWL.gh (Gh.freeze 77 (bl rfl) rfl rfl (iv_flat cat8) (es' := cat8.map iv) rfl) ?_; (try simp only [nA, Nat.reduceBEq, Nat.reduceEqDiff, ↓reduceIte, Nat.reduceAdd, Nat.reduceSub])
   refine awJ (op_call1 rfl en31 (C31 (xs := cat8) hl (by decide) (by decide)) (by exact rfl) (RL.cons .ptr (RL.cons (.base (by exact View.same rfl)) (RL.nil))) (by exact ⟨_, _, _, rfl, rfl, rfl⟩) (by exact rfl) (by exact rfl) (by exact rfl)) ?_; (try simp only [nA, Nat.reduceBEq, Nat.reduceEqDiff, ↓reduceIte, Nat.reduceAdd, Nat.reduceSub])
   refine awP (op_build2 (xs := [_, _, _, _, _]) rfl pl41 ze41 [(0, [_, _, _]), (1, [_]), (2, [_])] rfl rfl rfl) ?_; (simp only [nA, ↓reduceIte])
   refine awJ (op_alloc rfl ze41 rfl) ?_; (simp only [nA, Nat.reduceBEq, Nat.reduceEqDiff, ↓reduceIte])
   refine awJ (op_store rfl rfl rfl rfl rfl rfl sz41 rfl (bl rfl) rfl) ?_; (simp only [nA, Nat.reduceBEq, Nat.reduceEqDiff, ↓reduceIte])
   refine AWL.nil ?_
   (refine hK _ ?_; clear hK K; (skip))
   (refine AW.seq_k ?_; intro K hK)
   refine AW.region ?_
   refine awP (op_move rfl rfl) ?_; (simp only [nA, ↓reduceIte])
   refine awP (op_move rfl rfl) ?_; (simp only [nA, ↓reduceIte])
   (refine awP (op_ia_sl _ _ rfl rfl rfl rfl Try.underlying25 rfl (by omega) (by exact sz45) rfl) ?_); (try simp only [nA, Nat.reduceBEq, Nat.reduceEqDiff, ↓reduceIte, Nat.reduceAdd, Nat.reduceSub])
   (refine awP (op_fa_ptr rfl rfl rfl fl45_7 (by exact sz27) (by decide) rfl) ?_); (try simp only [nA, Nat.reduceBEq, Nat.reduceEqDiff, ↓reduceIte, Nat.reduceAdd, Nat.reduceSub])
   (refine awR (op_load_ptr1 rfl rfl rfl (get_mapD (f := oav) hkk) ag27 rfl rfl) ?_); (try simp only [nA, Nat.reduceBEq, Nat.reduceEqDiff, ↓reduceIte, Nat.reduceAdd, Nat.reduceSub])
   (refine awP (op_len_ro rfl rfl Try.underlying27 (by exact .inl rfl)) ?_); (try simp only [nA, Nat.reduceBEq, Nat.reduceEqDiff, ↓reduceIte, Nat.reduceAdd, Nat.reduceSub])
   refine awP (op_lss rfl rfl rfl) ?_; (try simp only [nA, Nat.reduceBEq, Nat.reduceEqDiff, ↓reduceIte, Nat.reduceAdd, Nat.reduceSub])
   refine AWL.nil ?_
   (refine hK _ ?_; clear hK K; (skip))
   refine AW.cond rfl rfl rfl (fun hc => ?_) (fun hc => ?_)
   ·
    (try simp only [hcS] at hc); have hc6 := hc
    refine AW.ado (fun T' => (∃ es, T'.slots[1]? = some (v, .own 45 es) ∧ es.length = cs.length) ∧ T'.slots[3]? = some (ep + 1, .own 41 [(pieA l i k).av])) mix rfl ?_
    refine adPo 0 rfl (fun T' ok => op_move rfl rfl) ⟨⟨_, rfl, by simp⟩, rfl⟩ (by kernel_rfl) (by kernel_rfl) ?_; (simp only [nA, Nat.reduceBEq, Nat.reduceEqDiff, ↓reduceIte])
    refine adPo 1 rfl (fun T' ok => op_move rfl rfl) ⟨⟨_, rfl, by simp⟩, rfl⟩ (by kernel_rfl) (by kernel_rfl) ?_; (simp only [nA, ↓reduceIte])
    refine adPo 2 rfl (fun T' ok => op_move rfl rfl) ⟨⟨_, rfl, by simp⟩, rfl⟩ (by kernel_rfl) (by kernel_rfl) ?_; (simp only [nA, ↓reduceIte])
    refine adPo 3 rfl (fun T' ok => op_move rfl rfl) ⟨⟨_, rfl, by simp⟩, rfl⟩ (by kernel_rfl) (by kernel_rfl) ?_; (simp only [nA, ↓reduceIte])
    refine adPo 4 rfl (fun T' ok => (op_ia_sl (idxV l (rawN l k) cs.length) 11 rfl rfl rfl ok.1.choose_spec.1 Try.underlying25 rfl (by omega) (by exact sz45) (Nat.zero_add _))) ⟨⟨_, rfl, by simp⟩, rfl⟩ (by kernel_rfl) (by kernel_rfl) ?_; (try simp only [nA, Nat.reduceBEq, Nat.reduceEqDiff, ↓reduceIte, Nat.reduceAdd, Nat.reduceSub])
    refine adPo 5 rfl (fun T' ok => (op_fa_ptr rfl rfl ok.1.choose_spec.1 fl45_7 (by exact sz27) (by decide) rfl)) ⟨⟨_, rfl, by simp⟩, rfl⟩ (by kernel_rfl) (by kernel_rfl) ?_; (try simp only [nA, Nat.reduceBEq, Nat.reduceEqDiff, ↓reduceIte, Nat.reduceAdd, Nat.reduceSub])
    refine adRo 7 rfl (fun T' ok => op_load_ptr rfl rfl ok.2 rfl ag41 sz41 (bl rfl) rfl) ⟨⟨_, rfl, by simp⟩, rfl⟩ (by kernel_rfl) (by kernel_rfl) ?_; (try simp only [nA, Nat.reduceBEq, Nat.reduceEqDiff, ↓reduceIte, Nat.reduceAdd, Nat.reduceSub])
    refine adJ2o 6 8 rfl rfl (op_load_nest rfl rfl rfl (get_mapD (f := oav) hkk) ag27 rfl rfl) (op_buildSlice rfl [(0, (pieA l i k).av)] [(pieA l i k).av] Try.underlying27 ze41 rfl (by simp) rfl (by simp) rfl (bl rfl) (by simp [maxLen])) (by kernel_rfl) ⟨⟨_, rfl, by simp⟩, rfl⟩ ⟨⟨_, rfl, by simp⟩, rfl⟩ ?_ ?_
    · (simp only [nA, Nat.reduceBEq, Nat.reduceEqDiff, ↓reduceIte])
      refine adJo 8 rfl (op_buildSlice rfl [(0, (pieA l i k).av)] [(pieA l i k).av] Try.underlying27 ze41 rfl (by simp) rfl (by simp) rfl (bl rfl) (by simp [maxLen])) (by kernel_rfl) ⟨⟨_, rfl, by simp⟩, rfl⟩ ?_; (simp only [nA, Nat.reduceBEq, Nat.reduceEqDiff, ↓reduceIte])
      refine adJo 9 rfl (op_app (rows := [(pieA l i k).av]) rfl rfl rfl rfl (by simp) (.sl (es := [(pieA l i k).av]) rfl rfl) Try.underlying27 ze41 (by decide) (by simp) (by simp only [List.length_map, List.length_cons, List.length_nil]; omega) (by decide) (es' := ((cs.getD (idxV l (rawN l k) cs.length) default).pieces ++ [pieA l i k]).map Piece.av) (by simp [ldc_v]) (n := ((cs.getD (idxV l (rawN l k) cs.length) default).pieces ++ [pieA l i k]).length) (by simp)) (by kernel_rfl) ⟨⟨_, rfl, by simp⟩, rfl⟩ ?_; (try simp only [nA, Nat.reduceBEq, Nat.reduceEqDiff, ↓reduceIte, Nat.reduceAdd, Nat.reduceSub])
      refine adPo 10 rfl (fun T' ok => (op_ia_sl (idxV l (rawN l k) cs.length) 11 rfl rfl rfl ok.1.choose_spec.1 Try.underlying25 rfl (by omega) (by exact sz45) (Nat.zero_add _))) ⟨⟨_, rfl, by simp⟩, rfl⟩ (by kernel_rfl) (by kernel_rfl) ?_; (try simp only [nA, Nat.reduceBEq, Nat.reduceEqDiff, ↓reduceIte, Nat.reduceAdd, Nat.reduceSub])
      refine adPo 11 rfl (fun T' ok => (op_fa_ptr rfl rfl ok.1.choose_spec.1 fl45_7 (by exact sz27) (by decide) rfl)) ⟨⟨_, rfl, by simp⟩, rfl⟩ (by kernel_rfl) (by kernel_rfl) ?_; (try simp only [nA, Nat.reduceBEq, Nat.reduceEqDiff, ↓reduceIte, Nat.reduceAdd, Nat.reduceSub])
      refine adJo 12 rfl (op_store_nest rfl rfl rfl rfl (row := (oav (cs.getD (idxV l (rawN l k) cs.length) default)).set 10 (.sln (cs.getD (idxV l (rawN l k) cs.length) default).pieces.length)) (by simp [hkk]) sz27 rfl (by decide) (by simp) (by simp) (cons_put hkk _)) (by kernel_rfl) ⟨⟨_, rfl, by simp⟩, rfl⟩ ?_; (try simp only [nA, Nat.reduceBEq, Nat.reduceEqDiff, ↓reduceIte, Nat.reduceAdd, Nat.reduceSub])
      refine adDoneo (by kernel_rfl) ?_
      (try simp only [thenE, inBlk, Nat.reduceEqDiff, ↓reduceIte]); (refine hK _ ?_; clear hK K; (skip)); refine AW.region ?_; refine awP (op_move rfl rfl) ?_; (simp only [nA, ↓reduceIte]); refine awP (op_addi rfl rfl rfl (by omega)) ?_; (try simp only [nA, Nat.reduceBEq, Nat.reduceEqDiff, ↓reduceIte, Nat.reduceAdd, Nat.reduceSub]); refine awP (op_assign rfl rfl) ?_; (simp only [nA]); refine AWL.gh (Gh.drop 2) ?_; (try simp only [nA, Nat.reduceBEq, Nat.reduceEqDiff, ↓reduceIte, Nat.reduceAdd, Nat.reduceSub]); refine AWL.nil ?_; refine ⟨(f, i + 1, nx4 l k, cs.set (idxV l (rawN l k) cs.length) (addP (cs.getD (idxV l (rawN l k) cs.length) default) (pieA l i k)), _), ⟨by dsimp only; omega, (by simp; omega), (by simp; omega), by rw [← hR, if_neg (by simpa using hc5), if_pos (by simpa using hc6)]⟩, by dsimp only; omega, ⟨rfl, rfl, (by show _ = AV.sl 1 v 0 (cs.set (idxV l (rawN l k) cs.length) (addP (cs.getD (idxV l (rawN l k) cs.length) default) (pieA l i k))).length; rw [List.length_set]; rfl), rfl, trivial⟩, (by rfl), (by rfl)⟩
    (simp only [nA, Nat.reduceBEq, Nat.reduceEqDiff, ↓reduceIte])
    refine adJo 6 rfl (op_load_nest rfl rfl rfl (get_mapD (f := oav) hkk) ag27 rfl rfl) (by kernel_rfl) ⟨⟨_, rfl, by simp⟩, rfl⟩ ?_; (simp only [nA, Nat.reduceBEq, Nat.reduceEqDiff, ↓reduceIte])
    refine adJo 9 rfl (op_app (rows := [(pieA l i k).av]) rfl rfl rfl rfl (by simp) (.sl (es := [(pieA l i k).av]) rfl rfl) Try.underlying27 ze41 (by decide) (by simp) (by simp only [List.length_map, List.length_cons, List.length_nil]; omega) (by decide) (es' := ((cs.getD (idxV l (rawN l k) cs.length) default).pieces ++ [pieA l i k]).map Piece.av) (by simp [ldc_v]) (n := ((cs.getD (idxV l (rawN l k) cs.length) default).pieces ++ [pieA l i k]).length) (by simp)) (by kernel_rfl) ⟨⟨_, rfl, by simp⟩, rfl⟩ ?_; (try simp only [nA, Nat.reduceBEq, Nat.reduceEqDiff, ↓reduceIte, Nat.reduceAdd, Nat.reduceSub])
    refine adPo 10 rfl (fun T' ok => (op_ia_sl (idxV l (rawN l k) cs.length) 11 rfl rfl rfl ok.1.choose_spec.1 Try.underlying25 rfl (by omega) (by exact sz45) (Nat.zero_add _))) ⟨⟨_, rfl, by simp⟩, rfl⟩ (by kernel_rfl) (by kernel_rfl) ?_; (try simp only [nA, Nat.reduceBEq, Nat.reduceEqDiff, ↓reduceIte, Nat.reduceAdd, Nat.reduceSub])
    refine adPo 11 rfl (fun T' ok => (op_fa_ptr rfl rfl ok.1.choose_spec.1 fl45_7 (by exact sz27) (by decide) rfl)) ⟨⟨_, rfl, by simp⟩, rfl⟩ (by kernel_rfl) (by kernel_rfl) ?_; (try simp only [nA, Nat.reduceBEq, Nat.reduceEqDiff, ↓reduceIte, Nat.reduceAdd, Nat.reduceSub])
    refine adJo 12 rfl (op_store_nest rfl rfl rfl rfl (row := (oav (cs.getD (idxV l (rawN l k) cs.length) default)).set 10 (.sln (cs.getD (idxV l (rawN l k) cs.length) default).pieces.length)) (by simp [hkk]) sz27 rfl (by decide) (by simp) (by simp) (cons_put hkk _)) (by kernel_rfl) ⟨⟨_, rfl, by simp⟩, rfl⟩ ?_; (try simp only [nA, Nat.reduceBEq, Nat.reduceEqDiff, ↓reduceIte, Nat.reduceAdd, Nat.reduceSub])
    refine adDoneo (by kernel_rfl) ?_
    (try simp only [thenE, inBlk, Nat.reduceEqDiff, ↓reduceIte]); (refine hK _ ?_; clear hK K; (skip)); refine AW.region ?_; refine awP (op_move rfl rfl) ?_; (simp only [nA, ↓reduceIte]); refine awP (op_addi rfl rfl rfl (by omega)) ?_; (try simp only [nA, Nat.reduceBEq, Nat.reduceEqDiff, ↓reduceIte, Nat.reduceAdd, Nat.reduceSub]); refine awP (op_assign rfl rfl) ?_; (simp only [nA]); refine AWL.gh (Gh.drop 2) ?_; (try simp only [nA, Nat.reduceBEq, Nat.reduceEqDiff, ↓reduceIte, Nat.reduceAdd, Nat.reduceSub]); refine AWL.nil ?_; refine ⟨(f, i + 1, nx4 l k, cs.set (idxV l (rawN l k) cs.length) (addP (cs.getD (idxV l (rawN l k) cs.length) default) (pieA l i k)), _), ⟨by dsimp only; omega, (by simp; omega), (by simp; omega), by rw [← hR, if_neg (by simpa using hc5), if_pos (by simpa using hc6)]⟩, by dsimp only; omega, ⟨rfl, rfl, (by show _ = AV.sl 1 v 0 (cs.set (idxV l (rawN l k) cs.length) (addP (cs.getD (idxV l (rawN l k) cs.length) default) (pieA l i k))).length; rw [List.length_set]; rfl), rfl, trivial⟩, (by rfl), (by rfl)⟩
   (try simp only [hcS] at hc); have hc6 := hc
   refine AW.skip ?_
   (try simp only [thenE, inBlk, Nat.reduceEqDiff, ↓reduceIte])
   (refine hK _ ?_; clear hK K; (skip))
   refine AW.region ?_
   refine awP (op_move rfl rfl) ?_; (simp only [nA, ↓reduceIte])
   (refine awP (op_addi rfl rfl rfl (by omega)) ?_); (try simp only [nA, Nat.reduceBEq, Nat.reduceEqDiff, ↓reduceIte, Nat.reduceAdd, Nat.reduceSub])
   refine awP (op_assign rfl rfl) ?_; (simp only [nA])
   refine AWL.gh (Gh.drop 2) ?_; (try simp only [nA, Nat.reduceBEq, Nat.reduceEqDiff, ↓reduceIte, Nat.reduceAdd, Nat.reduceSub])
   refine AWL.nil ?_
   refine ⟨(f, i + 1, nx4 l k, cs, _), ⟨by dsimp only; omega, hI.2.1, hI.2.2.1, by rw [← hR, if_neg (by simpa using hc5), if_neg (by omega)]⟩, by dsimp only; omega, ⟨rfl, rfl, rfl, rfl, trivial⟩, (by rfl), (by rfl)⟩
  (try simp only [hcS] at hc); have hc4 := hc; obtain rfl : f = 0 := (by omega); have hE : contsV l k0 m n = (k, cs) := hI.2.2.2.symm
  refine AW.exit ?_; (try simp only [thenE, inBlk, Nat.reduceEqDiff, ↓reduceIte])
  clear hK K
  (refine hK _ ?_; clear hK K; (skip))
  (refine AW.seq_k ?_; intro K hK)
  refine AW.region ?_
  refine awP (op_move rfl rfl) ?_; (simp only [nA, ↓reduceIte])
  refine awP (op_assign rfl rfl) ?_; (simp only [nA])
  refine AWL.nil ?_
  (refine hK _ ?_; clear hK K; (skip))
  skip
  refine AW.ret ?_; (try simp only [thenE, inBlk, Nat.reduceEqDiff, ↓reduceIte]); rw [hE]; exact RQ.of (.inl rfl) rfl (.own (bl rfl) rfl rfl (by simp) (by simp) .nil) (by simp) rfl (one_out rfl)
end Go.Proofs.Ytmdohphcolffmaa
namespace Go.Proofs.Ytmdohphcolffmaa
open Go.RowKit
set_option linter.unusedSimpArgs false
set_option linter.unusedVariables false
set_option maxRecDepth 100000
def delL (l : List Piece) (p : Plate) : List Piece := l.take (posP l p) ++ l.drop (posP l p + 1)
structure InvA (num : Int) (cs : List Container) : Prop where
  co : ∀ c ∈ cs, coB c = true
  nil : ∀ c ∈ cs, c.pieces = []
  le : ∀ c ∈ cs, c.number ≤ num
  asc : cs.Pairwise fun c d => c.number < d.number
  pos : ∀ (i : Nat) (h : i < cs.length), cs[i].position = 0 ∨ cs[i].position = i + 1
theorem flB_N {x : Int} (h : 0 ≤ x ∧ x < 3) : flB (flightN x) = true := by
  rcases (by omega : x = 0 ∨ x = 1 ∨ x = 2) with rfl | rfl | rfl <;> kernel_rfl
theorem coB_intro {c : Container} (h1 : 1 ≤ c.number ∧ c.number ≤ 999) (h2 : flB c.flight = true) (h3 : 0 ≤ c.categories ∧ c.categories ≤ 31) (h4 : 0 ≤ c.limit ∧ c.limit ≤ 20000) (h5 : 0 ≤ c.most ∧ c.most ≤ 60) (h6 : 0 ≤ c.position ∧ c.position ≤ 24) (h7 : -50 ≤ c.arm ∧ c.arm ≤ 50) : coB c = true := by
  unfold coB inB
  rw [h2]
  simp
  omega
theorem conA_ok {l : List Int} {k : Nat} {num pos : Int} (h1 : 0 ≤ num ∧ num ≤ 900) (h2 : 0 ≤ pos ∧ pos ≤ 24) : coB (conA l k num pos) = true := by
  have hg1 := gmod_bd (x := rawV l k) (n := 2) (by decide)
  have hg2 := gmod_bd (x := rawV l (rawN l k)) (n := 3) (by decide)
  have hg3 := gmod_bd (x := rawV l (nx3 l k)) (n := 300) (by decide)
  have hg4 := gmod_bd (x := rawV l (nx4 l k)) (n := 10) (by decide)
  have hg5 := gmod_bd (x := rawV l (nx5 l k)) (n := 21) (by decide)
  have hm : pickV l (nx2 l k) mask6 ∈ mask6 := pickV_mem (by decide)
  have hm2 : 0 ≤ pickV l (nx2 l k) mask6 ∧ pickV l (nx2 l k) mask6 ≤ 31 := by simp at hm; omega
  refine coB_intro ?_ (flB_N hg2) hm2 ?_ ?_ h2 ?_ <;> dsimp only [conA] <;> omega
theorem InvA.step {num : Int} {cs : List Container} (h : InvA num cs) (l : List Int) (k : Nat) {pos : Int} (h1 : 0 ≤ num ∧ num ≤ 900) (hl : cs.length ≤ 23) (hp : pos = 0 ∨ pos = cs.length + 1) : InvA (num + (1 + gmod (rawV l k) 2)) (cs ++ [conA l k num pos]) := by
  have hg1 := gmod_bd (x := rawV l k) (n := 2) (by decide)
  refine ⟨fun c hc => ?_, fun c hc => ?_, fun c hc => ?_, ?_, fun i hi => ?_⟩
  · rcases List.mem_append.1 hc with hc | hc
    · exact h.co c hc
    obtain rfl : c = _ := by simpa using hc
    exact conA_ok h1 (by omega)
  · rcases List.mem_append.1 hc with hc | hc
    · exact h.nil c hc
    obtain rfl : c = _ := by simpa using hc
    rfl
  · rcases List.mem_append.1 hc with hc | hc
    · have := h.le c hc; omega
    obtain rfl : c = _ := by simpa using hc
    exact Int.le_refl _
  · refine List.pairwise_append.2 ⟨h.asc, List.pairwise_singleton _ _, fun a ha b hb => ?_⟩
    obtain rfl : b = _ := by simpa using hb
    have := h.le a ha
    show a.number < num + (1 + gmod (rawV l k) 2)
    omega
  by_cases hi' : i < cs.length
  · rw [List.getElem_append_left hi']; exact h.pos i hi'
  have : i = cs.length := by simp at hi; omega
  subst this
  simp
  exact hp
theorem ph1_inv (l : List Int) : ∀ (f k : Nat) (num : Int) (cs : List Container), InvA num cs → 0 ≤ num → num ≤ 2 * cs.length → cs.length + f ≤ 24 → ∃ num', InvA num' (ph1 l f k num cs).2 ∧ (ph1 l f k num cs).2.length = cs.length + f
  | 0, k, num, cs, h, _, _, _ => ⟨num, h, rfl⟩
  | f + 1, k, num, cs, h, h0, h1, h2 => by
    have hg1 := gmod_bd (x := rawV l k) (n := 2) (by decide)
    unfold ph1
    obtain ⟨num', h3, h4⟩ := ph1_inv l f (nx7 l k) (num + (1 + gmod (rawV l k) 2)) (cs ++ [conA l k num (if gmod (rawV l (nx6 l k)) 3 > 0 then cs.length + 1 else 0)]) (h.step l k (by omega) (by omega) (by split <;> omega)) (by omega) (by simp; omega) (by simp; omega)
    exact ⟨num', h3, by rw [h4]; simp; omega⟩
structure InvB (i : Nat) (cs : List Container) : Prop where
  co : ∀ c ∈ cs, coB c = true
  asc : cs.Pairwise fun c d => c.number < d.number
  pos : ∀ (i : Nat) (h : i < cs.length), cs[i].position = 0 ∨ cs[i].position = i + 1
  pasc : ∀ c ∈ cs, AscP c.pieces
  pok : ∀ c ∈ cs, ∀ x ∈ c.pieces, piB x = true
  below : ∀ c ∈ cs, ∀ x ∈ c.pieces, x.plate.lead = 0 ∧ x.plate.airline = 117 ∧ x.plate.serial < 1000 + i
  len : ∀ c ∈ cs, c.pieces.length ≤ 20
  disj : cs.Pairwise fun c d => ∀ x ∈ c.pieces, ∀ y ∈ d.pieces, x.plate ≠ y.plate
theorem InvA.b {num : Int} {cs : List Container} (h : InvA num cs) : InvB 0 cs :=
  ⟨h.co, h.asc, h.pos, fun c hc => by rw [h.nil c hc]; exact List.Pairwise.nil, fun c hc x hx => by rw [h.nil c hc] at hx; simp at hx, fun c hc x hx => by rw [h.nil c hc] at hx; simp at hx, fun c hc => by rw [h.nil c hc]; simp,
    List.pairwise_iff_getElem.2 fun i j hi hj _ x hx => by rw [h.nil _ (List.getElem_mem hi)] at hx; simp at hx⟩
theorem InvB.skip {i : Nat} {cs : List Container} (h : InvB i cs) : InvB (i + 1) cs :=
  ⟨h.co, h.asc, h.pos, h.pasc, h.pok, fun c hc x hx => by have := h.below c hc x hx; omega, h.len, h.disj⟩
theorem InvB.val {i : Nat} {cs : List Container} (h : InvB i cs) {c : Container} (hc : c ∈ cs) : valC c = 0 :=
  val_intro (h.co c hc) (by have := h.len c hc; omega) (h.pok c hc) (ascP_iff.1 (h.pasc c hc))
theorem InvB.add {i : Nat} {cs : List Container} (h : InvB i cs) (hi : i < 100) {q : Nat} (hq : q < cs.length) {p : Piece} (hpp : p.plate = platesP i) (hp : piB p = true) (hl : cs[q].pieces.length < 20) : InvB (i + 1) (cs.set q (addP cs[q] p)) := by
  have hpl := plates_lt (i := i) hi
  have hqm := List.getElem_mem hq
  have hin : ∀ c ∈ cs.set q (addP cs[q] p), c ∈ cs ∨ c = addP cs[q] p := fun c hc => List.mem_or_eq_of_mem_set hc
  have hnew : ∀ c ∈ cs, ∀ x ∈ c.pieces, PLt x.plate p.plate := fun c hc x hx => by
    obtain ⟨h1, h2, h3⟩ := h.below c hc x hx
    rw [hpp, hpl]; unfold PLt; simp only; omega
  have hpc : ∀ x ∈ (addP cs[q] p).pieces, x ∈ cs[q].pieces ∨ x = p := fun x hx => by
    rcases List.mem_append.1 hx with hx | hx
    · exact .inl hx
    exact .inr (by simpa using hx)
  have hnum : ∀ (j : Nat) (hj : j < (cs.set q (addP cs[q] p)).length), (cs.set q (addP cs[q] p))[j].number = (cs[j]'(by simpa using hj)).number := fun j hj => by
    rw [List.getElem_set]
    split
    · rename_i e; subst e; rfl
    rfl
  have hpos : ∀ (j : Nat) (hj : j < (cs.set q (addP cs[q] p)).length), (cs.set q (addP cs[q] p))[j].position = (cs[j]'(by simpa using hj)).position := fun j hj => by
    rw [List.getElem_set]
    split
    · rename_i e; subst e; rfl
    rfl
  refine ⟨fun c hc => ?_, ?_, fun j hj => ?_, fun c hc => ?_, fun c hc x hx => ?_, fun c hc x hx => ?_, fun c hc => ?_, ?_⟩
  · rcases hin c hc with hc | rfl
    · exact h.co c hc
    exact (show coB cs[q] = true from h.co _ hqm)
  · refine List.pairwise_iff_getElem.2 fun a b ha hb hab => ?_
    have := List.pairwise_iff_getElem.1 h.asc a b (by simpa using ha) (by simpa using hb) hab
    rw [hnum, hnum]
    exact this
  · have := h.pos j (by simpa using hj)
    rw [hpos]
    exact this
  · rcases hin c hc with hc | rfl
    · exact h.pasc c hc
    refine List.pairwise_append.2 ⟨h.pasc _ hqm, List.pairwise_singleton _ _, fun a ha b hb => ?_⟩
    obtain rfl : b = _ := by simpa using hb
    exact hnew _ hqm a ha
  · rcases hin c hc with hc | rfl
    · exact h.pok c hc x hx
    rcases hpc x hx with hx | rfl
    · exact h.pok _ hqm x hx
    exact hp
  · rcases hin c hc with hc | rfl
    · have := h.below c hc x hx; omega
    rcases hpc x hx with hx | rfl
    · have := h.below _ hqm x hx; omega
    rw [hpp, hpl]; exact ⟨rfl, rfl, by dsimp only; omega⟩
  · rcases hin c hc with hc | rfl
    · exact h.len c hc
    unfold addP; simp; omega
  refine List.pairwise_iff_getElem.2 fun a b ha hb hab => ?_
  have ha' : a < cs.length := by simpa using ha
  have hb' : b < cs.length := by simpa using hb
  have h0 := List.pairwise_iff_getElem.1 h.disj a b ha' hb' hab
  rw [List.getElem_set, List.getElem_set]
  split
  · rename_i e
    subst e
    rw [if_neg (by omega)]
    intro x hx y hy
    rcases hpc x hx with hx | rfl
    · exact h0 x hx y hy
    intro e; have := hnew _ (List.getElem_mem hb') y hy; rw [e] at this; exact PLt.irrefl _ this
  split
  · rename_i e
    subst e
    intro x hx y hy
    rcases hpc y hy with hy | rfl
    · exact h0 x hx y hy
    intro e; have := hnew _ (List.getElem_mem ha') x hx; rw [e] at this; exact PLt.irrefl _ this
  exact h0
theorem pieA_ok (l : List Int) (i k : Nat) : piB (pieA l i k) = true := by
  have h2 := gmod_bd (x := rawV l (nx2 l k)) (n := 30) (by decide)
  have h3 : pickV l (nx3 l k) cat8 ∈ cat8 := pickV_mem (by decide)
  have h4 : 0 ≤ pickV l (nx3 l k) cat8 ∧ pickV l (nx3 l k) cat8 ≤ 4 := by
    simp at h3; omega
  have e : ∀ {a b c d : Prop} [Decidable a] [Decidable b] [Decidable c] [Decidable d], a → b → c → d → ((true && (decide a && decide b)) && (decide c && decide d)) = true := fun h1 h2 h3 h4 => by simp [h1, h2, h3, h4]
  unfold piB inB
  rw [show plB (pieA l i k).plate = true from plates_ok _]
  refine e ?_ ?_ ?_ ?_ <;> dsimp only [pieA] <;> omega
theorem ph2_inv (l : List Int) : ∀ (f i k : Nat) (cs : List Container), InvB i cs → i + f ≤ 100 → 1 ≤ cs.length → InvB (i + f) (ph2 l f i k cs).2 ∧ (ph2 l f i k cs).2.length = cs.length
  | 0, i, k, cs, h, _, _ => ⟨h, rfl⟩
  | f + 1, i, k, cs, h, hi, h1 => by
    unfold ph2
    rw [show i + (f + 1) = (i + 1) + f by omega]
    split
    · exact ph2_inv l f (i + 1) _ cs h.skip (by omega) h1
    split
    · rename_i hlt
      have hq := idxV_lt l (rawN l k) h1
      have e : cs.getD (idxV l (rawN l k) cs.length) default = cs[idxV l (rawN l k) cs.length] := by rw [List.getD_eq_getElem?_getD, List.getElem?_eq_getElem hq]; rfl
      rw [e] at hlt ⊢
      have := ph2_inv l f (i + 1) (nx4 l k) _ (h.add (by omega) hq (p := pieA l i k) rfl (pieA_ok l i k) (by omega)) (by omega) (by simpa using h1)
      rw [List.length_set] at this
      exact this
    exact ph2_inv l f (i + 1) _ cs h.skip (by omega) h1
theorem conts_inv (l : List Int) (k m n : Nat) (hm : m ≤ 23) (hn : n ≤ 100) : InvB n (contsV l k m n).2 ∧ (contsV l k m n).2.length = idxV l k (m + 1) := by
  have hk := idxV_lt l k (n := m + 1) (by omega)
  obtain ⟨num, h1, h2⟩ := ph1_inv l (idxV l k (m + 1)) (rawN l k) 0 [] ⟨by simp, by simp, by simp, List.Pairwise.nil, fun i h => by simp at h⟩ (by omega) (by simp) (by simp; omega)
  unfold contsV
  simp only
  split
  · rename_i h0
    have he : (ph1 l (idxV l k (m + 1)) (rawN l k) 0 []).2 = [] := List.eq_nil_of_length_eq_zero h0
    rw [he] at h2 ⊢
    exact ⟨⟨by simp, List.Pairwise.nil, fun i h => by simp at h, by simp, by simp, by simp, by simp, List.Pairwise.nil⟩, by simpa using h2⟩
  have := ph2_inv l n 0 (ph1 l (idxV l k (m + 1)) (rawN l k) 0 []).1 _ h1.b (by omega) (by omega)
  rw [Nat.zero_add] at this
  exact ⟨this.1, by rw [this.2, h2]; simp⟩
end Go.Proofs.Ytmdohphcolffmaa
namespace Go.Proofs.Ytmdohphcolffmaa
open Go.RowKit
set_option linter.unusedSimpArgs false
set_option linter.unusedVariables false
set_option maxRecDepth 100000
theorem fz_cons (cs ds : List Container) : (cs.map oav ++ ds.map Container.av).map (·.map fz1) = (cs ++ ds).map Container.av := by
  rw [List.map_append, List.map_append, List.map_map, List.map_map]
  rfl
theorem flat2_cons (cs ds : List Container) : ∀ r ∈ cs.map oav ++ ds.map Container.av, ∀ c ∈ r, flat2 c := fun r hr c hc => by
  rcases List.mem_append.1 hr with hr | hr
  · obtain ⟨x, _, rfl⟩ := List.mem_map.1 hr
    simp only [List.mem_cons, List.not_mem_nil, or_false] at hc
    rcases hc with rfl | rfl | rfl | rfl | rfl | rfl | rfl | rfl | rfl | rfl | rfl <;> first | exact .inl rfl | exact .inr ⟨_, _, rfl, av_flat _⟩
  obtain ⟨x, _, rfl⟩ := List.mem_map.1 hr
  simp only [Container.av, List.mem_cons, List.not_mem_nil, or_false] at hc
  rcases hc with rfl | rfl | rfl | rfl | rfl | rfl | rfl | rfl | rfl | rfl | rfl <;> exact .inl rfl
theorem get_of {α β : Type} {f : α → β} {xs : List α} {m : Nat} {x : α} (h : xs[m]? = some x) : (xs.map f)[m]? = some (f x) := by simp [h]
theorem conts21 (l : List Int) (k m n : Nat) (hl : l.length ≤ 2000) (hm : m ≤ 23) (hn : n ≤ 100) : ∃ k' cs, Fn Try.prog 8 [.own 65 [srcRow l k]] [.ptr 0 0 0 0, .v (.int .i64 (m : Nat)), .v (.int .i64 (n : Nat))] [.own 45 (cs.map oav)] [.own 65 [srcRow l k']] ∧ InvB n cs ∧ cs.length ≤ m :=
  ⟨_, _, C8 hl (by omega) (by omega), (conts_inv l k m n hm hn).1, by have := idxV_lt l k (n := m + 1) (by omega); rw [(conts_inv l k m n hm hn).2]; omega⟩
end Go.Proofs.Ytmdohphcolffmaa
namespace Go.Proofs.Ytmdohphcolffmaa
open Go.RowKit
set_option linter.unusedSimpArgs false
set_option linter.unusedVariables false
set_option maxRecDepth 100000
abbrev plV (p : Plate) : Value := .agg #[.int .i64 p.lead, .int .i64 p.airline, .int .i64 p.serial]
abbrev spV (c : Container) : Value := .agg #[.string c.flight.carrier, .int .i64 c.flight.number, .string c.flight.suffix, .int .i64 c.flight.day, .int .i64 c.position]
structure Spot where
  carrier : List UInt8
  number : Int
  suffix : List UInt8
  day : Int
  position : Int
  deriving DecidableEq
def spotOf (c : Container) : Spot := ⟨c.flight.carrier.data.toList, c.flight.number, c.flight.suffix.data.toList, c.flight.day, c.position⟩
theorem plV_mem {p : Plate} {l : List Plate} : decide (p ∈ l) = true ↔ plV p ∈ l.map plV := by
  rw [decide_eq_true_eq, List.mem_map]
  constructor
  · intro h; exact ⟨p, h, rfl⟩
  rintro ⟨q, hq, e⟩
  obtain ⟨a, b, c⟩ := p
  obtain ⟨a', b', c'⟩ := q
  simp at e
  obtain ⟨rfl, rfl, rfl⟩ := e
  exact hq
theorem bytes_ext {a b : ByteArray} (h : a.data.toList = b.data.toList) : a = b := by
  cases a; cases b
  simp at h
  rw [h]
theorem spV_mem {c : Container} {l : List Container} : decide (spotOf c ∈ l.map spotOf) = true ↔ spV c ∈ l.map spV := by
  rw [decide_eq_true_eq, List.mem_map, List.mem_map]
  have key : ∀ d : Container, spotOf d = spotOf c ↔ spV d = spV c := fun d => by
    unfold spotOf
    simp only [Spot.mk.injEq]
    constructor
    · rintro ⟨h1, h2, h3, h4, h5⟩
      show Value.agg _ = Value.agg _
      rw [bytes_ext h1, h2, bytes_ext h3, h4, h5]
    intro h
    simp at h
    obtain ⟨h1, h2, h3, h4, h5⟩ := h
    exact ⟨by rw [h1], h2, by rw [h3], h4, h5⟩
  constructor
  · rintro ⟨d, hd, e⟩; exact ⟨d, hd, (key d).1 e⟩
  rintro ⟨d, hd, e⟩; exact ⟨d, hd, (key d).2 e⟩
def chkP : List Piece → List Plate → Option (List Plate)
  | [], pl => some pl
  | p :: l, pl => if p.plate ∈ pl then none else chkP l (p.plate :: pl)
theorem chkP_nil (pl : List Plate) : chkP [] pl = some pl := rfl
theorem chkP_cons (p : Piece) (l : List Piece) (pl : List Plate) : chkP (p :: l) pl = if p.plate ∈ pl then none else chkP l (p.plate :: pl) := rfl
def prevBad (o : Option Int) (n : Int) : Bool := match o with
  | none => false
  | some m => decide (n ≤ m)
def chk : Option Int → List Container → List Container → List Plate → Int
  | _, [], _, _ => 0
  | o, c :: cs, sp, pl => if valC c ≠ 0 then valC c else if prevBad o c.number = true then 9 else if c.position ≠ 0 ∧ spotOf c ∈ sp.map spotOf then 7 else
    match chkP c.pieces pl with
    | none => 5
    | some pl' => chk (some c.number) cs (if c.position ≠ 0 then c :: sp else sp) pl'
def chkL (xs : List Container) : Int := if (xs.length : Int) > 24 then 2 else chk none xs [] []
def prevN (xs : List Container) (i : Nat) : Option Int := if i = 0 then none else some (xs.getD (i - 1) default).number
theorem prevN_succ {xs : List Container} {i : Nat} {c : Container} (h : xs[i]? = some c) : prevN xs (i + 1) = some c.number := by
  unfold prevN
  rw [if_neg (by omega), Nat.add_sub_cancel, List.getD_eq_getElem?_getD, h]
  rfl
theorem prevBad_eq (xs : List Container) (i : Nat) (n : Int) : prevBad (prevN xs i) n = (decide ((i : Int) > 0) && decide (n ≤ (xs.getD (i - 1) default).number)) := by
  unfold prevN
  by_cases h : i = 0
  · subst h; rfl
  rw [if_neg h, show decide ((i : Int) > 0) = true from decide_eq_true (by omega)]
  rfl
theorem drop_cons {α : Type} {xs : List α} {i : Nat} {c : α} (h : xs[i]? = some c) : xs.drop i = c :: xs.drop (i + 1) := by
  obtain ⟨hi, rfl⟩ := List.getElem?_eq_some_iff.1 h
  exact List.drop_eq_getElem_cons hi
theorem fl_range {f : Flight} (h : flB f = true) : f.carrier.size ≤ maxLen ∧ (Lit.int .i64 f.number).wf = true ∧ f.suffix.size ≤ maxLen ∧ (Lit.int .i64 f.day).wf = true := by
  unfold flB carB lettersB at h
  simp at h
  unfold maxLen
  exact ⟨by omega, wf64 (by omega), by omega, wf64 (by omega)⟩
theorem co_parts {c : Container} (h : coB c = true) : flB c.flight = true ∧ 0 ≤ c.position ∧ c.position ≤ 24 ∧ 1 ≤ c.number ∧ c.number ≤ 999 := by
  unfold coB inB at h
  simp at h
  exact ⟨h.1.1.1.1.1.2, by omega, by omega, by omega, by omega⟩
theorem pl_range {p : Plate} (h : plB p = true) : (Lit.int .i64 p.lead).wf = true ∧ (Lit.int .i64 p.airline).wf = true ∧ (Lit.int .i64 p.serial).wf = true := by
  unfold plB at h
  simp at h
  exact ⟨wf64 (by omega), wf64 (by omega), wf64 (by omega)⟩
set_option maxHeartbeats 4000000 in
theorem C20 {xs : List Container} (hx : xs.length ≤ 1000000) : Fn Try.prog 20 [] [.ro (xs.map Container.av)] [.v (.int .i64 (chkL xs))] [] := by
  refine Spec.body Try.func20 rfl Try.ntmps20 (by simp) rfl ?_; intro S0 own0 v0 w0
  (refine AW.seq_k ?_; intro K hK)
  refine AW.region ?_
  refine awP (op_assign rfl rfl) ?_
  refine AWL.nil ?_
  (refine hK _ ?_; clear hK K; (try simp only [nA, Nat.reduceBEq, Nat.reduceEqDiff, ↓reduceIte, Nat.reduceAdd, Nat.reduceSub]))
  (refine AW.seq_k ?_; intro K hK)
  (refine AW.seq_k ?_; intro K hK)
  refine AW.region ?_
  refine awP (op_move rfl rfl) ?_
  (refine awP (op_len_ro rfl rfl Try.underlying25 (by exact .inr (.inl ⟨_, rfl, rfl⟩))) ?_)
  refine awP (op_gtr rfl rfl rfl) ?_
  refine AWL.nil ?_
  (refine hK _ ?_; clear hK K; (simp only [nA, ↓reduceIte]))
  refine AW.cond rfl rfl rfl (fun hc => ?_) (fun hc => ?_)
  ·
   (try simp only [hcS] at hc); have hc1 := hc
   (refine AW.seq_k ?_; intro K hK)
   refine AW.region ?_
   refine awP (op_assign rfl rfl) ?_
   refine AWL.nil ?_
   (refine hK _ ?_; clear hK K; (try simp only [nA, Nat.reduceBEq, Nat.reduceEqDiff, ↓reduceIte, Nat.reduceAdd, Nat.reduceSub]))
   skip
   refine AW.ret ?_; (try simp only [thenE, inBlk, Nat.reduceEqDiff, ↓reduceIte]); rw [show chkL xs = 2 by unfold chkL; rw [if_pos (by omega)]]; exact RQ.of0 rfl (.tmp (bl rfl) rfl rfl .nil)
  (try simp only [hcS] at hc); have hc1 := hc
  refine AW.skip ?_
  (refine hK _ ?_; clear hK K; (skip))
  (refine AW.seq_k ?_; intro K hK)
  refine AW.region ?_
  refine awJ (op_makeMap rfl Try.underlying86 Try.underlying4 kd90) ?_; (simp only [nA, Nat.reduceBEq, Nat.reduceEqDiff, ↓reduceIte])
  refine awJ (op_makeMap rfl Try.underlying87 Try.underlying4 kd39) ?_; (simp only [nA, Nat.reduceBEq, Nat.reduceEqDiff, ↓reduceIte])
  refine awP (op_assign rfl rfl) ?_
  refine awP (op_assign rfl rfl) ?_
  refine AWL.nil ?_
  (refine hK _ ?_; clear hK K; (simp only [nA, ↓reduceIte]))
  (refine AW.seq_k ?_; intro K hK)
  (refine AW.seq_k ?_; intro K hK)
  refine AW.region ?_
  refine awP (op_move rfl rfl) ?_
  (refine awP (op_len_ro rfl rfl Try.underlying25 (by exact .inr (.inl ⟨_, rfl, rfl⟩))) ?_)
  refine awP (op_move rfl rfl) ?_
  refine AWL.nil ?_
  (refine hK _ ?_; clear hK K; (simp only [nA, ↓reduceIte]))
  refine AW.block ?_
  refine AW.loopI (fun (q : Nat × List Container × List Plate × Nat) => [(0, .ro (xs.map Container.av)), (3, .mp 0 1), (4, .mp 1 2), (16, .ro (xs.map Container.av)), (17, .v (.int .i64 (xs.length : Nat))), (18, .v (.int .i64 (q.1 : Nat)))]) (fun q => ⟨[(1, .om 86 (q.2.1.map spV)), (2, .om 87 (q.2.2.1.map plV))], q.2.2.2⟩) (fun q => q.1 ≤ xs.length ∧ q.2.1.length ≤ q.1 ∧ q.2.2.1.length ≤ 60 * q.1 ∧ chk (prevN xs q.1) (xs.drop q.1) q.2.1 q.2.2.1 = chkL xs) (fun q => xs.length - q.1) (0, [], [], 3) ⟨by simp, by simp, by simp, by unfold chkL; rw [if_neg (by omega)]; rfl⟩ ⟨rfl, rfl, rfl, rfl, rfl, rfl, trivial⟩ rfl ?_; rintro ⟨i, sp, pl, e⟩ ρ hI; simp only at hI; simp only [updL]
  (refine AW.seq_k ?_; intro K hK)
  refine AW.region ?_
  refine awP (op_lss rfl rfl rfl) ?_
  refine AWL.nil ?_
  (refine hK _ ?_; clear hK K; (try simp only [nA, Nat.reduceBEq, Nat.reduceEqDiff, ↓reduceIte, Nat.reduceAdd, Nat.reduceSub]))
  (refine AW.seq_k ?_; intro K hK)
  refine AW.cond rfl rfl rfl (fun hc => ?_) (fun hc => ?_)
  ·
   (try simp only [hcS] at hc); have hc2 := hc; have hlt : i < xs.length := (by simpa using hc2); obtain ⟨c, hci⟩ : ∃ c, xs[i]? = some c := ⟨xs[i], List.getElem?_eq_getElem hlt⟩; have hR := hI.2.2.2; rw [drop_cons hci] at hR; unfold chk at hR
   refine AW.skip ?_
   (refine hK _ ?_; clear hK K; (skip))
   (refine AW.seq_k ?_; intro K hK)
   refine AW.block ?_
   (refine AW.seq_k ?_; intro K hK)
   refine AW.region ?_
   refine awP (op_move rfl rfl) ?_
   (refine awP (op_ia_ro i rfl (.inl rfl) rfl Try.underlying25 rfl (get_of hci) (by exact sz45) (bl rfl)) ?_)
   (refine awR (op_load_rop rfl rfl ag45 sz45 (bl rfl) (by decide) rfl) ?_)
   refine awJ (op_alloc rfl ze45 rfl) ?_; (simp only [nA, Nat.reduceBEq, Nat.reduceEqDiff, ↓reduceIte])
   refine awP (op_assign rfl rfl) ?_
   refine awJ (op_store rfl rfl rfl rfl rfl rfl sz45 rfl (bl rfl) rfl) ?_; (simp only [nA, Nat.reduceBEq, Nat.reduceEqDiff, ↓reduceIte])
   refine AWL.nil ?_
   (refine hK _ ?_; clear hK K; (skip))
   (refine AW.seq_k ?_; intro K hK)
   (refine AW.seq_k ?_; intro K hK)
   refine AW.region ?_
   (refine awR (op_load_ptr rfl rfl rfl rfl ag45 sz45 (bl rfl) rfl) ?_)
   refine awJ (OpQ.j (op_callQ (b := true) rfl en43 (C43 (c := c)) (RL.cons (by exact View.same rfl) (RL.nil)) rfl)) ?_; (try simp only [nA, Nat.reduceBEq, Nat.reduceEqDiff, ↓reduceIte, Nat.reduceAdd, Nat.reduceSub])
   refine awP (op_assign rfl rfl) ?_
   refine AWL.nil ?_
   (refine hK _ ?_; clear hK K; (simp only [nA]))
   (refine AW.seq_k ?_; intro K hK)
   refine AW.region ?_
   refine awP (op_move rfl rfl) ?_
   (refine awP (op_neq rfl rfl rfl) ?_)
   refine AWL.nil ?_
   (refine hK _ ?_; clear hK K; (simp only [nA]))
   refine AW.cond rfl rfl rfl (fun hc => ?_) (fun hc => ?_)
   ·
    (try simp only [hcS] at hc); have hc3 := hc
    (refine AW.seq_k ?_; intro K hK)
    refine AW.region ?_
    refine awP (op_move rfl rfl) ?_
    refine awP (op_assign rfl rfl) ?_
    refine AWL.nil ?_
    (refine hK _ ?_; clear hK K; (simp only [nA, ↓reduceIte]))
    skip
    refine AW.ret ?_; (try simp only [thenE, inBlk, Nat.reduceEqDiff, ↓reduceIte]); rw [if_pos (by simpa using hc3)] at hR; rw [← hR]; exact RQ.of0 rfl (.tmp (bl rfl) rfl rfl .nil)
   (try simp only [hcS] at hc); have hc3 := hc; have hv0 : valC c = 0 := (by simpa using hc3); have hv := val_inv hv0; have hco := co_parts hv.1; have hfr := fl_range hco.1; rw [if_neg (by simp [hv0])] at hR
   refine AW.skip ?_
   (refine hK _ ?_; clear hK K; (skip))
   (refine AW.seq_k ?_; intro K hK)
   (refine AW.seq_k ?_; intro K hK)
   refine AW.quiet mix (by kernel_rfl) ?_
   refine aqP (op_move rfl rfl) ?_
   refine aqP (op_gtr rfl rfl rfl) ?_
   refine aqP (op_move rfl rfl) ?_
   refine' aqAnd' [_, _, _, _, _, _, _, _, _] [31,32,33,34,35,36,37,38,39] rfl rfl rfl rfl rfl rfl rfl rfl rfl rfl rfl rfl (fun hb => ?_) ?_; rotate_left
   ·
    (try simp only [hcS] at hb)
    (refine aqP (op_fa_ptr rfl rfl rfl fl45_0 (by exact sz3) (by decide) rfl) ?_)
    (refine aqR (op_load_ptr1 rfl rfl rfl rfl ag3 rfl rfl) ?_)
    refine aqP (op_move rfl rfl) ?_
    refine aqP (op_move rfl rfl) ?_
    (refine aqP (op_subi rfl rfl rfl (by omega)) ?_)
    (refine aqP (op_ia_ro (i - 1) rfl (.inl rfl) rfl Try.underlying25 (by omega) (get_mapD (by omega)) (by exact sz45) (bl rfl)) ?_)
    (refine aqP (op_fa_rop rfl rfl fl45_0 (by exact sz3) (by decide) (bl rfl) rfl) ?_)
    (refine aqR (op_load_rop1 rfl rfl ag3) ?_)
    refine aqP (op_leq rfl rfl rfl) ?_
    (refine aqSeg rfl rfl rfl ?_; repeat (first | exact fun _ _ => rfl | refine upd_out rfl ?_))
   simp only [nA, ↓reduceIte]
   refine AQ.nil ?_
   (refine hK _ ?_; clear hK K; (skip))
   refine AW.cond rfl rfl rfl (fun hc => ?_) (fun hc => ?_)
   ·
    (try simp only [hcS] at hc); have hc4 := hc
    (refine AW.seq_k ?_; intro K hK)
    refine AW.region ?_
    refine awP (op_assign rfl rfl) ?_
    refine AWL.nil ?_
    (refine hK _ ?_; clear hK K; (try simp only [nA, Nat.reduceBEq, Nat.reduceEqDiff, ↓reduceIte, Nat.reduceAdd, Nat.reduceSub]))
    skip
    refine AW.ret ?_; (try simp only [thenE, inBlk, Nat.reduceEqDiff, ↓reduceIte]); rw [if_pos (by rw [prevBad_eq]; simpa using hc)] at hR; rw [← hR]; exact RQ.of0 rfl (.tmp (bl rfl) rfl rfl .nil)
   (try simp only [hcS] at hc); have hc4 := hc; rw [if_neg (by rw [prevBad_eq]; simp only [Bool.and_eq_true, decide_eq_true_eq]; omega)] at hR
   refine AW.skip ?_
   (refine hK _ ?_; clear hK K; (skip))
   (refine AW.seq_k ?_; intro K hK)
   (refine AW.seq_k ?_; intro K hK)
   refine AW.region ?_
   (refine awP (op_fa_ptr rfl rfl rfl fl45_1 (by exact sz30) (by decide) rfl) ?_)
   (refine awR (op_load_ptr rfl rfl rfl rfl ag30 sz30 (bl rfl) rfl) ?_)
   (refine awP (op_fa_ptr rfl rfl rfl fl45_5 (by exact sz3) (by decide) rfl) ?_)
   (refine awR (op_load_ptr1 rfl rfl rfl rfl ag3 rfl rfl) ?_)
   refine awP (op_build2 (xs := [_, _, _, _, _]) rfl pl90 ze90 [(0, [_, _, _, _]), (1, [_])] rfl rfl rfl) ?_
   refine awJ (op_alloc rfl ze90 rfl) ?_; (simp only [nA, Nat.reduceBEq, Nat.reduceEqDiff, ↓reduceIte])
   refine awJ (op_store rfl rfl rfl rfl rfl rfl sz90 rfl (bl rfl) rfl) ?_; (simp only [nA, Nat.reduceBEq, Nat.reduceEqDiff, ↓reduceIte])
   refine AWL.nil ?_
   (refine hK _ ?_; clear hK K; (skip))
   (refine AW.seq_k ?_; intro K hK)
   refine AW.region ?_
   (refine awP (op_fa_ptr rfl rfl rfl fl45_5 (by exact sz3) (by decide) rfl) ?_)
   (refine awR (op_load_ptr1 rfl rfl rfl rfl ag3 rfl rfl) ?_)
   (refine awP (op_neq rfl rfl rfl) ?_)
   refine AWL.nil ?_
   (refine hK _ ?_; clear hK K; (try simp only [nA, Nat.reduceBEq, Nat.reduceEqDiff, ↓reduceIte, Nat.reduceAdd, Nat.reduceSub]))
   refine AW.cond rfl rfl rfl (fun hc => ?_) (fun hc => ?_)
   ·
    (try simp only [hcS] at hc); have hc5 := hc
    (refine AW.seq_k ?_; intro K hK)
    (refine AW.seq_k ?_; intro K hK)
    refine AW.region ?_
    refine awP (op_move rfl rfl) ?_
    (refine awR (op_load_ptr rfl rfl rfl rfl ag90 sz90 (bl rfl) rfl) ?_)
    refine awR (op_lookup (b := decide (spotOf c ∈ sp.map spotOf)) (ks := sp.map spV) (xs := [.string c.flight.carrier, .int .i64 c.flight.number, .string c.flight.suffix, .int .i64 c.flight.day, .int .i64 c.position]) rfl rfl rfl rfl Try.underlying86 Try.underlying4 zf4 (key90 hfr.1 hfr.2.1 hfr.2.2.1 hfr.2.2.2 (wf64 (by omega))) spV_mem) ?_; (simp only [nA, Nat.reduceEqDiff, ↓reduceIte])
    refine AWL.nil ?_
    (refine hK _ ?_; clear hK K; (skip))
    refine AW.cond rfl rfl rfl (fun hc => ?_) (fun hc => ?_)
    ·
     (try simp only [hcS] at hc); have hc6 := hc
     (refine AW.seq_k ?_; intro K hK)
     refine AW.region ?_
     refine awP (op_assign rfl rfl) ?_
     refine AWL.nil ?_
     (refine hK _ ?_; clear hK K; (try simp only [nA, Nat.reduceBEq, Nat.reduceEqDiff, ↓reduceIte, Nat.reduceAdd, Nat.reduceSub]))
     skip
     refine AW.ret ?_; (try simp only [thenE, inBlk, Nat.reduceEqDiff, ↓reduceIte]); rw [if_pos ⟨hc5, by simpa using hc⟩] at hR; rw [← hR]; exact RQ.of0 rfl (.tmp (bl rfl) rfl rfl .nil)
    (try simp only [hcS] at hc); have hc6 := hc; rw [if_neg (fun h => absurd h.2 (by simpa using hc6)), if_pos hc5] at hR
    refine AW.skip ?_
    (refine hK _ ?_; clear hK K; (skip))
    refine AW.region ?_
    refine awP (op_move rfl rfl) ?_
    (refine awR (op_load_ptr rfl rfl rfl rfl ag90 sz90 (bl rfl) rfl) ?_)
    refine awJ (op_mapUpdate (ks := sp.map spV) (xs := [.string c.flight.carrier, .int .i64 c.flight.number, .string c.flight.suffix, .int .i64 c.flight.day, .int .i64 c.position]) rfl rfl rfl rfl rfl Try.underlying86 Try.underlying4 (key90 hfr.1 hfr.2.1 hfr.2.2.1 hfr.2.2.2 (wf64 (by omega))) (by simp [maxLen]; omega)) ?_; (simp only [nA, Nat.reduceEqDiff, ↓reduceIte])
    refine AWL.nil ?_
    (refine hK _ ?_; clear hK K; (skip))
    (refine AW.seq_k ?_; intro K hK)
    refine AW.region ?_
    (refine awP (op_fa_ptr rfl rfl rfl fl45_7 (by exact sz27) (by decide) rfl) ?_)
    (refine awR (op_load_ptr1 rfl rfl rfl rfl ag27 rfl rfl) ?_)
    (refine awP (op_len_ro rfl rfl Try.underlying27 (by exact .inr (.inl ⟨_, rfl, rfl⟩))) ?_)
    refine awP (op_move rfl rfl) ?_
    refine AWL.nil ?_
    (refine hK _ ?_; clear hK K; (try simp only [nA, Nat.reduceBEq, Nat.reduceEqDiff, ↓reduceIte, Nat.reduceAdd, Nat.reduceSub]))
    refine AW.block ?_
    refine AW.loopI (fun (q : Nat × List Plate × Nat) => [(0, .ro (xs.map Container.av)), (3, .mp 0 1), (4, .mp 1 2), (16, .ro (xs.map Container.av)), (17, .v (.int .i64 (xs.length : Nat))), (18, .v (.int .i64 (i : Nat))), (55, .ro (c.pieces.map Piece.av)), (56, .v (.int .i64 (c.pieces.length : Nat))), (57, .v (.int .i64 (q.1 : Nat)))]) (fun q => ⟨[(1, .om 86 (((c :: sp).map spV))), (2, .om 87 (q.2.1.map plV)), (e, .own 45 [c.av]), (e + 1, .own 90 [[.v (.string c.flight.carrier), .v (.int .i64 c.flight.number), .v (.string c.flight.suffix), .v (.int .i64 c.flight.day), .v (.int .i64 c.position)]])], q.2.2⟩) (fun q => q.1 ≤ c.pieces.length ∧ q.2.1.length ≤ 60 * i + q.1 ∧ chkP (c.pieces.drop q.1) q.2.1 = chkP c.pieces pl) (fun q => c.pieces.length - q.1) (0, pl, _) ⟨by simp, by simp; omega, rfl⟩ ⟨rfl, rfl, rfl, rfl, rfl, rfl, rfl, rfl, rfl, trivial⟩ rfl ?_; rintro ⟨j, pl2, e2⟩ ρ hJ; simp only at hJ; simp only [updL]; (try simp only [nA, Nat.reduceBEq, Nat.reduceEqDiff, ↓reduceIte, Nat.reduceAdd, Nat.reduceSub])
    (refine AW.seq_k ?_; intro K hK)
    refine AW.region ?_
    refine awP (op_lss rfl rfl rfl) ?_
    refine AWL.nil ?_
    (refine hK _ ?_; clear hK K; (try simp only [nA, Nat.reduceBEq, Nat.reduceEqDiff, ↓reduceIte, Nat.reduceAdd, Nat.reduceSub]))
    (refine AW.seq_k ?_; intro K hK)
    refine AW.cond rfl rfl rfl (fun hc => ?_) (fun hc => ?_)
    ·
     (try simp only [hcS] at hc); have hc7 := hc; have hjl : j < c.pieces.length := (by omega); obtain ⟨p, hpj⟩ : ∃ p, c.pieces[j]? = some p := ⟨c.pieces[j], List.getElem?_eq_getElem hjl⟩; have hP := hJ.2.2; rw [drop_cons hpj, chkP_cons] at hP; have hpi := piB_inv (hv.2.2.1 p (List.mem_of_getElem? hpj)); have hpr := pl_range hpi.1
     refine AW.skip ?_
     (refine hK _ ?_; clear hK K; (skip))
     (refine AW.seq_k ?_; intro K hK)
     refine AW.block ?_
     (refine AW.seq_k ?_; intro K hK)
     refine AW.region ?_
     (refine awP (op_ia_ro j rfl (.inl rfl) rfl Try.underlying27 rfl (get_of hpj) (by exact sz41) (bl rfl)) ?_)
     (refine awR (op_load_rop rfl rfl ag41 sz41 (bl rfl) (by decide) rfl) ?_)
     refine awJ (op_alloc rfl ze41 rfl) ?_; (simp only [nA, Nat.reduceBEq, Nat.reduceEqDiff, ↓reduceIte])
     refine awJ (op_store rfl rfl rfl rfl rfl rfl sz41 rfl (bl rfl) rfl) ?_; (simp only [nA, Nat.reduceBEq, Nat.reduceEqDiff, ↓reduceIte])
     refine AWL.nil ?_
     (refine hK _ ?_; clear hK K; (skip))
     (refine AW.seq_k ?_; intro K hK)
     (refine AW.seq_k ?_; intro K hK)
     refine AW.region ?_
     refine awP (op_move rfl rfl) ?_
     (refine awP (op_fa_ptr rfl rfl rfl fl41_0 (by exact sz39) (by decide) rfl) ?_)
     (refine awR (op_load_ptr rfl rfl rfl rfl ag39 sz39 (bl rfl) rfl) ?_)
     refine awR (op_lookup (b := decide (p.plate ∈ pl2)) (ks := pl2.map plV) (xs := [.int .i64 p.plate.lead, .int .i64 p.plate.airline, .int .i64 p.plate.serial]) rfl rfl rfl rfl Try.underlying87 Try.underlying4 zf4 (key39 hpr.1 hpr.2.1 hpr.2.2) plV_mem) ?_; (simp only [nA, ↓reduceIte])
     refine AWL.nil ?_
     (refine hK _ ?_; clear hK K; (skip))
     refine AW.cond rfl rfl rfl (fun hc => ?_) (fun hc => ?_)
     ·
      (try simp only [hcS] at hc); have hc8 := hc
      (refine AW.seq_k ?_; intro K hK)
      refine AW.region ?_
      refine awP (op_assign rfl rfl) ?_
      refine AWL.nil ?_
      (refine hK _ ?_; clear hK K; (try simp only [nA, Nat.reduceBEq, Nat.reduceEqDiff, ↓reduceIte, Nat.reduceAdd, Nat.reduceSub]))
      skip
      refine AW.ret ?_; (try simp only [thenE, inBlk, Nat.reduceEqDiff, ↓reduceIte]); rw [if_pos (by simpa using hc)] at hP; rw [← hP] at hR; rw [← hR]; exact RQ.of0 rfl (.tmp (bl rfl) rfl rfl .nil)
     (try simp only [hcS] at hc); have hc8 := hc; rw [if_neg (by simpa using hc8)] at hP
     refine AW.skip ?_
     (refine hK _ ?_; clear hK K; (skip))
     refine AW.region ?_
     refine awP (op_move rfl rfl) ?_
     (refine awP (op_fa_ptr rfl rfl rfl fl41_0 (by exact sz39) (by decide) rfl) ?_)
     (refine awR (op_load_ptr rfl rfl rfl rfl ag39 sz39 (bl rfl) rfl) ?_)
     refine awJ (op_mapUpdate (ks := pl2.map plV) (xs := [.int .i64 p.plate.lead, .int .i64 p.plate.airline, .int .i64 p.plate.serial]) rfl rfl rfl rfl rfl Try.underlying87 Try.underlying4 (key39 hpr.1 hpr.2.1 hpr.2.2) (by simp [maxLen]; omega)) ?_; (simp only [nA, ↓reduceIte])
     refine AWL.nil ?_
     (try simp only [thenE, inBlk, Nat.reduceEqDiff, ↓reduceIte])
     (refine hK _ ?_; clear hK K; (skip))
     refine AW.region ?_
     (refine awP (op_addi rfl rfl rfl (by omega)) ?_)
     refine awP (op_move rfl rfl) ?_
     refine AWL.gh (Gh.drop 4) ?_; (simp only [nA])
     refine AWL.nil ?_
     refine ⟨(j + 1, p.plate :: pl2, _), ⟨by dsimp only; omega, by simp; omega, hP⟩, by dsimp only; omega, ⟨rfl, rfl, rfl, rfl, rfl, rfl, rfl, rfl, rfl, trivial⟩, (by rfl), (by rfl)⟩
    (try simp only [hcS] at hc); have hc7 := hc; obtain rfl : j = c.pieces.length := (by omega); have hP := hJ.2.2; rw [List.drop_length, chkP_nil] at hP; rw [← hP] at hR; simp only at hR
    refine AW.exit ?_; (try simp only [thenE, inBlk, Nat.reduceEqDiff, ↓reduceIte])
    clear hK K
    (try simp only [thenE, inBlk, Nat.reduceEqDiff, ↓reduceIte])
    (refine hK _ ?_; clear hK K; (skip))
    refine AW.region ?_
    (refine awP (op_addi rfl rfl rfl (by omega)) ?_)
    refine awP (op_move rfl rfl) ?_
    refine AWL.gh (Gh.drop 2) ?_; (simp only [nA])
    refine AWL.nil ?_
    refine ⟨(i + 1, c :: sp, pl2, _), ⟨by dsimp only; omega, by simp; omega, by dsimp only; omega, by dsimp only; rw [prevN_succ hci]; exact hR⟩, by dsimp only; omega, ⟨rfl, rfl, rfl, rfl, rfl, rfl, trivial⟩, (by rfl), (by rfl)⟩
   (try simp only [hcS] at hc); have hc5 := hc; rw [if_neg (fun h => h.1 (by simpa using hc5)), if_neg (by simpa using hc5)] at hR
   refine AW.skip ?_
   (refine hK _ ?_; clear hK K; (skip))
   (refine AW.seq_k ?_; intro K hK)
   refine AW.region ?_
   (refine awP (op_fa_ptr rfl rfl rfl fl45_7 (by exact sz27) (by decide) rfl) ?_)
   (refine awR (op_load_ptr1 rfl rfl rfl rfl ag27 rfl rfl) ?_)
   (refine awP (op_len_ro rfl rfl Try.underlying27 (by exact .inr (.inl ⟨_, rfl, rfl⟩))) ?_)
   refine awP (op_move rfl rfl) ?_
   refine AWL.nil ?_
   (refine hK _ ?_; clear hK K; (try simp only [nA, Nat.reduceBEq, Nat.reduceEqDiff, ↓reduceIte, Nat.reduceAdd, Nat.reduceSub]))
   refine AW.block ?_
   refine AW.loopI (fun (q : Nat × List Plate × Nat) => [(0, .ro (xs.map Container.av)), (3, .mp 0 1), (4, .mp 1 2), (16, .ro (xs.map Container.av)), (17, .v (.int .i64 (xs.length : Nat))), (18, .v (.int .i64 (i : Nat))), (55, .ro (c.pieces.map Piece.av)), (56, .v (.int .i64 (c.pieces.length : Nat))), (57, .v (.int .i64 (q.1 : Nat)))]) (fun q => ⟨[(1, .om 86 (sp.map spV)), (2, .om 87 (q.2.1.map plV)), (e, .own 45 [c.av]), (e + 1, .own 90 [[.v (.string c.flight.carrier), .v (.int .i64 c.flight.number), .v (.string c.flight.suffix), .v (.int .i64 c.flight.day), .v (.int .i64 c.position)]])], q.2.2⟩) (fun q => q.1 ≤ c.pieces.length ∧ q.2.1.length ≤ 60 * i + q.1 ∧ chkP (c.pieces.drop q.1) q.2.1 = chkP c.pieces pl) (fun q => c.pieces.length - q.1) (0, pl, _) ⟨by simp, by simp; omega, rfl⟩ ⟨rfl, rfl, rfl, rfl, rfl, rfl, rfl, rfl, rfl, trivial⟩ rfl ?_; rintro ⟨j, pl2, e2⟩ ρ hJ; simp only at hJ; simp only [updL]
   (refine AW.seq_k ?_; intro K hK)
   refine AW.region ?_
   refine awP (op_lss rfl rfl rfl) ?_
   refine AWL.nil ?_
   (refine hK _ ?_; clear hK K; (try simp only [nA, Nat.reduceBEq, Nat.reduceEqDiff, ↓reduceIte, Nat.reduceAdd, Nat.reduceSub]))
   (refine AW.seq_k ?_; intro K hK)
   refine AW.cond rfl rfl rfl (fun hc => ?_) (fun hc => ?_)
   ·
    (try simp only [hcS] at hc); have hc9 := hc; have hjl : j < c.pieces.length := (by omega); obtain ⟨p, hpj⟩ : ∃ p, c.pieces[j]? = some p := ⟨c.pieces[j], List.getElem?_eq_getElem hjl⟩; have hP := hJ.2.2; rw [drop_cons hpj, chkP_cons] at hP; have hpi := piB_inv (hv.2.2.1 p (List.mem_of_getElem? hpj)); have hpr := pl_range hpi.1
    refine AW.skip ?_
    (refine hK _ ?_; clear hK K; (skip))
    (refine AW.seq_k ?_; intro K hK)
    refine AW.block ?_
    (refine AW.seq_k ?_; intro K hK)
    refine AW.region ?_
    (refine awP (op_ia_ro j rfl (.inl rfl) rfl Try.underlying27 rfl (get_of hpj) (by exact sz41) (bl rfl)) ?_)
    (refine awR (op_load_rop rfl rfl ag41 sz41 (bl rfl) (by decide) rfl) ?_)
    refine awJ (op_alloc rfl ze41 rfl) ?_; (simp only [nA, Nat.reduceBEq, Nat.reduceEqDiff, ↓reduceIte])
    refine awJ (op_store rfl rfl rfl rfl rfl rfl sz41 rfl (bl rfl) rfl) ?_; (simp only [nA, Nat.reduceBEq, Nat.reduceEqDiff, ↓reduceIte])
    refine AWL.nil ?_
    (refine hK _ ?_; clear hK K; (skip))
    (refine AW.seq_k ?_; intro K hK)
    (refine AW.seq_k ?_; intro K hK)
    refine AW.region ?_
    refine awP (op_move rfl rfl) ?_
    (refine awP (op_fa_ptr rfl rfl rfl fl41_0 (by exact sz39) (by decide) rfl) ?_)
    (refine awR (op_load_ptr rfl rfl rfl rfl ag39 sz39 (bl rfl) rfl) ?_)
    refine awR (op_lookup (b := decide (p.plate ∈ pl2)) (ks := pl2.map plV) (xs := [.int .i64 p.plate.lead, .int .i64 p.plate.airline, .int .i64 p.plate.serial]) rfl rfl rfl rfl Try.underlying87 Try.underlying4 zf4 (key39 hpr.1 hpr.2.1 hpr.2.2) plV_mem) ?_; (simp only [nA, ↓reduceIte])
    refine AWL.nil ?_
    (refine hK _ ?_; clear hK K; (skip))
    refine AW.cond rfl rfl rfl (fun hc => ?_) (fun hc => ?_)
    ·
     (try simp only [hcS] at hc); have hc10 := hc
     (refine AW.seq_k ?_; intro K hK)
     refine AW.region ?_
     refine awP (op_assign rfl rfl) ?_
     refine AWL.nil ?_
     (refine hK _ ?_; clear hK K; (try simp only [nA, Nat.reduceBEq, Nat.reduceEqDiff, ↓reduceIte, Nat.reduceAdd, Nat.reduceSub]))
     skip
     refine AW.ret ?_; (try simp only [thenE, inBlk, Nat.reduceEqDiff, ↓reduceIte]); rw [if_pos (by simpa using hc)] at hP; rw [← hP] at hR; rw [← hR]; exact RQ.of0 rfl (.tmp (bl rfl) rfl rfl .nil)
    (try simp only [hcS] at hc); have hc10 := hc; rw [if_neg (by simpa using hc10)] at hP
    refine AW.skip ?_
    (refine hK _ ?_; clear hK K; (skip))
    refine AW.region ?_
    refine awP (op_move rfl rfl) ?_
    (refine awP (op_fa_ptr rfl rfl rfl fl41_0 (by exact sz39) (by decide) rfl) ?_)
    (refine awR (op_load_ptr rfl rfl rfl rfl ag39 sz39 (bl rfl) rfl) ?_)
    refine awJ (op_mapUpdate (ks := pl2.map plV) (xs := [.int .i64 p.plate.lead, .int .i64 p.plate.airline, .int .i64 p.plate.serial]) rfl rfl rfl rfl rfl Try.underlying87 Try.underlying4 (key39 hpr.1 hpr.2.1 hpr.2.2) (by simp [maxLen]; omega)) ?_; (simp only [nA, ↓reduceIte])
    refine AWL.nil ?_
    (try simp only [thenE, inBlk, Nat.reduceEqDiff, ↓reduceIte])
    (refine hK _ ?_; clear hK K; (skip))
    refine AW.region ?_
    (refine awP (op_addi rfl rfl rfl (by omega)) ?_)
    refine awP (op_move rfl rfl) ?_
    refine AWL.gh (Gh.drop 4) ?_; (simp only [nA])
    refine AWL.nil ?_
    refine ⟨(j + 1, p.plate :: pl2, _), ⟨by dsimp only; omega, by simp; omega, hP⟩, by dsimp only; omega, ⟨rfl, rfl, rfl, rfl, rfl, rfl, rfl, rfl, rfl, trivial⟩, (by rfl), (by rfl)⟩
   (try simp only [hcS] at hc); have hc9 := hc; obtain rfl : j = c.pieces.length := (by omega); have hP := hJ.2.2; rw [List.drop_length, chkP_nil] at hP; rw [← hP] at hR; simp only at hR
   refine AW.exit ?_; (try simp only [thenE, inBlk, Nat.reduceEqDiff, ↓reduceIte])
   clear hK K
   (try simp only [thenE, inBlk, Nat.reduceEqDiff, ↓reduceIte])
   (refine hK _ ?_; clear hK K; (skip))
   refine AW.region ?_
   (refine awP (op_addi rfl rfl rfl (by omega)) ?_)
   refine awP (op_move rfl rfl) ?_
   refine AWL.gh (Gh.drop 2) ?_; (simp only [nA])
   refine AWL.nil ?_
   refine ⟨(i + 1, sp, pl2, _), ⟨by dsimp only; omega, by dsimp only; omega, by dsimp only; omega, by dsimp only; rw [prevN_succ hci]; exact hR⟩, by dsimp only; omega, ⟨rfl, rfl, rfl, rfl, rfl, rfl, trivial⟩, (by rfl), (by rfl)⟩
  (try simp only [hcS] at hc); have hc2 := hc; obtain rfl : i = xs.length := (by omega); have hR := hI.2.2.2; rw [List.drop_length] at hR; unfold chk at hR
  refine AW.exit ?_; (try simp only [thenE, inBlk, Nat.reduceEqDiff, ↓reduceIte])
  clear hK K
  (refine hK _ ?_; clear hK K; (skip))
  (refine AW.seq_k ?_; intro K hK)
  refine AW.region ?_
  refine awP (op_assign rfl rfl) ?_
  refine AWL.nil ?_
  (refine hK _ ?_; clear hK K; (try simp only [nA, Nat.reduceBEq, Nat.reduceEqDiff, ↓reduceIte, Nat.reduceAdd, Nat.reduceSub]))
  skip
  refine AW.ret ?_; (try simp only [thenE, inBlk, Nat.reduceEqDiff, ↓reduceIte]); rw [← hR]; exact RQ.of0 rfl (.tmp (bl rfl) rfl rfl .nil)
def findL (xs : List Container) (p : Plate) : Int × Bool := match xs.find? fun c => hasB c.pieces p with
  | some c => (c.number, true)
  | none => (0, false)
theorem find_yes {xs : List Container} {p : Plate} {i : Nat} {c : Container} (hc : xs[i]? = some c) (h0 : ∀ k (h : k < xs.length), k < i → hasB xs[k].pieces p = false) (h1 : hasB c.pieces p = true) : findL xs p = (c.number, true) := by
  unfold findL
  obtain ⟨hi, rfl⟩ := List.getElem?_eq_some_iff.1 hc
  have e : xs = xs.take i ++ xs[i] :: xs.drop (i + 1) := by rw [← List.drop_eq_getElem_cons hi, List.take_append_drop]
  have : xs.find? (fun c => hasB c.pieces p) = some xs[i] := by
    conv => lhs; rw [e]
    rw [List.find?_append, List.find?_eq_none.2 (fun x hx => ?_), List.find?_cons_of_pos (by simpa using h1)]
    · rfl
    obtain ⟨k, hk, rfl⟩ := List.getElem_of_mem hx
    simp at hk
    have := h0 k (by omega) (by omega)
    simpa using this
  rw [this]
theorem find_none {xs : List Container} {p : Plate} (h0 : ∀ k (h : k < xs.length), hasB xs[k].pieces p = false) : findL xs p = (0, false) := by
  unfold findL
  rw [List.find?_eq_none.2 (fun x hx => ?_)]
  obtain ⟨k, hk, rfl⟩ := List.getElem_of_mem hx
  simpa using h0 k hk
set_option maxHeartbeats 8000000 in
theorem C25 {xs : List Container} {p : Plate} (hx : xs.length ≤ 1000000) (hb : ∀ c ∈ xs, c.pieces.length ≤ 1000000000) : Fn Try.prog 25 [] [.ro (xs.map Container.av), .agg p.av] [.v (.int .i64 (findL xs p).1), .v (.bool (findL xs p).2)] [] := by
  refine Spec.body Try.func25 rfl Try.ntmps25 (by simp) rfl ?_; intro S0 own0 v0 w0
  (refine AW.seq_k ?_; intro K hK)
  refine AW.region ?_
  refine awJ (op_box rfl rfl rfl sz39 rfl) ?_; (simp only [nA, Nat.reduceBEq, Nat.reduceEqDiff, ↓reduceIte])
  refine awP (op_assign rfl rfl) ?_
  refine awP (op_assign rfl rfl) ?_
  refine AWL.nil ?_
  (refine hK _ ?_; clear hK K; (try simp only [nA, Nat.reduceBEq, Nat.reduceEqDiff, ↓reduceIte, Nat.reduceAdd, Nat.reduceSub]))
  (refine AW.seq_k ?_; intro K hK)
  (refine AW.seq_k ?_; intro K hK)
  refine AW.region ?_
  refine awP (op_move rfl rfl) ?_
  (refine awP (op_len_ro rfl rfl Try.underlying25 (by exact .inr (.inl ⟨_, rfl, rfl⟩))) ?_)
  refine awP (op_move rfl rfl) ?_
  refine AWL.nil ?_
  (refine hK _ ?_; clear hK K; (simp only [nA, ↓reduceIte]))
  refine AW.block ?_
  refine AW.loopI (fun (q : Nat × Nat) => [(3, .ptr 0 1 0 0), (8, .ro (xs.map Container.av)), (9, .v (.int .i64 (xs.length : Nat))), (10, .v (.int .i64 (q.1 : Nat)))]) (fun q => ⟨[(1, .own 39 [p.av])], q.2⟩) (fun q => q.1 ≤ xs.length ∧ ∀ k (h : k < xs.length), k < q.1 → hasB xs[k].pieces p = false) (fun q => xs.length - q.1) (0, 2) ⟨by simp, by simp⟩ ⟨rfl, rfl, rfl, rfl, trivial⟩ rfl ?_; rintro ⟨i, e⟩ ρ hI; simp only at hI; simp only [updL]
  (refine AW.seq_k ?_; intro K hK)
  refine AW.region ?_
  refine awP (op_lss rfl rfl rfl) ?_
  refine AWL.nil ?_
  (refine hK _ ?_; clear hK K; (try simp only [nA, Nat.reduceBEq, Nat.reduceEqDiff, ↓reduceIte, Nat.reduceAdd, Nat.reduceSub]))
  (refine AW.seq_k ?_; intro K hK)
  refine AW.cond rfl rfl rfl (fun hc => ?_) (fun hc => ?_)
  ·
   (try simp only [hcS] at hc); have hc1 := hc; have hlt : i < xs.length := (by simpa using hc1); obtain ⟨c, hci⟩ : ∃ c, xs[i]? = some c := ⟨xs[i], List.getElem?_eq_getElem hlt⟩; have hcl := hb c (List.mem_of_getElem? hci)
   refine AW.skip ?_
   (refine hK _ ?_; clear hK K; (skip))
   (refine AW.seq_k ?_; intro K hK)
   refine AW.block ?_
   (refine AW.seq_k ?_; intro K hK)
   refine AW.region ?_
   (refine awP (op_ia_ro i rfl (.inl rfl) rfl Try.underlying25 rfl (get_of hci) (by exact sz45) (bl rfl)) ?_)
   (refine awR (op_load_rop rfl rfl ag45 sz45 (bl rfl) (by decide) rfl) ?_)
   refine awJ (op_alloc rfl ze45 rfl) ?_; (try simp only [nA, Nat.reduceBEq, Nat.reduceEqDiff, ↓reduceIte, Nat.reduceAdd, Nat.reduceSub])
   refine awJ (op_store rfl rfl rfl rfl rfl rfl sz45 rfl (bl rfl) rfl) ?_; (simp only [nA, Nat.reduceBEq, Nat.reduceEqDiff, ↓reduceIte])
   refine AWL.nil ?_
   (refine hK _ ?_; clear hK K; (skip))
   (refine AW.seq_k ?_; intro K hK)
   refine AW.region ?_
   (refine awR (op_load_ptr rfl rfl rfl rfl ag45 sz45 (bl rfl) rfl) ?_)
   (refine awR (op_load_ptr rfl rfl rfl rfl ag39 sz39 (bl rfl) rfl) ?_)
   refine awJ (OpQ.j (op_callQ (b := true) rfl en23 (C23 (c := c) (p := p) hcl) (RL.cons (by exact View.same rfl) (RL.cons (by exact View.same rfl) (RL.nil))) rfl)) ?_; (try simp only [nA, Nat.reduceBEq, Nat.reduceEqDiff, ↓reduceIte, Nat.reduceAdd, Nat.reduceSub])
   refine AWL.nil ?_
   (refine hK _ ?_; clear hK K; (skip))
   refine AW.cond rfl rfl rfl (fun hc => ?_) (fun hc => ?_)
   ·
    (try simp only [hcS] at hc); have hc2 := hc
    (refine AW.seq_k ?_; intro K hK)
    refine AW.region ?_
    (refine awP (op_fa_ptr rfl rfl rfl fl45_0 (by exact sz3) (by decide) rfl) ?_)
    (refine awR (op_load_ptr1 rfl rfl rfl rfl ag3 rfl rfl) ?_)
    refine awP (op_assign rfl rfl) ?_
    refine awP (op_assign rfl rfl) ?_
    refine AWL.nil ?_
    (refine hK _ ?_; clear hK K; (simp only [nA]))
    skip
    refine AW.ret ?_; (try simp only [thenE, inBlk, Nat.reduceEqDiff, ↓reduceIte]); rw [find_yes hci hI.2 hc2]; exact RQ.of0 rfl (.tmp (bl rfl) rfl rfl (.tmp (bl rfl) rfl rfl .nil))
   (try simp only [hcS] at hc); have hc2 := hc
   refine AW.skip ?_
   (try simp only [thenE, inBlk, Nat.reduceEqDiff, ↓reduceIte])
   (refine hK _ ?_; clear hK K; (skip))
   refine AW.region ?_
   (refine awP (op_addi rfl rfl rfl (by omega)) ?_)
   refine awP (op_move rfl rfl) ?_
   refine AWL.gh (Gh.drop 1) ?_; (simp only [nA])
   refine AWL.nil ?_
   refine ⟨(i + 1, _), ⟨by dsimp only; omega, fun k h hk => by rcases Nat.lt_or_ge k i with h' | h'; exact hI.2 k h h'; (obtain rfl : k = i := by dsimp only at hk; omega); (rw [(List.getElem?_eq_some_iff.1 hci).2]; exact hc2)⟩, by dsimp only; omega, ⟨rfl, rfl, rfl, rfl, trivial⟩, (by rfl), (by rfl)⟩
  (try simp only [hcS] at hc); have hc1 := hc
  refine AW.exit ?_; (try simp only [thenE, inBlk, Nat.reduceEqDiff, ↓reduceIte])
  clear hK K
  (refine hK _ ?_; clear hK K; (skip))
  (refine AW.seq_k ?_; intro K hK)
  refine AW.region ?_
  refine awP (op_assign rfl rfl) ?_
  refine awP (op_assign rfl rfl) ?_
  refine AWL.nil ?_
  (refine hK _ ?_; clear hK K; (try simp only [nA, Nat.reduceBEq, Nat.reduceEqDiff, ↓reduceIte, Nat.reduceAdd, Nat.reduceSub]))
  skip
  refine AW.ret ?_; (try simp only [thenE, inBlk, Nat.reduceEqDiff, ↓reduceIte]); rw [find_none (xs := xs) (p := p) (fun k h => hI.2 k h (by omega))]; exact RQ.of0 rfl (.tmp (bl rfl) rfl rfl (.tmp (bl rfl) rfl rfl .nil))
end Go.Proofs.Ytmdohphcolffmaa
namespace Go.Proofs.Ytmdohphcolffmaa
open Go.RowKit
set_option linter.unusedSimpArgs false
set_option linter.unusedVariables false
set_option maxRecDepth 100000
def sufR (s : ByteArray) : Bool := (s.toList == (⟨#[]⟩ : ByteArray).toList) || (decide ((s.size : Int) = 1) && upB (chr s 0))
def carR (s : ByteArray) : Bool := ((upB (chr s 0) || dgB (chr s 0)) && (upB (chr s 1) || dgB (chr s 1))) && (upB (chr s 0) || upB (chr s 1))
def car0 (s : ByteArray) : Bool := if (s.size : Int) ≠ 2 then false else carR s
def plR (p : Plate) : Bool := ((((decide (p.lead ≥ 0) && decide (p.lead ≤ 9)) && decide (p.airline ≥ 1)) && decide (p.airline ≤ 999)) && decide (p.serial ≥ 0)) && decide (p.serial ≤ 999999)
def piR (p : Piece) : Bool := (((plB p.plate && decide (p.weight ≥ 1)) && decide (p.weight ≤ 999)) && decide (p.category ≥ 0)) && decide (p.category ≤ 4)
def coR (c : Container) : Bool := (((((((((((decide (c.number ≥ 1) && decide (c.number ≤ 999)) && flB c.flight) && decide (c.categories ≥ 0)) && decide (c.categories < 32)) && decide (c.limit ≥ 0)) && decide (c.limit ≤ 20000)) && decide (c.most ≥ 0)) && decide (c.most ≤ 60)) && decide (c.position ≥ 0)) && decide (c.position ≤ 24)) && decide (c.arm ≥ -50)) && decide (c.arm ≤ 50)
end Go.Proofs.Ytmdohphcolffmaa
namespace Go.Proofs.Ytmdohphcolffmaa
open Go.RowKit
set_option linter.unusedSimpArgs false
set_option linter.unusedVariables false
set_option maxRecDepth 100000
abbrev setP (c : Container) (l : List Piece) : Container := ⟨c.number, c.flight, c.categories, c.limit, c.most, c.position, c.arm, l⟩
end Go.Proofs.Ytmdohphcolffmaa
namespace Go.Proofs.Ytmdohphcolffmaa
open Go.RowKit
set_option linter.unusedSimpArgs false
set_option linter.unusedVariables false
set_option maxRecDepth 100000
def smallB (xs : List Container) : Bool := xs.all (fun c => decide (c.pieces.length ≤ 70)) && decide ((xs.length : Int) ≤ 30)
end Go.Proofs.Ytmdohphcolffmaa
namespace Go.Proofs.Ytmdohphcolffmaa
open Go.RowKit
set_option linter.unusedSimpArgs false
set_option linter.unusedVariables false
set_option maxRecDepth 100000
theorem run_eq30 (p q : Flight) (w : World) : (binOp .eql 30 (.agg #[.string p.carrier, .int .i64 p.number, .string p.suffix, .int .i64 p.day]) (.agg #[.string q.carrier, .int .i64 q.number, .string q.suffix, .int .i64 q.day])).run Try.prog w = .ok (.bool (flEq p q)) w := by
  obtain ⟨a, b, c, d⟩ := p
  obtain ⟨a', b', c', d'⟩ := q
  unfold binOp
  simp only [Op.equal]
  rw [Sem.run_bind, show Op.maxDepth = 9998 + 1 + 1 from rfl, run_equalIn_struct w _ 30 _ _ fo30 st30]
  unfold Program.fieldsOf; rw [Try.underlying30]
  simp only [Op.eqFields]
  go_simp
  unfold flEq
  by_cases h1 : a.toList = a'.toList <;> by_cases h2 : b = b' <;> by_cases h3 : c.toList = c'.toList <;> by_cases h4 : d = d' <;> simp [h1, h2, h3, h4]
theorem run_tye30 (p q : Operand) (x y : Array Value) (w : World) : (eqGuard .eql 30 p q (.agg x) (.agg y)).run Try.prog w = .ok () w := by
  unfold eqGuard
  simp [ty30, run_program]
section
variable {S0 : Nat → Prop} {own0 : List Nat} {v0 : List Value} {w0 : World} {o : Oper} {ev : Operand → AV} {T : Sl} {yt : TypeId} {y z : Operand}
theorem op_eq30 {p q : Flight} (ho : o.op = .binOp .eql 30 y z yt) (hy : ev y = .agg p.av) (hz : ev z = .agg q.av) : OpP ⟨Try.prog, S0, own0, v0, w0⟩ o ev T (.v (.bool (flEq p q))) :=
  op_bin_agg (xs := [.string p.carrier, .int .i64 p.number, .string p.suffix, .int .i64 p.day]) (ys := [.string q.carrier, .int .i64 q.number, .string q.suffix, .int .i64 q.day]) ho hy hz (fun w => run_tye30 _ _ _ _ w) (fun w => run_eq30 p q w) rfl
end
def Seen (xs : List Container) (i : Nat) (sp : List Container) (pl : List Plate) : Prop :=
  chk (prevN xs i) (xs.drop i) sp pl = chk none xs [] [] ∧ (∀ s, s ∈ sp.map spotOf ↔ ∃ c ∈ xs.take i, c.position ≠ 0 ∧ spotOf c = s) ∧ ∀ p, p ∈ pl ↔ ∃ c ∈ xs.take i, hasB c.pieces p = true
end Go.Proofs.Ytmdohphcolffmaa
namespace Go.Proofs.Ytmdohphcolffmaa
open Go.RowKit
set_option linter.unusedSimpArgs false
set_option linter.unusedVariables false
set_option maxRecDepth 100000
abbrev nuv (c : Container) (u : Value) : List AV := [.v (.int .i64 c.number), .v (.string c.flight.carrier), .v (.int .i64 c.flight.number), .v (.string c.flight.suffix), .v (.int .i64 c.flight.day), .v (.int .i64 c.categories), .v (.int .i64 c.limit), .v (.int .i64 c.most), .v (.int .i64 c.position), .v (.int .i64 c.arm), .v u]
def spF (l : List Int) (sel : Int) (k : Nat) (c : Container) : Nat × Container :=
  if sel = 0 then (rawN l k, { c with number := pickV l k [0, 1, 999, 1000] }) else if sel = 1 then (rawN l k, { c with categories := pickV l k [-1, 31, 32] })
  else if sel = 2 then (rawN l k, { c with limit := pickV l k [-1, 0, 20000, 20001] }) else if sel = 3 then (rawN l k, { c with position := pickV l k [-1, 1, 24, 25] })
  else if sel = 4 then (rawN l k, { c with arm := pickV l k [-51, -50, 50, 51] }) else if sel = 5 then (nx3 l k, addP c (pieceV l k 9))
  else if sel = 6 then (nx2 l k, addP c ⟨platesP 999, pickV l k [0, 1, 999, 1000], pickV l (rawN l k) [-1, 4, 5]⟩) else if sel = 7 then (rawN l k, { c with most := pickV l k [-1, 0, 60, 61] })
  else (k, { c with flight := { c.flight with day := -1 } })
def spoilV (l : List Int) (k : Nat) (xs : List Container) : Nat × List Container :=
  if xs.length = 0 then (k, [zeroC]) else
    ((spF l (gmod (rawV l (rawN l k)) 9) (nx2 l k) (xs.getD (idxV l k xs.length) default)).1, xs.set (idxV l k xs.length) (spF l (gmod (rawV l (rawN l k)) 9) (nx2 l k) (xs.getD (idxV l k xs.length) default)).2)
end Go.Proofs.Ytmdohphcolffmaa
namespace Go.Proofs.Ytmdohphcolffmaa
open Go.RowKit
set_option linter.unusedSimpArgs false
set_option linter.unusedVariables false
set_option maxRecDepth 100000
def mom (l : List Container) (f : Flight) : Int := (l.map fun c => if flEq c.flight f then weightC c * c.arm else 0).sum
def momV (l : List Container) (f : Flight) : Int := if chkL l ≠ 0 then 0 else mom l f
def absI (n : Int) : Int := max n (-n)
def admB (c : Container) (p : Piece) : Bool := decide ((putC c p true).2 = 0)
/-- The place among the first i containers at which the moment is least. -/
def bestI (l : List Container) (f : Flight) (p : Piece) : Nat → Option Nat
  | 0 => none
  | i + 1 => if flEq (l.getD i default).flight f && admB (l.getD i default) p then
      (match bestI l f p i with
        | none => some i
        | some j => if absI (mom l f + p.weight * (l.getD i default).arm) < absI (mom l f + p.weight * (l.getD j default).arm) then some i else some j)
    else bestI l f p i
def bestV (l : List Container) (f : Flight) (p : Piece) : Option Nat := bestI l f p l.length
def atI (o : Option Nat) : Int := match o with | none => -1 | some i => (i : Nat)
def anyF (l : List Container) (f : Flight) : Bool := l.any fun c => flEq c.flight f
def choV (l : List Container) (f : Flight) (p : Piece) : Int × Int :=
  if chkL l ≠ 0 then (0, chkL l) else if piB p = false then (0, 1) else if (findL l p.plate).2 = true then (0, 5)
  else if anyF l f = false then (0, 6) else match bestV l f p with | none => (0, 8) | some i => ((l.getD i default).number, 0)
theorem bestI_lt {l : List Container} {f : Flight} {p : Piece} : ∀ {i j : Nat}, bestI l f p i = some j → j < i
  | 0, j, h => by cases h
  | i + 1, j, h => by
    unfold bestI at h
    split at h
    · cases hb : bestI l f p i with
      | none => rw [hb] at h; injection h with h; omega
      | some k =>
        rw [hb] at h
        have := bestI_lt hb
        simp only at h
        split at h <;> injection h with h <;> omega
    have := bestI_lt h; omega
theorem bestI_some {l : List Container} {f : Flight} {p : Piece} : ∀ {i j : Nat}, bestI l f p i = some j → flEq (l.getD j default).flight f = true ∧ admB (l.getD j default) p = true
  | 0, j, h => by cases h
  | i + 1, j, h => by
    unfold bestI at h
    split at h
    · rename_i hc
      rw [Bool.and_eq_true] at hc
      cases hb : bestI l f p i with
      | none => rw [hb] at h; injection h with h; subst h; exact hc
      | some k =>
        rw [hb] at h
        simp only at h
        split at h <;> injection h with h <;> subst h
        · exact hc
        exact bestI_some hb
    exact bestI_some h
theorem bestI_none {l : List Container} {f : Flight} {p : Piece} : ∀ {i : Nat}, bestI l f p i = none → ∀ j, j < i → (flEq (l.getD j default).flight f && admB (l.getD j default) p) = false
  | 0, _, j, hj => by omega
  | i + 1, h, j, hj => by
    unfold bestI at h
    split at h
    · cases hb : bestI l f p i with
      | none => rw [hb] at h; cases h
      | some k =>
        rw [hb] at h
        simp only at h
        split at h <;> cases h
    rename_i hc
    rcases Nat.lt_or_ge j i with h' | h'
    · exact bestI_none h j h'
    obtain rfl : j = i := by omega
    simpa using hc
def befB (a b : Piece) : Bool := decide (a.weight > b.weight) || (decide (a.weight = b.weight) && decide (cmpP a.plate b.plate < 0))
/-- How many of the first k pieces lie ahead of p. -/
def kB (p : Piece) (out : List Piece) : Nat → Nat
  | 0 => 0
  | k + 1 => if befB p (out.getD k default) then kB p out k else k + 1
def insB (out : List Piece) (p : Piece) : List Piece := out.take (kB p out out.length) ++ p :: out.drop (kB p out out.length)
def ordV (l : List Piece) : List Piece := l.foldl insB []
theorem kB_le (p : Piece) (out : List Piece) : ∀ k, kB p out k ≤ k
  | 0 => Nat.le_refl _
  | k + 1 => by
    unfold kB
    split
    · have := kB_le p out k; omega
    exact Nat.le_refl _
theorem insB_perm (out : List Piece) (p : Piece) : (insB out p).Perm (p :: out) := by
  unfold insB
  refine List.perm_middle.trans ?_
  rw [List.take_append_drop]
theorem ordV_perm_aux : ∀ (l out : List Piece), (l.foldl insB out).Perm (l ++ out)
  | [], out => List.Perm.refl _
  | p :: l, out => by
    refine (ordV_perm_aux l (insB out p)).trans ?_
    exact (List.Perm.append_left l (insB_perm out p)).trans List.perm_middle
theorem ordV_perm (l : List Piece) : (ordV l).Perm l := by
  have := ordV_perm_aux l []
  rwa [List.append_nil] at this
theorem perm_sorted {α : Type} {R : α → α → Prop} (hR : ∀ a b, R a b → ¬ R b a) : ∀ {l1 l2 : List α}, l1.Perm l2 → l1.Pairwise R → l2.Pairwise R → l1 = l2
  | [], l2, h, _, _ => by rw [List.nil_perm.1 h]
  | a :: l1, [], h, _, _ => absurd h.symm (by simp)
  | a :: l1, b :: l2, h, h1, h2 => by
    have ha : a ∈ b :: l2 := h.subset (by simp)
    have hb : b ∈ a :: l1 := h.symm.subset (by simp)
    rw [List.pairwise_cons] at h1 h2
    rcases List.mem_cons.1 ha with rfl | ha
    · rw [perm_sorted hR (h.cons_inv) h1.2 h2.2]
    rcases List.mem_cons.1 hb with rfl | hb
    · rw [perm_sorted hR (h.cons_inv) h1.2 h2.2]
    exact absurd (h1.1 b hb) (hR _ _ (h2.1 a ha))
end Go.Proofs.Ytmdohphcolffmaa
namespace Go.Proofs.Ytmdohphcolffmaa
open Go.RowKit
set_option linter.unusedSimpArgs false
set_option linter.unusedVariables false
set_option maxRecDepth 100000
def Bef (a b : Piece) : Prop := a.weight > b.weight ∨ (a.weight = b.weight ∧ PLt a.plate b.plate)
theorem bef_iff {a b : Piece} : befB a b = true ↔ Bef a b := by
  unfold befB Bef
  simp only [Bool.or_eq_true, Bool.and_eq_true, decide_eq_true_eq, cmpP_lt]
theorem Bef.trans {a b c : Piece} (h : Bef a b) (h' : Bef b c) : Bef a c := by
  unfold Bef at *
  rcases h with h | ⟨h, hp⟩ <;> rcases h' with h' | ⟨h', hp'⟩
  · left; omega
  · left; omega
  · left; omega
  right; exact ⟨by omega, hp.trans hp'⟩
theorem Bef.asymm (a b : Piece) (h : Bef a b) : ¬ Bef b a := fun h' => by
  have := h.trans h'
  unfold Bef at this
  rcases this with h | ⟨_, h⟩
  · omega
  exact PLt.irrefl _ h
theorem Bef.total {a b : Piece} (h : a.plate ≠ b.plate) (hn : ¬ Bef a b) : Bef b a := by
  unfold Bef at *
  rcases Int.lt_trichotomy a.weight b.weight with hw | hw | hw
  · left; exact hw
  · right
    refine ⟨hw.symm, ?_⟩
    rcases cmpP_cases a.plate b.plate with ⟨hp, _⟩ | ⟨hp, _⟩ | ⟨hp, _⟩
    · exact absurd (.inr ⟨hw, hp⟩) hn
    · exact absurd hp h
    exact hp
  exact absurd (.inl hw) hn
theorem kB_hi {p : Piece} {out : List Piece} : ∀ {k j : Nat}, kB p out k ≤ j → j < k → befB p (out.getD j default) = true
  | 0, j, _, h => by omega
  | k + 1, j, h1, h2 => by
    unfold kB at h1
    split at h1
    · rename_i hb
      rcases Nat.lt_or_ge j k with h | h
      · exact kB_hi h1 h
      obtain rfl : j = k := by omega
      exact hb
    omega
theorem kB_lo {p : Piece} {out : List Piece} : ∀ {k : Nat}, 0 < kB p out k → befB p (out.getD (kB p out k - 1) default) = false
  | 0, h => by unfold kB at h; omega
  | k + 1, h => by
    unfold kB at h ⊢
    by_cases hb : befB p (out.getD k default) = true
    · rw [if_pos hb] at h ⊢
      exact kB_lo h
    rw [if_neg hb]
    simpa using hb
/-- Different plates. -/
def DisP (l : List Piece) : Prop := l.Pairwise fun a b => a.plate ≠ b.plate
theorem getD_el {l : List Piece} {i : Nat} (h : i < l.length) : l.getD i default = l[i] := by
  rw [List.getD_eq_getElem?_getD, List.getElem?_eq_getElem h]; rfl
theorem insB_sorted {out : List Piece} {p : Piece} (h : out.Pairwise Bef) (hd : ∀ x ∈ out, x.plate ≠ p.plate) : (insB out p).Pairwise Bef := by
  have hk := kB_le p out out.length
  have hlo : ∀ j (hj : j < out.length), j < kB p out out.length → Bef out[j] p := fun j hj hjk => by
    have hl := kB_lo (p := p) (out := out) (k := out.length) (by omega)
    rw [getD_el (by omega)] at hl
    have hlast : Bef out[kB p out out.length - 1] p := Bef.total (fun e => hd _ (List.getElem_mem _) e.symm) (fun hb => by rw [bef_iff.2 hb] at hl; cases hl)
    rcases Nat.lt_or_ge j (kB p out out.length - 1) with h1 | h1
    · exact (List.pairwise_iff_getElem.1 h j _ hj (by omega) h1).trans hlast
    have e : j = kB p out out.length - 1 := by omega
    subst e
    exact hlast
  have hhi : ∀ j (hj : j < out.length), kB p out out.length ≤ j → Bef p out[j] := fun j hj hjk => by
    have := kB_hi hjk hj
    rw [getD_el hj] at this
    exact bef_iff.1 this
  unfold insB
  have h0 := h
  rw [← List.take_append_drop (kB p out out.length) out, List.pairwise_append] at h0
  rw [List.pairwise_append]
  refine ⟨h0.1, List.pairwise_cons.2 ⟨fun b hb => ?_, h0.2.1⟩, fun a ha b hb => ?_⟩
  · obtain ⟨i, hi, rfl⟩ := List.getElem_of_mem hb
    rw [List.getElem_drop]
    exact hhi _ _ (by omega)
  rcases List.mem_cons.1 hb with rfl | hb
  · obtain ⟨i, hi, rfl⟩ := List.getElem_of_mem ha
    rw [List.getElem_take]
    rw [List.length_take] at hi
    exact hlo _ _ (by omega)
  exact h0.2.2 a ha b hb
theorem ordV_sorted_aux : ∀ (l out : List Piece), out.Pairwise Bef → DisP (l ++ out) → (l.foldl insB out).Pairwise Bef
  | [], out, h, _ => h
  | p :: l, out, h, hd => by
    have hd' : DisP (p :: (l ++ out)) := hd
    unfold DisP at hd'
    rw [List.pairwise_cons] at hd'
    refine ordV_sorted_aux l (insB out p) (insB_sorted h fun x hx => (hd'.1 x (by simp [hx])).symm) ?_
    unfold DisP
    refine List.Pairwise.perm hd (((List.Perm.append_left l (insB_perm out p)).trans List.perm_middle).symm) (fun h e => h e.symm)
theorem ordV_sorted {l : List Piece} (h : DisP l) : (ordV l).Pairwise Bef := ordV_sorted_aux l [] List.Pairwise.nil (by rwa [List.append_nil])
/-- There is one order. -/
theorem ord_unique {l d : List Piece} (h : DisP l) (hp : d.Perm l) (hs : d.Pairwise Bef) : d = ordV l := perm_sorted Bef.asymm (hp.trans (ordV_perm l).symm) hs (ordV_sorted h)
end Go.Proofs.Ytmdohphcolffmaa
namespace Go.Proofs.Ytmdohphcolffmaa
open Go.RowKit
set_option linter.unusedSimpArgs false
set_option linter.unusedVariables false
set_option maxRecDepth 100000
def stepA (f : Flight) (s : List Container × List Piece) (b : Piece) : List Container × List Piece :=
  match bestV s.1 f b with | none => (s.1, s.2 ++ [b]) | some i => (s.1.set i (putC (s.1.getD i default) b true).1, s.2)
def asgF (f : Flight) (s : List Container × List Piece) (bags : List Piece) : List Container × List Piece := bags.foldl (stepA f) s
def errB (l : List Container) (bags : List Piece) (i : Nat) : Int :=
  if piB (bags.getD i default) = false then 1 else if ((findL l (bags.getD i default).plate).2 || (bags.take i).any fun x => decide (x.plate = (bags.getD i default).plate)) = true then 5 else 0
def asgE (l : List Container) (bags : List Piece) : Int := orL ((List.range bags.length).map (errB l bags))
def asgV (l : List Container) (f : Flight) (bags : List Piece) : List Container × List Piece × Int :=
  if chkL l ≠ 0 then ([], [], chkL l) else if asgE l bags ≠ 0 then ([], [], asgE l bags) else ((asgF f (l, []) (ordV bags)).1, (asgF f (l, []) (ordV bags)).2, 0)
/-- What every list of containers keeps that bags are put into. -/
structure InvO (l : List Container) : Prop where
  len : l.length ≤ 24
  val : ∀ c ∈ l, valC c = 0
theorem chk_vals : ∀ (cs : List Container) (o : Option Int) (sp : List Container) (pl : List Plate), chk o cs sp pl = 0 → ∀ c ∈ cs, valC c = 0
  | [], _, _, _, _, c, hc => by cases hc
  | d :: cs, o, sp, pl, h, c, hc => by
    unfold chk at h
    by_cases h1 : valC d ≠ 0
    · rw [if_pos h1] at h; exact absurd h h1
    rw [if_neg h1] at h
    rcases List.mem_cons.1 hc with rfl | hc
    · simpa using h1
    by_cases h2 : prevBad o d.number = true
    · rw [if_pos h2] at h; cases h
    rw [if_neg h2] at h
    by_cases h3 : d.position ≠ 0 ∧ spotOf d ∈ sp.map spotOf
    · rw [if_pos h3] at h; cases h
    rw [if_neg h3] at h
    cases hp : chkP d.pieces pl with
    | none => rw [hp] at h; cases h
    | some pl' =>
      rw [hp] at h
      exact chk_vals cs _ _ _ h c hc
theorem InvO.of {l : List Container} (h : chkL l = 0) : InvO l := by
  unfold chkL at h
  by_cases hl : (l.length : Int) > 24
  · rw [if_pos hl] at h; cases h
  rw [if_neg hl] at h
  exact ⟨by omega, chk_vals l _ _ _ h⟩
/-- What an admitted piece says. -/
structure Adm (c : Container) (p : Piece) : Prop where
  val : valC c = 0
  pi : piB p = true
  has : hasB c.pieces p.plate = false
  bit : bitB c.categories p.category = true
  full : fullB c p = false
  len : c.pieces.length < 60
theorem adm_iff {c : Container} {p : Piece} : admB c p = true ↔ Adm c p := by
  unfold admB
  rw [decide_eq_true_eq]
  by_cases hv : valC c = 0
  · by_cases hp : piB p = true
    · rw [put_eq hv hp, found_has (val_asc hv)]
      cases hb : hasB c.pieces p.plate with
      | true => rw [if_pos rfl]; exact ⟨fun h => (by cases h), fun h => by have := h.has; rw [hb] at this; cases this⟩
      | false =>
        rw [if_neg (by decide)]
        cases hbit : bitB c.categories p.category with
        | false => rw [if_pos (by decide)]; exact ⟨fun h => (by cases h), fun h => by have := h.bit; rw [hbit] at this; cases this⟩
        | true =>
          rw [if_neg (by decide)]
          cases hf : fullB c p with
          | true => rw [if_pos (by decide)]; exact ⟨fun h => (by cases h), fun h => by have := h.full; rw [hf] at this; cases this⟩
          | false =>
            rw [if_neg (by decide)]
            by_cases hl : (c.pieces.length : Int) ≥ 60
            · rw [if_pos hl]; exact ⟨fun h => (by cases h), fun h => by have := h.len; omega⟩
            rw [if_neg hl]; exact ⟨fun _ => ⟨hv, hp, hb, hbit, hf, by omega⟩, fun _ => rfl⟩
    unfold putC
    rw [if_neg (by simpa using hv), if_pos (by simpa using hp)]
    exact ⟨fun h => (by cases h), fun h => absurd h.pi hp⟩
  unfold putC
  rw [if_pos hv]
  exact ⟨fun h => absurd h hv, fun h => absurd h.val hv⟩
theorem Adm.put {c : Container} {p : Piece} (h : Adm c p) : putC c p true = (insC c p, 0) := by
  have hl := h.len
  rw [put_eq h.val h.pi, found_has (val_asc h.val), h.has, h.bit, h.full, if_neg (by decide), if_neg (by decide), if_neg (by decide), if_neg (by omega)]
theorem Adm.ins {c : Container} {p : Piece} (h : Adm c p) : valC (insC c p) = 0 := ins_val h.val h.pi h.has h.len
theorem bestV_some {l : List Container} {f : Flight} {p : Piece} {i : Nat} (h : bestV l f p = some i) : i < l.length ∧ flEq (l.getD i default).flight f = true ∧ Adm (l.getD i default) p :=
  ⟨bestI_lt h, (bestI_some h).1, adm_iff.1 (bestI_some h).2⟩
theorem stepA_none {f : Flight} {s : List Container × List Piece} {b : Piece} (h : bestV s.1 f b = none) : stepA f s b = (s.1, s.2 ++ [b]) := by unfold stepA; rw [h]
theorem stepA_some {f : Flight} {s : List Container × List Piece} {b : Piece} {i : Nat} (h : bestV s.1 f b = some i) : stepA f s b = (s.1.set i (insC (s.1.getD i default) b), s.2) := by
  unfold stepA
  rw [h]
  simp only
  rw [(bestV_some h).2.2.put]
theorem InvO.step {f : Flight} {s : List Container × List Piece} (h : InvO s.1) (b : Piece) : InvO (stepA f s b).1 := by
  cases hb : bestV s.1 f b with
  | none => rw [stepA_none hb]; exact h
  | some i =>
    rw [stepA_some hb]
    refine ⟨by rw [List.length_set]; exact h.len, fun c hc => ?_⟩
    rcases List.mem_or_eq_of_mem_set hc with hc | rfl
    · exact h.val c hc
    exact (bestV_some hb).2.2.ins
theorem InvO.fold {f : Flight} : ∀ (bags : List Piece) {s : List Container × List Piece}, InvO s.1 → InvO (asgF f s bags).1
  | [], _, h => h
  | b :: bags, _, h => InvO.fold bags (h.step b)
theorem asgF_take {f : Flight} {s : List Container × List Piece} {bags : List Piece} {i : Nat} (h : i < bags.length) : asgF f s (bags.take (i + 1)) = stepA f (asgF f s (bags.take i)) (bags.getD i default) := by
  unfold asgF
  rw [List.take_add_one, List.foldl_append, List.getElem?_eq_getElem h, getD_el h]
  rfl
theorem asgF_len {f : Flight} : ∀ (bags : List Piece) (s : List Container × List Piece), (asgF f s bags).1.length = s.1.length ∧ (asgF f s bags).2.length ≤ s.2.length + bags.length
  | [], s => ⟨rfl, Nat.le_refl _⟩
  | b :: bags, s => by
    obtain ⟨h1, h2⟩ := asgF_len bags (stepA f s b)
    show (asgF f (stepA f s b) bags).1.length = _ ∧ (asgF f (stepA f s b) bags).2.length ≤ _
    rw [h1]
    cases hb : bestV s.1 f b with
    | none => rw [stepA_none hb] at h2 ⊢; refine ⟨rfl, ?_⟩; simp only [List.length_append, List.length_cons, List.length_nil] at h2 ⊢; omega
    | some i => rw [stepA_some hb] at h2 ⊢; refine ⟨by simp, ?_⟩; simp only [List.length_cons] at h2 ⊢; omega
theorem orL_zero {l : List Int} (h : orL l = 0) : ∀ x ∈ l, x = 0 := by
  intro x hx
  refine Classical.byContradiction fun hne => ?_
  unfold orL at h
  cases hf : l.find? (fun x => decide (x ≠ 0)) with
  | none => exact hne (by simpa using List.find?_eq_none.1 hf x hx)
  | some y =>
    have := List.find?_some hf
    rw [hf] at h
    simp at this h
    exact this h
theorem asgE_all {l : List Container} {bags : List Piece} (h : asgE l bags = 0) : ∀ i, i < bags.length → errB l bags i = 0 := fun i hi =>
  orL_zero h _ (List.mem_map.2 ⟨i, List.mem_range.2 hi, rfl⟩)
theorem errB_0 {l : List Container} {bags : List Piece} {i : Nat} (h : errB l bags i = 0) : piB (bags.getD i default) = true ∧ (findL l (bags.getD i default).plate).2 = false ∧ ∀ x ∈ bags.take i, x.plate ≠ (bags.getD i default).plate := by
  unfold errB at h
  by_cases h1 : piB (bags.getD i default) = false
  · rw [if_pos h1] at h; cases h
  rw [if_neg h1] at h
  by_cases h2 : ((findL l (bags.getD i default).plate).2 || (bags.take i).any fun x => decide (x.plate = (bags.getD i default).plate)) = true
  · rw [if_pos h2] at h; cases h
  simp only [Bool.or_eq_true, not_or, List.any_eq_true, decide_eq_true_eq, not_exists, not_and, Bool.not_eq_true] at h2
  exact ⟨by simpa using h1, h2.1, h2.2⟩
theorem asgE_dis {l : List Container} {bags : List Piece} (h : asgE l bags = 0) : DisP bags := by
  unfold DisP
  rw [List.pairwise_iff_getElem]
  intro i j hi hj hij
  have := (errB_0 (asgE_all h j hj)).2.2 bags[i] (by rw [List.mem_take_iff_getElem]; exact ⟨i, by omega, rfl⟩)
  rwa [getD_el hj] at this
theorem asgE_pi {l : List Container} {bags : List Piece} (h : asgE l bags = 0) : ∀ b ∈ bags, piB b = true ∧ (findL l b.plate).2 = false := fun b hb => by
  obtain ⟨i, hi, rfl⟩ := List.getElem_of_mem hb
  have := errB_0 (asgE_all h i hi)
  rw [getD_el hi] at this
  exact ⟨this.1, this.2.1⟩
end Go.Proofs.Ytmdohphcolffmaa
namespace Go.Proofs.Ytmdohphcolffmaa
open Go.RowKit
set_option linter.unusedSimpArgs false
set_option linter.unusedVariables false
set_option maxRecDepth 100000
structure GoodC (ys : List Container) : Prop where
  val : ∀ c ∈ ys, valC c = 0
  asc : ys.Pairwise fun c d => c.number < d.number
  pos : ∀ (i : Nat) (h : i < ys.length), ys[i].position = 0 ∨ ys[i].position = i + 1
  disj : ys.Pairwise fun c d => ∀ x ∈ c.pieces, ∀ y ∈ d.pieces, x.plate ≠ y.plate
theorem InvB.good {i : Nat} {cs : List Container} (h : InvB i cs) : GoodC cs := ⟨fun c hc => h.val hc, h.asc, h.pos, h.disj⟩
theorem chkP_some : ∀ (l : List Piece) (pl : List Plate), AscP l → (∀ x ∈ l, x.plate ∉ pl) → ∃ pl', chkP l pl = some pl' ∧ ∀ q, q ∈ pl' → q ∈ pl ∨ ∃ x ∈ l, x.plate = q
  | [], pl, _, _ => ⟨pl, rfl, fun q h => .inl h⟩
  | p :: l, pl, ha, hn => by
    have h1 := List.pairwise_cons.1 ha
    rw [chkP_cons, if_neg (hn p (by simp))]
    obtain ⟨pl', h2, h3⟩ := chkP_some l (p.plate :: pl) h1.2 (fun x hx hm => by
      rcases List.mem_cons.1 hm with e | hm
      · have := h1.1 x hx; rw [e] at this; exact PLt.irrefl _ this
      exact hn x (by simp [hx]) hm)
    refine ⟨pl', h2, fun q hq => ?_⟩
    rcases h3 q hq with h | ⟨x, hx, e⟩
    · rcases List.mem_cons.1 h with rfl | h
      · exact .inr ⟨p, by simp, rfl⟩
      exact .inl h
    exact .inr ⟨x, by simp [hx], e⟩
theorem chk_zero : ∀ (cs : List Container) (o : Option Int) (sp : List Container) (pl : List Plate), (∀ c ∈ cs, valC c = 0) → (cs.Pairwise fun c d => c.number < d.number) → (∀ m, o = some m → ∀ c ∈ cs, m < c.number) →
    (cs.Pairwise fun c d => c.position ≠ 0 → c.position ≠ d.position) → (∀ s ∈ sp, ∀ c ∈ cs, s.position ≠ c.position) → (∀ c ∈ cs, ∀ x ∈ c.pieces, x.plate ∉ pl) → (cs.Pairwise fun c d => ∀ x ∈ c.pieces, ∀ y ∈ d.pieces, x.plate ≠ y.plate) → chk o cs sp pl = 0
  | [], _, _, _, _, _, _, _, _, _, _ => rfl
  | c :: cs, o, sp, pl, hv, ha, ho, hp, hs, hpl, hd => by
    have ha1 := List.pairwise_cons.1 ha
    have hp1 := List.pairwise_cons.1 hp
    have hd1 := List.pairwise_cons.1 hd
    obtain ⟨pl', h2, h3⟩ := chkP_some c.pieces pl (val_asc (hv c (by simp))) (hpl c (by simp))
    unfold chk
    rw [if_neg (by simp [hv c (by simp)]), if_neg (by
      cases o with
      | none => simp [prevBad]
      | some m => have := ho m rfl c (by simp); unfold prevBad; simp; omega), if_neg (by
      rintro ⟨_, hm⟩
      obtain ⟨s, h4, h5⟩ := List.mem_map.1 hm
      exact hs s h4 c (by simp) (congrArg Spot.position h5)), h2]
    simp only
    refine chk_zero cs _ _ pl' (fun d hd => hv d (by simp [hd])) ha1.2 (fun m hm d hd => by injection hm with hm; rw [← hm]; exact ha1.1 d hd) hp1.2 (fun s h4 d hdm => ?_) (fun d hdm x hx hm => ?_) hd1.2
    · by_cases h0 : c.position ≠ 0
      · rw [if_pos h0] at h4
        rcases List.mem_cons.1 h4 with e | h4
        · rw [e]; exact hp1.1 d hdm h0
        exact hs s h4 d (List.mem_cons_of_mem _ hdm)
      rw [if_neg h0] at h4
      exact hs s h4 d (List.mem_cons_of_mem _ hdm)
    rcases h3 _ hm with h | ⟨y, hy, e⟩
    · exact hpl d (List.mem_cons_of_mem _ hdm) x hx h
    exact hd1.1 d hdm y hy x hx e
theorem GoodC.chk {ys : List Container} (h : GoodC ys) (hl : ys.length ≤ 24) : chkL ys = 0 := by
  unfold chkL
  rw [if_neg (by omega)]
  refine chk_zero ys none [] [] h.val h.asc (by simp) (List.pairwise_iff_getElem.2 fun i j hi hj hij h0 => ?_) (by simp) (by simp) h.disj
  rcases h.pos i hi with h1 | h1 <;> rcases h.pos j hj with h2 | h2 <;> omega
theorem GoodC.set {ys : List Container} (h : GoodC ys) {q : Nat} (hq : q < ys.length) {d : Container} (hv : valC d = 0) (hn : d.number = ys[q].number) (hp : d.position = ys[q].position)
    (hd : ∀ (k : Nat) (hk : k < ys.length), k ≠ q → ∀ x ∈ d.pieces, ∀ y ∈ ys[k].pieces, x.plate ≠ y.plate) : GoodC (ys.set q d) := by
  have hnum : ∀ (j : Nat) (hj : j < (ys.set q d).length), (ys.set q d)[j].number = (ys[j]'(by simpa using hj)).number := fun j hj => by
    rw [List.getElem_set]
    split
    · rename_i e; subst e; exact hn
    rfl
  have hpos : ∀ (j : Nat) (hj : j < (ys.set q d).length), (ys.set q d)[j].position = (ys[j]'(by simpa using hj)).position := fun j hj => by
    rw [List.getElem_set]
    split
    · rename_i e; subst e; exact hp
    rfl
  refine ⟨fun c hc => ?_, ?_, fun j hj => ?_, ?_⟩
  · rcases List.mem_or_eq_of_mem_set hc with hc | rfl
    · exact h.val c hc
    exact hv
  · refine List.pairwise_iff_getElem.2 fun a b ha hb hab => ?_
    rw [hnum, hnum]
    exact List.pairwise_iff_getElem.1 h.asc a b (by simpa using ha) (by simpa using hb) hab
  · rw [hpos]; exact h.pos j (by simpa using hj)
  refine List.pairwise_iff_getElem.2 fun a b ha hb hab => ?_
  have ha' : a < ys.length := by simpa using ha
  have hb' : b < ys.length := by simpa using hb
  rw [List.getElem_set, List.getElem_set]
  split
  · rename_i e
    subst e
    rw [if_neg (by omega)]
    exact hd b hb' (by omega)
  split
  · rename_i e
    subst e
    intro x hx y hy e2
    exact hd a ha' (by omega) y hy x hx e2.symm
  exact List.pairwise_iff_getElem.1 h.disj a b ha' hb' hab
theorem GoodC.only {ys : List Container} (h : GoodC ys) {p : Plate} {q : Nat} (hq : q < ys.length) (hh : hasB ys[q].pieces p = true) {k : Nat} (hk : k < ys.length) (hne : k ≠ q) : hasB ys[k].pieces p = false := by
  obtain ⟨x, hx, rfl⟩ := hasB_iff.1 hh
  refine hasB_no.2 fun y hy e => ?_
  rcases Nat.lt_or_gt_of_ne hne with h' | h'
  · exact List.pairwise_iff_getElem.1 h.disj k q hk hq h' y hy x hx e
  exact List.pairwise_iff_getElem.1 h.disj q k hq hk h' x hx y hy e.symm
theorem GoodC.num {ys : List Container} (h : GoodC ys) {q k : Nat} (hq : q < ys.length) (hk : k < ys.length) (e : ys[k].number = ys[q].number) : k = q := by
  rcases Nat.lt_trichotomy k q with h' | h' | h'
  · have := List.pairwise_iff_getElem.1 h.asc k q hk hq h'; omega
  · exact h'
  have := List.pairwise_iff_getElem.1 h.asc q k hq hk h'; omega
def cntL (xs : List Container) (p : Plate) : Int := ((xs.countP fun c => hasB c.pieces p : Nat) : Int)
theorem GoodC.find {xs : List Container} (h : GoodC xs) (p : Plate) : (cntL xs p = 0 ∧ findL xs p = (0, false)) ∨ ∃ (q : Nat) (c : Container), xs[q]? = some c ∧ hasB c.pieces p = true ∧ cntL xs p = 1 ∧ findL xs p = (c.number, true) := by
  by_cases hall : ∀ (k : Nat) (hk : k < xs.length), hasB xs[k].pieces p = false
  · left
    refine ⟨?_, find_none hall⟩
    unfold cntL
    rw [List.countP_eq_zero.2 (fun c hc => by obtain ⟨k, hk, rfl⟩ := List.getElem_of_mem hc; simp [hall k hk])]
    rfl
  right
  have : ∃ (q : Nat) (hq : q < xs.length), hasB xs[q].pieces p = true := by
    apply Classical.byContradiction
    intro hn
    apply hall
    intro k hk
    cases hb : hasB xs[k].pieces p with
    | false => rfl
    | true => exact absurd ⟨k, hk, hb⟩ hn
  obtain ⟨q, hq, hh⟩ := this
  refine ⟨q, xs[q], List.getElem?_eq_getElem hq, hh, ?_, find_yes (List.getElem?_eq_getElem hq) (fun k hk hkq => h.only hq hh hk (by omega)) hh⟩
  unfold cntL
  have e : xs = xs.take q ++ xs[q] :: xs.drop (q + 1) := by rw [← List.drop_eq_getElem_cons hq, List.take_append_drop]
  have e1 : (xs.take q).countP (fun c => hasB c.pieces p) = 0 := List.countP_eq_zero.2 fun c hc => by
    obtain ⟨k, hk, rfl⟩ := List.getElem_of_mem hc
    simp at hk
    simp [h.only hq hh (k := k) (by omega) (by omega)]
  have e2 : (xs.drop (q + 1)).countP (fun c => hasB c.pieces p) = 0 := List.countP_eq_zero.2 fun c hc => by
    obtain ⟨k, hk, rfl⟩ := List.getElem_of_mem hc
    simp at hk
    simp [h.only hq hh (k := q + 1 + k) (by omega) (by omega)]
  have : xs.countP (fun c => hasB c.pieces p) = 1 := by
    conv => lhs; rw [e]
    rw [List.countP_append, List.countP_cons, e1, e2]
    simp [hh]
  rw [this]; rfl
end Go.Proofs.Ytmdohphcolffmaa
namespace Go.Proofs.Ytmdohphcolffmaa
open Go.RowKit
set_option linter.unusedSimpArgs false
set_option linter.unusedVariables false
set_option maxRecDepth 100000
theorem mem_ins {c : Container} {p q : Piece} : q ∈ (insC c p).pieces ↔ q = p ∨ q ∈ c.pieces := by
  rw [ins_pieces, (insL_perm c.pieces p).mem_iff, List.mem_cons]
theorem len_ins (c : Container) (p : Piece) : (insC c p).pieces.length = c.pieces.length + 1 := by
  rw [ins_pieces, (insL_perm c.pieces p).length_eq]; rfl
theorem sum_ins (c : Container) (p : Piece) : sumW (insC c p).pieces = p.weight + sumW c.pieces := by
  rw [ins_pieces, sumW_perm (insL_perm c.pieces p)]
  unfold sumW
  simp
theorem set_get {α : Type} [Inhabited α] {l : List α} {i k : Nat} {x : α} (hi : i < l.length) : (l.set i x).getD k default = if i = k then x else l.getD k default := by
  rw [List.getD_eq_getElem?_getD, List.getD_eq_getElem?_getD, List.getElem?_set]
  by_cases h : i = k
  · subst h; rw [if_pos rfl, if_pos rfl, if_pos hi]; rfl
  rw [if_neg h, if_neg h]
theorem getD_c {l : List Container} {i : Nat} (h : i < l.length) : l.getD i default = l[i] := by
  rw [List.getD_eq_getElem?_getD, List.getElem?_eq_getElem h]; rfl
/-- The head of a container is as it was. -/
def HeadEq (c d : Container) : Prop := d.number = c.number ∧ d.flight = c.flight ∧ d.categories = c.categories ∧ d.limit = c.limit ∧ d.most = c.most ∧ d.position = c.position ∧ d.arm = c.arm
theorem HeadEq.ins {c d : Container} (h : HeadEq c d) (p : Piece) : HeadEq c (insC d p) := h
structure CI (x : List Container) (f : Flight) (B : List Piece) (s : List Container × List Piece) : Prop where
  good : GoodC s.1
  len : s.1.length = x.length
  head : ∀ i, i < x.length → HeadEq (x.getD i default) (s.1.getD i default)
  sub : ∀ i, i < x.length → ∀ q ∈ (x.getD i default).pieces, q ∈ (s.1.getD i default).pieces
  same : ∀ i, i < x.length → flEq (x.getD i default).flight f = false → s.1.getD i default = x.getD i default
  new : ∀ i, i < x.length → ∀ q ∈ (s.1.getD i default).pieces, q ∈ (x.getD i default).pieces ∨ q ∈ B
  cnt : (s.1.map fun c => c.pieces.length).sum + s.2.length = (x.map fun c => c.pieces.length).sum + B.length
  over : ∀ i, i < x.length → overC (x.getD i default) = false → overC (s.1.getD i default) = false
  left : ∀ q ∈ s.2, q ∈ B ∧ ∀ i, i < x.length → flEq (x.getD i default).flight f = true → admB (s.1.getD i default) q = false
  inl : ∀ q ∈ B, q ∈ s.2 ∨ ∃ i, i < x.length ∧ q ∈ (s.1.getD i default).pieces
  excl : ∀ q ∈ s.2, ∀ i, i < x.length → hasB (s.1.getD i default).pieces q.plate = false
theorem CI.start {x : List Container} {f : Flight} (h : GoodC x) : CI x f [] (x, []) :=
  ⟨h, rfl, fun _ _ => ⟨rfl, rfl, rfl, rfl, rfl, rfl, rfl⟩, fun _ _ _ h => h, fun _ _ _ => rfl, fun _ _ _ h => .inl h, rfl, fun _ _ h => h, fun q h => (by cases h), fun q h => (by cases h), fun q h => (by cases h)⟩
theorem sum_set {l : List Container} {i : Nat} {d : Container} (hi : i < l.length) (hd : d.pieces.length = (l.getD i default).pieces.length + 1) : ((l.set i d).map fun c => c.pieces.length).sum = (l.map fun c => c.pieces.length).sum + 1 := by
  induction l generalizing i with
  | nil => simp at hi
  | cons a l ih =>
    cases i with
    | zero =>
      simp only [List.set_cons_zero, List.map_cons, List.sum_cons]
      have : d.pieces.length = a.pieces.length + 1 := hd
      omega
    | succ i =>
      simp only [List.set_cons_succ, List.map_cons, List.sum_cons]
      have := ih (i := i) (by simpa using hi) hd
      omega
theorem Adm.less {c d : Container} {q : Piece} (h : Adm d q) (hv : valC c = 0) (hh : HeadEq c d) (hs : ∀ x ∈ c.pieces, x ∈ d.pieces) (hw : sumW c.pieces ≤ sumW d.pieces) (hl : c.pieces.length ≤ d.pieces.length) : Adm c q := by
  refine ⟨hv, h.pi, hasB_no.2 fun x hx => hasB_no.1 h.has x (hs x hx), by rw [← hh.2.2.1]; exact h.bit, ?_, by have := h.len; omega⟩
  have := h.full
  unfold fullB at this ⊢
  simp only [Bool.or_eq_false_iff, decide_eq_false_iff_not] at this ⊢
  obtain ⟨_, _, _, h4, h5, _⟩ := hh
  omega
theorem over_ins {c : Container} {p : Piece} (ha : Adm c p) (ho : overC c = false) : overC (insC c p) = false := by
  have h1 := (over_no ha.val).1 ho
  have hf := ha.full
  unfold fullB at hf
  simp only [Bool.or_eq_false_iff, decide_eq_false_iff_not] at hf
  refine (over_no ha.ins).2 ⟨fun x hx => ?_, ?_, ?_⟩
  · rcases mem_ins.1 hx with rfl | hx
    · exact ha.bit
    exact h1.1 x hx
  · rw [sum_ins]
    show _ ≤ c.limit
    omega
  rw [len_ins]
  show _ ≤ c.most
  omega
theorem CI.step {x : List Container} {f : Flight} {B : List Piece} {s : List Container × List Piece} (h : CI x f B s) {b : Piece} (hB : ∀ q ∈ B, q.plate ≠ b.plate) (hx : ∀ i, i < x.length → hasB (x.getD i default).pieces b.plate = false) :
    CI x f (B ++ [b]) (stepA f s b) := by
  have hnot : ∀ i, i < x.length → hasB (s.1.getD i default).pieces b.plate = false := fun i hi => hasB_no.2 fun q hq => by
    rcases h.new i hi q hq with h1 | h1
    · exact hasB_no.1 (hx i hi) q h1
    exact hB q h1
  cases hb : bestV s.1 f b with
  | none =>
    rw [stepA_none hb]
    refine ⟨h.good, h.len, h.head, h.sub, h.same, fun i hi q hq => (h.new i hi q hq).imp id fun h1 => by simp [h1], ?_, h.over, fun q hq => ?_, fun q hq => ?_, fun q hq i hi => ?_⟩
    · have := h.cnt
      simp only [List.length_append, List.length_cons, List.length_nil] at this ⊢
      omega
    · rcases List.mem_append.1 hq with h1 | h1
      · exact ⟨by simp [(h.left q h1).1], (h.left q h1).2⟩
      obtain rfl : q = b := by simpa using h1
      refine ⟨by simp, fun i hi hf => ?_⟩
      have := bestI_none (show bestI s.1 f q s.1.length = none from hb) i (by rw [h.len]; exact hi)
      rw [(h.head i hi).2.1, hf, Bool.true_and] at this
      exact this
    · rcases List.mem_append.1 hq with h1 | h1
      · exact (h.inl q h1).imp (fun h2 => by simp [h2]) id
      left; obtain rfl : q = b := by simpa using h1
      simp
    rcases List.mem_append.1 hq with h1 | h1
    · exact h.excl q h1 i hi
    obtain rfl : q = b := by simpa using h1
    exact hnot i hi
  | some k =>
    obtain ⟨hk, hfk, ha⟩ := bestV_some hb
    rw [stepA_some hb]
    have hkx : k < x.length := by rw [← h.len]; exact hk
    have hg : ∀ i, (s.1.set k (insC (s.1.getD k default) b)).getD i default = if k = i then insC (s.1.getD k default) b else s.1.getD i default := fun i => set_get hk
    refine ⟨?_, by rw [List.length_set]; exact h.len, fun i hi => ?_, fun i hi q hq => ?_, fun i hi hf => ?_, fun i hi q hq => ?_, ?_, fun i hi ho => ?_, fun q hq => ?_, fun q hq => ?_, fun q hq i hi => ?_⟩
    · refine h.good.set hk ha.ins (by rw [← getD_c hk]; rfl) (by rw [← getD_c hk]; rfl) fun j hj hjk y hy z hz => ?_
      rcases mem_ins.1 hy with rfl | hy
      · have := hasB_no.1 (hnot j (by rw [← h.len]; exact hj)) z (by rw [getD_c hj]; exact hz)
        exact fun e => this e.symm
      rw [getD_c hk] at hy
      rcases Nat.lt_or_gt_of_ne hjk with h1 | h1
      · exact fun e => List.pairwise_iff_getElem.1 h.good.disj j k hj hk h1 z hz y hy e.symm
      exact List.pairwise_iff_getElem.1 h.good.disj k j hk hj h1 y hy z hz
    · rw [hg]
      split
      · rename_i e; subst e; exact (h.head k hi).ins b
      exact h.head i hi
    · rw [hg]
      split
      · rename_i e; subst e; exact mem_ins.2 (.inr (h.sub k hi q hq))
      exact h.sub i hi q hq
    · rw [hg]
      split
      · rename_i e; subst e
        rw [(h.head k hi).2.1, hf] at hfk
        cases hfk
      exact h.same i hi hf
    · rw [hg] at hq
      split at hq
      · rename_i e; subst e
        rcases mem_ins.1 hq with rfl | hq
        · right; simp
        exact (h.new k hi q hq).imp id fun h1 => by simp [h1]
      exact (h.new i hi q hq).imp id fun h1 => by simp [h1]
    · have := h.cnt
      rw [sum_set hk (len_ins _ _)]
      simp only [List.length_append, List.length_cons, List.length_nil]
      omega
    · rw [hg]
      split
      · rename_i e; subst e; exact over_ins ha (h.over k hi ho)
      exact h.over i hi ho
    · refine ⟨by simp [(h.left q hq).1], fun i hi hf => ?_⟩
      rw [hg]
      split
      · rename_i e; subst e
        cases hab : admB (insC (s.1.getD k default) b) q with
        | false => rfl
        | true =>
          have := (adm_iff.1 hab).less ha.val ⟨rfl, rfl, rfl, rfl, rfl, rfl, rfl⟩ (fun x hx => mem_ins.2 (.inr hx)) (by rw [sum_ins]; have := (piB_inv ha.pi).2.1; omega) (by rw [len_ins]; omega)
          have h2 := (h.left q hq).2 k hi hf
          rw [adm_iff.2 this] at h2
          cases h2
      exact (h.left q hq).2 i hi hf
    · rcases List.mem_append.1 hq with h1 | h1
      · rcases h.inl q h1 with h2 | ⟨i, hi, h2⟩
        · exact .inl h2
        refine .inr ⟨i, hi, ?_⟩
        rw [hg]
        split
        · rename_i e; subst e; exact mem_ins.2 (.inr h2)
        exact h2
      obtain rfl : q = b := by simpa using h1
      exact .inr ⟨k, hkx, by rw [hg, if_pos rfl]; exact mem_ins.2 (.inl rfl)⟩
    rw [hg]
    split
    · rename_i e; subst e
      refine hasB_no.2 fun y hy => ?_
      rcases mem_ins.1 hy with rfl | hy
      · exact fun e => hB q (h.left q hq).1 e.symm
      exact hasB_no.1 (h.excl q hq k hi) y hy
    exact h.excl q hq i hi
theorem CI.fold {x : List Container} {f : Flight} : ∀ (bags : List Piece) {B : List Piece} {s : List Container × List Piece}, CI x f B s → (∀ b ∈ bags, ∀ i, i < x.length → hasB (x.getD i default).pieces b.plate = false) → DisP (B ++ bags) → CI x f (B ++ bags) (asgF f s bags)
  | [], B, s, h, _, _ => by rw [List.append_nil]; exact h
  | b :: bags, B, s, h, hx, hd => by
    unfold DisP at hd
    rw [List.pairwise_append] at hd
    have := CI.fold bags (h.step (b := b) (fun q hq => hd.2.2 q hq b (by simp)) (hx b (by simp))) (fun c hc => hx c (by simp [hc])) (by
      unfold DisP
      rw [List.append_assoc, List.pairwise_append]
      exact hd)
    rwa [List.append_assoc] at this
end Go.Proofs.Ytmdohphcolffmaa
namespace Go.Proofs.Ytmdohphcolffmaa
open Go.RowKit
set_option linter.unusedSimpArgs false
set_option linter.unusedVariables false
set_option maxRecDepth 100000
abbrev bagP (l : List Int) (i k : Nat) : Piece := ⟨platesP (100 + ((i * 7 % 40 : Nat) : Int)), (pieceV l k 1).weight, (pieceV l k 1).category⟩
def bagS (l : List Int) : Nat → Nat → List Piece → Nat × List Piece
  | 0, k, a => (k, a)
  | n + 1, k, a => bagS l n (nx3 l k) (a ++ [bagP l a.length k])
def bagsV (l : List Int) (k most : Nat) : Nat × List Piece := bagS l (idxV l k (most + 1)) (rawN l k) []
theorem plates_hi {j : Nat} (h : j < 40) : platesP (100 + (j : Int)) = ⟨0, 118, 1000 + (j : Int)⟩ := by
  unfold platesP gmod
  have h1 : Int.tmod (100 + (j : Int)) 1000 = 100 + j := Int.tmod_eq_of_lt (by omega) (by omega)
  rw [if_neg (by omega), h1, if_neg (by omega)]
  refine Plate.mk.injEq _ _ _ _ _ _ |>.mpr ⟨by omega, by omega, by omega⟩
structure GoodB (out : List Piece) : Prop where
  plate : ∀ i, i < out.length → (out.getD i default).plate = ⟨0, 118, 1000 + ((i * 7 % 40 : Nat) : Int)⟩
  ok : ∀ b ∈ out, piB b = true
theorem bagS_good (l : List Int) : ∀ (n k : Nat) (a : List Piece), GoodB a → GoodB (bagS l n k a).2 ∧ (bagS l n k a).2.length = a.length + n
  | 0, k, a, h => ⟨h, rfl⟩
  | n + 1, k, a, h => by
    have hb : (bagP l a.length k).plate = ⟨0, 118, 1000 + ((a.length * 7 % 40 : Nat) : Int)⟩ := plates_hi (by omega)
    have hp : piB (bagP l a.length k) = true := by
      have h1 := piece_ok l k (n := 1)
      have h2 : plB (bagP l a.length k).plate = true := by
        rw [hb]
        unfold plB
        simp
        omega
      unfold piB at h1 ⊢
      simp only [Bool.and_eq_true] at h1 ⊢
      exact ⟨⟨h2, h1.1.2⟩, h1.2⟩
    have := bagS_good l n (nx3 l k) (a ++ [bagP l a.length k]) ⟨fun i hi => by
      simp only [List.length_append, List.length_cons, List.length_nil] at hi
      rcases Nat.lt_or_ge i a.length with h1 | h1
      · rw [List.getD_eq_getElem?_getD, List.getElem?_append_left h1, ← List.getD_eq_getElem?_getD]; exact h.plate i h1
      · obtain rfl : i = a.length := by omega
        rw [List.getD_eq_getElem?_getD, List.getElem?_append_right (Nat.le_refl _)]
        simpa using hb, fun b hb' => by
      rcases List.mem_append.1 hb' with h1 | h1
      · exact h.ok b h1
      obtain rfl : b = bagP l a.length k := by simpa using h1
      exact hp⟩
    refine ⟨this.1, ?_⟩
    show (bagS l n (nx3 l k) (a ++ [bagP l a.length k])).2.length = _
    rw [this.2]; simp; omega
theorem bagsV_good (l : List Int) (k most : Nat) : GoodB (bagsV l k most).2 ∧ (bagsV l k most).2.length ≤ most := by
  have hk := idxV_lt l k (n := most + 1) (by omega)
  have := bagS_good l (idxV l k (most + 1)) (rawN l k) [] ⟨fun i hi => by simp at hi, fun b hb => by cases hb⟩
  exact ⟨this.1, by unfold bagsV; rw [this.2]; simp; omega⟩
theorem GoodB.dis {out : List Piece} (h : GoodB out) (hl : out.length ≤ 40) : DisP out := by
  unfold DisP
  rw [List.pairwise_iff_getElem]
  intro i j hi hj hij e
  have h1 := h.plate i hi
  have h2 := h.plate j hj
  rw [getD_el hi] at h1
  rw [getD_el hj] at h2
  rw [h1, h2] at e
  injection e with _ _ e
  omega
theorem GoodB.air {out : List Piece} (h : GoodB out) {b : Piece} (hb : b ∈ out) : b.plate.airline = 118 := by
  obtain ⟨i, hi, rfl⟩ := List.getElem_of_mem hb
  have := h.plate i hi
  rw [getD_el hi] at this
  rw [this]
theorem InvB.no_bag {n : Nat} {xs : List Container} (h : InvB n xs) {p : Plate} (hp : p.airline ≠ 117) : ∀ i, i < xs.length → hasB (xs.getD i default).pieces p = false := fun i hi => hasB_no.2 fun x hx => by
  rw [getD_c hi] at hx
  have := (h.below _ (List.getElem_mem hi) x hx).2.1
  intro e
  rw [e] at this
  exact hp this
theorem find_2 (xs : List Container) (p : Plate) : (findL xs p).2 = xs.any fun c => hasB c.pieces p := by
  unfold findL
  cases hf : xs.find? fun c => hasB c.pieces p with
  | none =>
    rw [List.find?_eq_none] at hf
    simp only
    exact (List.any_eq_false.2 fun c hc => hf c hc).symm
  | some c =>
    simp only
    exact (List.any_eq_true.2 ⟨c, List.mem_of_find?_eq_some hf, by simpa using List.find?_some hf⟩).symm
theorem find_no {xs : List Container} {p : Plate} (h : ∀ i, i < xs.length → hasB (xs.getD i default).pieces p = false) : (findL xs p).2 = false := by
  rw [find_2, List.any_eq_false]
  intro c hc
  obtain ⟨i, hi, rfl⟩ := List.getElem_of_mem hc
  have := h i hi
  rw [getD_c hi] at this
  rw [this]; decide
/-- The bags go through. -/
theorem asgE_0 {x : List Container} {bags : List Piece} (hd : DisP bags) (hp : ∀ b ∈ bags, piB b = true) (hf : ∀ b ∈ bags, (findL x b.plate).2 = false) : asgE x bags = 0 := by
  unfold asgE
  have : ∀ y ∈ (List.range bags.length).map (errB x bags), y = 0 := fun y hy => by
    obtain ⟨i, hi, rfl⟩ := List.mem_map.1 hy
    have hi := List.mem_range.1 hi
    have hm : bags.getD i default ∈ bags := by rw [getD_el hi]; exact List.getElem_mem hi
    unfold errB
    rw [if_neg (by rw [hp _ hm]; decide), if_neg]
    rw [hf _ hm, Bool.false_or, Bool.not_eq_true, List.any_eq_false]
    intro z hz
    rw [decide_eq_true_eq]
    obtain ⟨k, hk, rfl⟩ := List.mem_take_iff_getElem.1 hz
    rw [getD_el hi]
    exact List.pairwise_iff_getElem.1 hd k i (by omega) hi (by omega)
  unfold orL
  rw [List.find?_eq_none.2 fun y hy => by simp [this y hy]]
  rfl
theorem asgV_ok {x : List Container} {f : Flight} {bags : List Piece} (hc : chkL x = 0) (he : asgE x bags = 0) : asgV x f bags = ((asgF f (x, []) (ordV bags)).1, (asgF f (x, []) (ordV bags)).2, 0) := by
  unfold asgV
  rw [if_neg (by simp [hc]), if_neg (by simp [he])]
end Go.Proofs.Ytmdohphcolffmaa
