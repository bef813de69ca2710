import Derived.Test.YtjgbbffcjbmjmaaGc
namespace Go.Proofs.Ytjgbbffcjbmjmaa
open Go.RowKit
set_option linter.unusedSimpArgs false
set_option linter.unusedVariables false

/-! ### DescribeProves -/
def bc (l : List Bool) : List AV := l.map fun b => .v (.bool b)
theorem bc_len (l : List Bool) : (bc l).length = l.length := by simp [bc]
theorem bc_get {p : List Int} {F j k : Nat} (h : k < F) : (bc (tkL p F j))[k]? = some (.v (.bool (tkB p j k))) := by
  unfold bc tkL
  rw [List.map_map, range_get h]
  rfl
theorem splice_one {l : List AV} {k : Nat} {x : AV} (h : k < l.length) : splice l k [x] = l.set k x := by
  rw [List.set_eq_take_append_cons_drop, if_pos h]
  unfold splice
  simp
theorem bc_set {p : List Int} {F j k : Nat} (h : k < F) (hk : gI p j = (k : Int)) : splice (bc (tkL p F j)) k [.v (.bool true)] = bc (tkL p F (j + 1)) := by
  rw [splice_one (by rw [bc_len, tkL_len]; exact h)]
  have h2 := tkL_set (p := p) (F := F) hk
  have e : ∀ l : List Bool, bc l = (l.map bv).flatten := fun l => by
    induction l with
    | nil => rfl
    | cons a l ih => show AV.v (.bool a) :: bc l = [AV.v (.bool a)] ++ (l.map bv).flatten; rw [ih]; rfl
  have e2 : ((tkL p F j).map bv).set k (bv true) = ((tkL p F j).set k true).map bv := by rw [List.map_set]
  rw [e (tkL p F (j + 1)), ← h2, e2, ← e]
  unfold bc
  rw [List.map_set]
theorem bc_zero {p : List Int} {F : Nat} : bc (tkL p F 0) = List.replicate F (.v (.bool false)) := by
  have h := tkL_zero (p := p) (F := F)
  have e : (tkL p F 0) = List.replicate F false := by
    unfold tkL
    rw [show tkB p 0 = fun _ => false from funext fun k => rfl]
    exact List.map_const' ..|>.trans (by simp)
  rw [e]
  unfold bc
  simp
theorem C7 {l ch : List Int} : Fn Try.prog 7 [] [.ro (l.map iv), .ro (ch.map iv)] [.v (.bool true)] [] := by
  refine Spec.small 1 rfl fun hch => ?_
  rw [List.length_map] at hch
  have hl : (l.take 2000).length ≤ 2000 := by simp; omega
  have h12a := C12 (k0 := 0) (n := 8) hl (by decide)
  have h12b := C12 (k0 := (descsV (l.take 2000) 0 8).2) (n := 8) hl (by decide)
  have hv1 := descsV_ok (l.take 2000) 0 8
  have hv2 := descsV_ok (l.take 2000) (descsV (l.take 2000) 0 8).2 8
  have hn1 := descsV_len (l.take 2000) 0 8
  have hn2 := descsV_len (l.take 2000) (descsV (l.take 2000) 0 8).2 8
  obtain ⟨x, hx⟩ : ∃ x, (descsV (l.take 2000) 0 8).1 = x := ⟨_, rfl⟩
  obtain ⟨y, hy⟩ : ∃ y, (descsV (l.take 2000) (descsV (l.take 2000) 0 8).2 8).1 = y := ⟨_, rfl⟩
  rw [hx] at h12a hv1 hn1
  rw [hy] at h12b hv2 hn2
  have hsx := szs_of hv1
  have hsy := szs_of hv2
  have he1 := errs_ok (x := x) (y := y) (by omega) (by omega) hv1 hv2
  have hG := match_good he1
  have h22 := C22 hsx hsy
  rw [he1] at h22
  obtain ⟨m, hm⟩ : ∃ m, matchF x y = m := ⟨_, rfl⟩
  rw [hm] at hG h22
  have hlaw := chL_law (ch := ch) hG
  have hrl := hG.rl
  have hcl := hG.cl
  have hpg := chL_prg (ch := ch) (F := y.length) x.length
  have hprb : ∀ q, q < x.length → 0 ≤ term (fun i k => gI m.rows i + gI m.cols k) (gI (chL ch y.length x.length)) q ∧ term (fun i k => gI m.rows i + gI m.cols k) (gI (chL ch y.length x.length)) q ≤ 1780 := fun q hq => by
    have h1 := hG.r0 q hq
    have h2 := hpg.rg q hq
    unfold term
    dsimp only
    split
    · have h3 := hG.c0 (gI (chL ch y.length x.length) q).toNat (by omega)
      omega
    · omega
  refine Spec.body Try.func7 rfl Try.ntmps7 (by simp) rfl ?_; intro S0 own0 v0 w0
  (refine AW.seq_k ?_; intro K hK)
  refine AW.region ?_
  refine awP (op_assign rfl rfl) ?_
  refine AWL.nil ?_
  (refine hK _ ?_; clear hK K; (try simp only [nA, Nat.reduceBEq, Nat.reduceEqDiff, ↓reduceIte, Nat.reduceAdd, Nat.reduceSub]))
  (refine AW.seq_k ?_; intro K hK)
  refine AW.region ?_
  refine awP (op_move rfl rfl) ?_
  refine awJ (op_callB rfl en11 (C11) (RL.cons (by first | exact View.same rfl | exact View.nil | exact View.rof | exact View.src .ro | exact View.src .rof | exact View.src (.sl rfl rfl) | exact View.ptr rfl rfl rfl) (RL.nil))) ?_; (try simp only [nA, Nat.reduceBEq, Nat.reduceEqDiff, ↓reduceIte, Nat.reduceAdd, Nat.reduceSub])
  refine awP (op_assign rfl rfl) ?_
  refine AWL.nil ?_
  (refine hK _ ?_; clear hK K; (try simp only [nA, Nat.reduceBEq, Nat.reduceEqDiff, ↓reduceIte, Nat.reduceAdd, Nat.reduceSub]))
  (refine AW.seq_k ?_; intro K hK)
  refine AW.region ?_
  refine awP (op_move rfl rfl) ?_
  refine awJ (op_call1 rfl en12 h12a (by exact rfl) (RL.cons .ptr (RL.cons (.base (by first | exact View.same rfl | exact View.nil | exact View.rof | exact View.src .ro | exact View.src .rof | exact View.src (.sl rfl rfl) | exact View.ptr rfl rfl rfl)) (RL.nil))) (by exact ⟨_, _, _, rfl, rfl, rfl⟩) (by exact rfl) (by exact rfl) (by exact rfl)) ?_; (try simp only [nA, Nat.reduceBEq, Nat.reduceEqDiff, ↓reduceIte, Nat.reduceAdd, Nat.reduceSub])
  refine awP (op_move rfl rfl) ?_
  refine awJ (op_call1 rfl en12 h12b (by exact rfl) (RL.cons .ptr (RL.cons (.base (by first | exact View.same rfl | exact View.nil | exact View.rof | exact View.src .ro | exact View.src .rof | exact View.src (.sl rfl rfl) | exact View.ptr rfl rfl rfl)) (RL.nil))) (by exact ⟨_, _, _, rfl, rfl, rfl⟩) (by exact rfl) (by exact rfl) (by exact rfl)) ?_; (try simp only [nA, Nat.reduceBEq, Nat.reduceEqDiff, ↓reduceIte, Nat.reduceAdd, Nat.reduceSub])
  refine awP (op_assign rfl rfl) ?_
  refine awP (op_assign rfl rfl) ?_
  refine AWL.nil ?_
  (refine hK _ ?_; clear hK K; (try simp only [nA, Nat.reduceBEq, Nat.reduceEqDiff, ↓reduceIte, Nat.reduceAdd, Nat.reduceSub]))
  (refine AW.seq_k ?_; intro K hK)
  refine AW.region ?_
  refine awP (op_move rfl rfl) ?_
  refine awP (op_move rfl rfl) ?_
  refine awJ (op_call (b := false) rfl en22 h22 (RL.cons (by first | exact View.same rfl | exact View.nil | exact View.rof | exact View.src .ro | exact View.src .rof | exact View.src (.sl rfl rfl) | exact View.ptr rfl rfl rfl) (RL.cons (by first | exact View.same rfl | exact View.nil | exact View.rof | exact View.src .ro | exact View.src .rof | exact View.src (.sl rfl rfl) | exact View.ptr rfl rfl rfl) (RL.nil))) rfl (fun h => by cases h) rfl rfl) ?_; (try simp only [nA, Nat.reduceBEq, Nat.reduceEqDiff, ↓reduceIte, Nat.reduceAdd, Nat.reduceSub])
  refine awP (op_move rfl rfl) ?_
  refine awP (op_extract rfl rfl rfl) ?_
  refine awP (op_extract rfl rfl rfl) ?_
  refine awJ (op_alloc rfl ze42 rfl) ?_; (try simp only [nA, Nat.reduceBEq, Nat.reduceEqDiff, ↓reduceIte, Nat.reduceAdd, Nat.reduceSub])
  refine awJ (op_store rfl rfl rfl rfl rfl rfl sz42 rfl (Nat.le_of_ble_eq_true rfl) rfl) ?_; (try simp only [nA, Nat.reduceBEq, Nat.reduceEqDiff, ↓reduceIte, Nat.reduceAdd, Nat.reduceSub])
  refine awP (op_assign rfl rfl) ?_
  refine AWL.nil ?_
  (refine hK _ ?_; clear hK K; (try simp only [nA, Nat.reduceBEq, Nat.reduceEqDiff, ↓reduceIte, Nat.reduceAdd, Nat.reduceSub]))
  (refine AW.seq_k ?_; intro K hK)
  (refine AW.seq_k ?_; intro K hK)
  refine AW.region (AWL.quiet ?_)
  refine aqP (op_move rfl rfl) ?_
  (first | refine aqP (op_neq rfl rfl rfl) ?_ | refine aqP (op_sneq rfl rfl rfl) ?_)
  refine aqP (op_move rfl rfl) ?_
  refine' aqOr' [_, _, _, _, _, _] [30,31,32,33,34,35] rfl rfl rfl rfl rfl rfl rfl rfl rfl rfl rfl rfl (fun hb => ?_) ?_; rotate_left
  ·
   (try simp only [hcS] at hb)
   (first | refine aqP (op_fa_ptr rfl rfl rfl fl42_1 (by exact sz23) (by decide) rfl) ?_ | refine aqP (op_fa_rop rfl rfl fl42_1 (by exact sz23) (by decide) (Nat.le_of_ble_eq_true rfl) rfl) ?_)
   (first | refine aqR (op_load_ptr1 rfl rfl rfl rfl ag23 rfl rfl) ?_ | refine aqR (op_load_rop1 rfl rfl ag23) ?_)
   (first | refine aqP (op_len_ro rfl rfl Try.underlying23 (by first | exact .inr (.inl ⟨_, rfl, rfl⟩) | exact .inl rfl | exact .inr (.inr (.inl ⟨_, rfl, rfl⟩)) | exact .inr (.inr (.inr ⟨rfl, rfl⟩)))) ?_ | refine aqP (op_len_sl rfl rfl rfl Try.underlying23) ?_ | refine aqP (op_len_str rfl rfl Try.underlying23) ?_)
   refine aqP (op_move rfl rfl) ?_
   (first | refine aqP (op_len_ro rfl rfl Try.underlying22 (by first | exact .inr (.inl ⟨_, rfl, rfl⟩) | exact .inl rfl | exact .inr (.inr (.inl ⟨_, rfl, rfl⟩)) | exact .inr (.inr (.inr ⟨rfl, rfl⟩)))) ?_ | refine aqP (op_len_sl rfl rfl rfl Try.underlying22) ?_ | refine aqP (op_len_str rfl rfl Try.underlying22) ?_)
   (first | refine aqP (op_neq rfl rfl rfl) ?_ | refine aqP (op_sneq rfl rfl rfl) ?_)
   (refine aqSeg rfl rfl rfl ?_; repeat (first | exact fun _ _ => rfl | refine upd_out rfl ?_ | refine era_out rfl ?_))
  (try simp only [nA, Nat.reduceBEq, Nat.reduceEqDiff, ↓reduceIte, Nat.reduceAdd, Nat.reduceSub])
  refine aqP (op_move rfl rfl) ?_
  refine' aqOr' [_, _, _, _, _, _] [38,39,40,41,42,43] rfl rfl rfl rfl rfl rfl rfl rfl rfl rfl rfl rfl (fun hb => ?_) ?_; rotate_left
  ·
   (try simp only [hcS] at hb)
   (first | refine aqP (op_fa_ptr rfl rfl rfl fl42_2 (by exact sz23) (by decide) rfl) ?_ | refine aqP (op_fa_rop rfl rfl fl42_2 (by exact sz23) (by decide) (Nat.le_of_ble_eq_true rfl) rfl) ?_)
   (first | refine aqR (op_load_ptr1 rfl rfl rfl rfl ag23 rfl rfl) ?_ | refine aqR (op_load_rop1 rfl rfl ag23) ?_)
   (first | refine aqP (op_len_ro rfl rfl Try.underlying23 (by first | exact .inr (.inl ⟨_, rfl, rfl⟩) | exact .inl rfl | exact .inr (.inr (.inl ⟨_, rfl, rfl⟩)) | exact .inr (.inr (.inr ⟨rfl, rfl⟩)))) ?_ | refine aqP (op_len_sl rfl rfl rfl Try.underlying23) ?_ | refine aqP (op_len_str rfl rfl Try.underlying23) ?_)
   refine aqP (op_move rfl rfl) ?_
   (first | refine aqP (op_len_ro rfl rfl Try.underlying22 (by first | exact .inr (.inl ⟨_, rfl, rfl⟩) | exact .inl rfl | exact .inr (.inr (.inl ⟨_, rfl, rfl⟩)) | exact .inr (.inr (.inr ⟨rfl, rfl⟩)))) ?_ | refine aqP (op_len_sl rfl rfl rfl Try.underlying22) ?_ | refine aqP (op_len_str rfl rfl Try.underlying22) ?_)
   (first | refine aqP (op_neq rfl rfl rfl) ?_ | refine aqP (op_sneq rfl rfl rfl) ?_)
   (refine aqSeg rfl rfl rfl ?_; repeat (first | exact fun _ _ => rfl | refine upd_out rfl ?_ | refine era_out rfl ?_))
  (try simp only [nA, Nat.reduceBEq, Nat.reduceEqDiff, ↓reduceIte, Nat.reduceAdd, Nat.reduceSub])
  refine AQ.nil ?_
  (refine hK _ ?_; clear hK K; (try simp only [nA, Nat.reduceBEq, Nat.reduceEqDiff, ↓reduceIte, Nat.reduceAdd, Nat.reduceSub]))
  refine AW.cond rfl rfl rfl (fun hc => ?_) (fun hc => ?_)
  · first | (cases hc; done) | (simp at hc; done) | (simp at hc; omega)
  ·
   (try simp only [hcS] at hc); have hc1 := hc; skip
   refine AW.skip ?_
   (refine hK _ ?_; clear hK K; (try simp only [nA, Nat.reduceBEq, Nat.reduceEqDiff, ↓reduceIte, Nat.reduceAdd, Nat.reduceSub]))
   (refine AW.seq_k ?_; intro K hK)
   refine AW.region ?_
   refine awP (op_assign rfl rfl) ?_
   refine awP (op_assign rfl rfl) ?_
   refine AWL.nil ?_
   (refine hK _ ?_; clear hK K; (try simp only [nA, Nat.reduceBEq, Nat.reduceEqDiff, ↓reduceIte, Nat.reduceAdd, Nat.reduceSub]))
   (refine AW.seq_k ?_; intro K hK)
   refine AW.region ?_
   refine awJ (op_alloc rfl ze52 rfl) ?_; (try simp only [nA, Nat.reduceBEq, Nat.reduceEqDiff, ↓reduceIte, Nat.reduceAdd, Nat.reduceSub])
   refine AWL.nil ?_
   (refine hK _ ?_; clear hK K; (try simp only [nA, Nat.reduceBEq, Nat.reduceEqDiff, ↓reduceIte, Nat.reduceAdd, Nat.reduceSub]))
   (refine AW.seq_k ?_; intro K hK)
   (refine AW.seq_k ?_; intro K hK)
   refine AW.region ?_
   refine awP (op_move rfl rfl) ?_
   refine awP (op_len_ro (n := x.length) rfl rfl Try.underlying22 (.inr (.inl ⟨_, rfl, by simp⟩))) ?_
   refine awP (op_move rfl rfl) ?_
   refine AWL.nil ?_
   (refine hK _ ?_; clear hK K; (try simp only [nA, Nat.reduceBEq, Nat.reduceEqDiff, ↓reduceIte, Nat.reduceAdd, Nat.reduceSub]))
   refine AW.block ?_
   refine AW.loopI (fun (i : Nat) => [(1, .ro (ch.map iv)), (6, .ro (x.map Desc.av)), (7, .ro (y.map Desc.av)), (8, .ptr 1 2 0 0), (10, .v (.int .i64 (sumN i (term (scD x y) (gI (chL ch y.length x.length)))))), (11, .v (.int .i64 (sumN i (term (fun i k => gI m.rows i + gI m.cols k) (gI (chL ch y.length x.length)))))), (12, .ptr 2 3 0 0), (45, .ro (x.map Desc.av)), (46, .v (.int .i64 (x.length : Nat))), (47, .v (.int .i64 (i : Nat)))]) (fun i => ⟨[(1, .own 58 [srcRow (l.take 2000) (descsV (l.take 2000) (descsV (l.take 2000) 0 8).2 8).2]), (2, .own 42 [m.av]), (3, .own 52 [bc (tkL (chL ch y.length x.length) 8 i)])], 4⟩) (fun i => i ≤ x.length) (fun i => x.length - i) 0 (Nat.zero_le _) ⟨rfl, rfl, rfl, rfl, rfl, rfl, rfl, rfl, rfl, rfl, trivial⟩ (by rw [bc_zero]; rfl) ?_; intro i ρ hi; simp only [updL]; (try simp only [nA, Nat.reduceBEq, Nat.reduceEqDiff, ↓reduceIte, Nat.reduceAdd, Nat.reduceSub])
   (refine AW.seq_k ?_; intro K hK)
   refine AW.region ?_
   refine awP (op_lss rfl rfl rfl) ?_
   refine AWL.nil ?_
   (refine hK _ ?_; clear hK K; (try simp only [nA, Nat.reduceBEq, Nat.reduceEqDiff, ↓reduceIte, Nat.reduceAdd, Nat.reduceSub]))
   (refine AW.seq_k ?_; intro K hK)
   refine AW.cond rfl rfl rfl (fun hc => ?_) (fun hc => ?_)
   ·
    (try simp only [hcS] at hc); have hc2 := hc; skip
    refine AW.skip ?_
    (refine hK _ ?_; clear hK K; (try simp only [nA, Nat.reduceBEq, Nat.reduceEqDiff, ↓reduceIte, Nat.reduceAdd, Nat.reduceSub]))
    (refine AW.seq_k ?_; intro K hK)
    refine AW.block ?_
    (refine AW.seq_k ?_; intro K hK)
    refine AW.region ?_
    refine awP (op_move rfl rfl) ?_
    refine awP (op_assign rfl rfl) ?_
    refine AWL.nil ?_
    (refine hK _ ?_; clear hK K; (try simp only [nA, Nat.reduceBEq, Nat.reduceEqDiff, ↓reduceIte, Nat.reduceAdd, Nat.reduceSub]))
    (refine AW.seq_k ?_; intro K hK)
    (refine AW.seq_k ?_; intro K hK)
    refine AW.region (AWL.quiet ?_)
    refine aqP (op_move rfl rfl) ?_
    refine aqP (op_move rfl rfl) ?_
    refine aqP (op_len_ro (n := ch.length) rfl rfl Try.underlying23 (.inr (.inl ⟨_, rfl, by simp⟩))) ?_
    refine aqP (op_geq rfl rfl rfl) ?_
    refine aqP (op_move rfl rfl) ?_
    refine' aqOr' [_, _, _] [55,56,57] rfl rfl rfl rfl rfl rfl rfl rfl rfl rfl rfl rfl (fun hb => ?_) ?_; rotate_left
    ·
     (try simp only [hcS] at hb)
     refine aqP (op_move rfl rfl) ?_
     refine aqP (op_len_ro (n := y.length) rfl rfl Try.underlying22 (.inr (.inl ⟨_, rfl, by simp⟩))) ?_
     (first | refine aqP (op_eql rfl rfl rfl) ?_ | refine aqP (op_seql rfl rfl rfl) ?_)
     (refine aqSeg rfl rfl rfl ?_; repeat (first | exact fun _ _ => rfl | refine upd_out rfl ?_ | refine era_out rfl ?_))
    (try simp only [nA, Nat.reduceBEq, Nat.reduceEqDiff, ↓reduceIte, Nat.reduceAdd, Nat.reduceSub])
    refine AQ.nil ?_
    (refine hK _ ?_; clear hK K; (try simp only [nA, Nat.reduceBEq, Nat.reduceEqDiff, ↓reduceIte, Nat.reduceAdd, Nat.reduceSub]))
    refine AW.cond rfl rfl rfl (fun hc => ?_) (fun hc => ?_)
    ·
     (try simp only [hcS] at hc); have hc3 := hc; have hstop : y.length = 0 ∨ ch.length ≤ i := (by omega); obtain ⟨hq1, hq2⟩ := hlaw; rw [chL_rest (sc := scD x y) hstop hi, chL_rest (sc := (fun i k => gI m.rows i + gI m.cols k)) hstop hi] at hq1; rw [chL_rest (sc := scD x y) hstop hi] at hq2
     refine AW.exit ?_; (try simp only [thenE, inBlk, Nat.reduceEqDiff, ↓reduceIte])
     clear hK K
     clear hK K
     (refine hK _ ?_; clear hK K; (try simp only [nA, Nat.reduceBEq, Nat.reduceEqDiff, ↓reduceIte, Nat.reduceAdd, Nat.reduceSub]))
     (refine AW.seq_k ?_; intro K hK)
     refine AW.region (AWL.quiet ?_)
     refine aqP (op_move rfl rfl) ?_
     refine aqP (op_move rfl rfl) ?_
     refine aqP (op_leqT rfl rfl rfl hq1) ?_
     refine aqP (op_move rfl rfl) ?_
     refine' aqAnd' [_, _, _, _] [100,101,102,103] rfl rfl rfl rfl rfl rfl rfl rfl rfl rfl rfl rfl (fun hb => ?_) ?_; rotate_left
     ·
      (try simp only [hcS] at hb)
      refine aqP (op_move rfl rfl) ?_
      (first | refine aqP (op_fa_ptr rfl rfl rfl fl42_3 (by exact sz3) (by decide) rfl) ?_ | refine aqP (op_fa_rop rfl rfl fl42_3 (by exact sz3) (by decide) (Nat.le_of_ble_eq_true rfl) rfl) ?_)
      (first | refine aqR (op_load_ptr1 rfl rfl rfl rfl ag3 rfl rfl) ?_ | refine aqR (op_load_rop1 rfl rfl ag3) ?_)
      refine aqP (op_leqT rfl rfl rfl hq2) ?_
      (refine aqSeg rfl rfl rfl ?_; repeat (first | exact fun _ _ => rfl | refine upd_out rfl ?_ | refine era_out rfl ?_))
     (try simp only [nA, Nat.reduceBEq, Nat.reduceEqDiff, ↓reduceIte, Nat.reduceAdd, Nat.reduceSub])
     refine aqP (op_move rfl rfl) ?_
     refine' aqAnd' [_] [106] rfl rfl rfl rfl rfl rfl rfl rfl rfl rfl rfl rfl (fun hb => ?_) ?_; rotate_left
     ·
      (try simp only [hcS] at hb)
      refine aqQ (op_callQ (b := true) rfl en20 (C20) (RL.nil) rfl) ?_; (try simp only [nA, Nat.reduceBEq, Nat.reduceEqDiff, ↓reduceIte, Nat.reduceAdd, Nat.reduceSub])
      (refine aqSeg rfl rfl rfl ?_; repeat (first | exact fun _ _ => rfl | refine upd_out rfl ?_ | refine era_out rfl ?_))
     (try simp only [nA, Nat.reduceBEq, Nat.reduceEqDiff, ↓reduceIte, Nat.reduceAdd, Nat.reduceSub])
     refine aqP (op_assign rfl rfl) ?_
     refine AQ.nil ?_
     (refine hK _ ?_; clear hK K; (try simp only [nA, Nat.reduceBEq, Nat.reduceEqDiff, ↓reduceIte, Nat.reduceAdd, Nat.reduceSub]))
     skip
     refine AW.ret ?_; (try simp only [thenE, inBlk, Nat.reduceEqDiff, ↓reduceIte]); exact RQ.of0 rfl (.tmp (Nat.le_of_ble_eq_true rfl) rfl rfl .nil)
    ·
     (try simp only [hcS] at hc); have hc3 := hc; have hns : ¬ (y.length = 0 ∨ ch.length ≤ i) := (by omega); have hi2 : i < x.length := (by omega); have gm := gmod_bd (x := gI ch i) (n := (y.length : Nat)) (by omega); have hvn : gmod (gI ch i) (y.length : Nat) = ((gmod (gI ch i) (y.length : Nat)).toNat : Nat) := (by omega); have hv8 : (gmod (gI ch i) (y.length : Nat)).toNat < 8 := (by omega); have hvF : (gmod (gI ch i) (y.length : Nat)).toNat < y.length := (by omega); have hb1 := sumN_bd (n := i) (g := term (scD x y) (gI (chL ch y.length x.length))) (B := 890) (fun q _ => term_bd scD_bd); have hb2 := sumN_bd (n := i) (g := term (fun i k => gI m.rows i + gI m.cols k) (gI (chL ch y.length x.length))) (B := 1780) (fun q hq => hprb q (by omega)); have hsd := scD_bd (x := x) (y := y) i (gmod (gI ch i) (y.length : Nat)).toNat; have hr0 := hG.r0 i hi2; have hc0 := hG.c0 (gmod (gI ch i) (y.length : Nat)).toNat hvF
     refine AW.skip ?_
     (refine hK _ ?_; clear hK K; (try simp only [nA, Nat.reduceBEq, Nat.reduceEqDiff, ↓reduceIte, Nat.reduceAdd, Nat.reduceSub]))
     (refine AW.seq_k ?_; intro K hK)
     refine AW.region ?_
     refine awP (op_move rfl rfl) ?_
     refine awP (op_move rfl rfl) ?_
     refine awP (op_ia_ro i rfl (.inl rfl) rfl Try.underlying23 rfl (gI_mapD (by omega)) (by exact sz3) (Nat.le_of_ble_eq_true rfl)) ?_
     (first | refine awR (op_load_ptr1 rfl rfl rfl rfl ag3 rfl rfl) ?_ | refine awR (op_load_rop1 rfl rfl ag3) ?_)
     refine awP (op_move rfl rfl) ?_
     refine awP (op_len_ro (n := y.length) rfl rfl Try.underlying22 (.inr (.inl ⟨_, rfl, by simp⟩))) ?_
     refine awJ (OpQ.j (op_callQ (b := true) rfl en21 (C21 (x := gI ch i) (n := (y.length : Nat)) (by omega)) (RL.cons (by first | exact View.same rfl | exact View.nil | exact View.rof | exact View.src .ro | exact View.src .rof | exact View.src (.sl rfl rfl) | exact View.ptr rfl rfl rfl) (RL.cons (by first | exact View.same rfl | exact View.nil | exact View.rof | exact View.src .ro | exact View.src .rof | exact View.src (.sl rfl rfl) | exact View.ptr rfl rfl rfl) (RL.nil))) rfl)) ?_; (try simp only [nA, Nat.reduceBEq, Nat.reduceEqDiff, ↓reduceIte, Nat.reduceAdd, Nat.reduceSub])
     refine awP (op_assign rfl rfl) ?_
     refine AWL.nil ?_
     (refine hK _ ?_; clear hK K; (try simp only [nA, Nat.reduceBEq, Nat.reduceEqDiff, ↓reduceIte, Nat.reduceAdd, Nat.reduceSub]))
     (refine AW.seq_k ?_; intro K hK)
     (refine AW.seq_k ?_; intro K hK)
     refine AW.region ?_
     refine awP (op_move rfl rfl) ?_
     refine awP (op_ia_arr (gmod (gI ch i) (y.length : Nat)).toNat 1 rfl rfl rfl rfl Try.underlying52 hvn hv8 sz4 (show 0 + (gmod (gI ch i) (y.length : Nat)).toNat * 1 = (gmod (gI ch i) (y.length : Nat)).toNat by omega)) ?_
     refine awR (op_load_ptr1 rfl rfl rfl rfl ag4 (bc_get hv8) rfl) ?_
     refine AWL.nil ?_
     (refine hK _ ?_; clear hK K; (try simp only [nA, Nat.reduceBEq, Nat.reduceEqDiff, ↓reduceIte, Nat.reduceAdd, Nat.reduceSub]))
     refine AW.cond rfl rfl rfl (fun hc => ?_) (fun hc => ?_)
     ·
      (try simp only [hcS] at hc); have hc4 := hc; have hpi := chL_used (R := x.length) (F := y.length) (ch := ch) hns hi2 hvn hc4
      refine AW.exit ?_; (try simp only [thenE, inBlk, Nat.reduceEqDiff, ↓reduceIte])
      clear hK K
      (refine hK _ ?_; clear hK K; (try simp only [nA, Nat.reduceBEq, Nat.reduceEqDiff, ↓reduceIte, Nat.reduceAdd, Nat.reduceSub]))
      refine AW.region ?_
      (first | refine awP (op_addi rfl rfl rfl (by omega)) ?_ | refine awP (op_add rfl rfl rfl rfl) ?_)
      refine awP (op_move rfl rfl) ?_
      skip
      refine AWL.nil ?_
      refine ⟨i + 1, by omega, by omega, ⟨rfl, rfl, rfl, rfl, (by rw [sumN_succ]; unfold term; rw [hpi, if_neg (by omega), Int.add_zero]; rfl), (by rw [sumN_succ]; unfold term; rw [hpi, if_neg (by omega), Int.add_zero]; rfl), rfl, rfl, rfl, rfl, trivial⟩, (by rw [tkL_skip (by rw [hpi]; omega)]), (by first | rfl | trivial)⟩
     ·
      (try simp only [hcS] at hc); have hc4 := hc; have hpi := chL_new (R := x.length) (F := y.length) (ch := ch) hns hi2 hvn hc4
      refine AW.skip ?_
      (refine hK _ ?_; clear hK K; (try simp only [nA, Nat.reduceBEq, Nat.reduceEqDiff, ↓reduceIte, Nat.reduceAdd, Nat.reduceSub]))
      (refine AW.seq_k ?_; intro K hK)
      refine AW.region ?_
      refine awP (op_move rfl rfl) ?_
      refine awP (op_ia_arr (gmod (gI ch i) (y.length : Nat)).toNat 1 rfl rfl rfl rfl Try.underlying52 hvn hv8 sz4 (show 0 + (gmod (gI ch i) (y.length : Nat)).toNat * 1 = (gmod (gI ch i) (y.length : Nat)).toNat by omega)) ?_
      refine awJ (op_store rfl rfl rfl rfl rfl rfl sz4 rfl (by rw [bc_len, tkL_len]; show (gmod (gI ch i) (y.length : Nat)).toNat + 1 ≤ 8; omega) (es' := [bc (tkL (chL ch y.length x.length) 8 (i + 1))]) (by show [splice _ _ [AV.v (.bool true)]] = _; rw [bc_set hv8 hpi])) ?_; (try simp only [nA, Nat.reduceBEq, Nat.reduceEqDiff, ↓reduceIte, Nat.reduceAdd, Nat.reduceSub])
      refine AWL.nil ?_
      (refine hK _ ?_; clear hK K; (try simp only [nA, Nat.reduceBEq, Nat.reduceEqDiff, ↓reduceIte, Nat.reduceAdd, Nat.reduceSub]))
      (refine AW.seq_k ?_; intro K hK)
      refine AW.quiet mix (by kernel_rfl) ?_
      refine aqP (op_move rfl rfl) ?_
      refine aqP (op_move rfl rfl) ?_
      refine aqP (op_move rfl rfl) ?_
      refine aqP (op_ia_ro i rfl (.inl rfl) rfl Try.underlying22 rfl (get_mapD (by omega)) (by exact sz30) (Nat.le_of_ble_eq_true rfl)) ?_
      (first | refine aqR (op_load_ptr rfl rfl rfl rfl ag30 sz30 (Nat.le_of_ble_eq_true rfl) rfl) ?_ | refine aqR (op_load_rop rfl rfl ag30 sz30 (Nat.le_of_ble_eq_true rfl) (by decide) rfl) ?_)
      refine aqP (op_move rfl rfl) ?_
      refine aqP (op_move rfl rfl) ?_
      refine aqP (op_ia_ro (gmod (gI ch i) (y.length : Nat)).toNat rfl (.inl rfl) rfl Try.underlying22 hvn (get_mapD (by omega)) (by exact sz30) (Nat.le_of_ble_eq_true rfl)) ?_
      (first | refine aqR (op_load_ptr rfl rfl rfl rfl ag30 sz30 (Nat.le_of_ble_eq_true rfl) rfl) ?_ | refine aqR (op_load_rop rfl rfl ag30 sz30 (Nat.le_of_ble_eq_true rfl) (by decide) rfl) ?_)
      refine aqQ (op_callQ (b := true) rfl en18 (C18 (a := x.getD i default) (b := y.getD (gmod (gI ch i) (y.length : Nat)).toNat default) (hsx _ (getD_mem (by omega))) (hsy _ (getD_mem (by omega)))) (RL.cons (by first | exact View.same rfl | exact View.nil | exact View.rof | exact View.src .ro | exact View.src .rof | exact View.src (.sl rfl rfl) | exact View.ptr rfl rfl rfl) (RL.cons (by first | exact View.same rfl | exact View.nil | exact View.rof | exact View.src .ro | exact View.src .rof | exact View.src (.sl rfl rfl) | exact View.ptr rfl rfl rfl) (RL.nil))) rfl) ?_; (try simp only [nA, Nat.reduceBEq, Nat.reduceEqDiff, ↓reduceIte, Nat.reduceAdd, Nat.reduceSub])
      refine aqP (op_addi (y := scD x y i (gmod (gI ch i) (y.length : Nat)).toNat) rfl rfl rfl (by omega)) ?_
      refine aqP (op_assign rfl rfl) ?_
      refine AQ.nil ?_
      (refine hK _ ?_; clear hK K; (try simp only [nA, Nat.reduceBEq, Nat.reduceEqDiff, ↓reduceIte, Nat.reduceAdd, Nat.reduceSub]))
      refine AW.quiet mix (by kernel_rfl) ?_
      refine aqP (op_move rfl rfl) ?_
      (first | refine aqP (op_fa_ptr rfl rfl rfl fl42_1 (by exact sz23) (by decide) rfl) ?_ | refine aqP (op_fa_rop rfl rfl fl42_1 (by exact sz23) (by decide) (Nat.le_of_ble_eq_true rfl) rfl) ?_)
      (first | refine aqR (op_load_ptr1 rfl rfl rfl rfl ag23 rfl rfl) ?_ | refine aqR (op_load_rop1 rfl rfl ag23) ?_)
      refine aqP (op_move rfl rfl) ?_
      refine aqP (op_ia_ro i rfl (.inl rfl) rfl Try.underlying23 rfl (gI_mapD (by rw [hG.rl]; omega)) (by exact sz3) (Nat.le_of_ble_eq_true rfl)) ?_
      (first | refine aqR (op_load_ptr1 rfl rfl rfl rfl ag3 rfl rfl) ?_ | refine aqR (op_load_rop1 rfl rfl ag3) ?_)
      (first | refine aqP (op_fa_ptr rfl rfl rfl fl42_2 (by exact sz23) (by decide) rfl) ?_ | refine aqP (op_fa_rop rfl rfl fl42_2 (by exact sz23) (by decide) (Nat.le_of_ble_eq_true rfl) rfl) ?_)
      (first | refine aqR (op_load_ptr1 rfl rfl rfl rfl ag23 rfl rfl) ?_ | refine aqR (op_load_rop1 rfl rfl ag23) ?_)
      refine aqP (op_move rfl rfl) ?_
      refine aqP (op_ia_ro (gmod (gI ch i) (y.length : Nat)).toNat rfl (.inl rfl) rfl Try.underlying23 hvn (gI_mapD (by rw [hG.cl]; omega)) (by exact sz3) (Nat.le_of_ble_eq_true rfl)) ?_
      (first | refine aqR (op_load_ptr1 rfl rfl rfl rfl ag3 rfl rfl) ?_ | refine aqR (op_load_rop1 rfl rfl ag3) ?_)
      (first | refine aqP (op_addi rfl rfl rfl (by omega)) ?_ | refine aqP (op_add rfl rfl rfl rfl) ?_)
      (first | refine aqP (op_addi rfl rfl rfl (by omega)) ?_ | refine aqP (op_add rfl rfl rfl rfl) ?_)
      refine aqP (op_assign rfl rfl) ?_
      refine AQ.nil ?_
      (try simp only [thenE, inBlk, Nat.reduceEqDiff, ↓reduceIte])
      (refine hK _ ?_; clear hK K; (try simp only [nA, Nat.reduceBEq, Nat.reduceEqDiff, ↓reduceIte, Nat.reduceAdd, Nat.reduceSub]))
      refine AW.region ?_
      (first | refine awP (op_addi rfl rfl rfl (by omega)) ?_ | refine awP (op_add rfl rfl rfl rfl) ?_)
      refine awP (op_move rfl rfl) ?_
      skip
      refine AWL.nil ?_
      refine ⟨i + 1, by omega, by omega, ⟨rfl, rfl, rfl, rfl, (by rw [sumN_succ]; show _ = AV.v (.int .i64 (_ + term _ _ i)); unfold term; rw [hpi, if_pos (by omega), Int.toNat_natCast]; rfl), (by rw [sumN_succ]; show _ = AV.v (.int .i64 (_ + term _ _ i)); unfold term; rw [hpi, if_pos (by omega), Int.toNat_natCast]; rfl), rfl, rfl, rfl, rfl, trivial⟩, (by first | rfl | trivial), (by first | rfl | trivial)⟩
   ·
    (try simp only [hcS] at hc); have hc2 := hc; obtain rfl : i = x.length := (by omega); obtain ⟨hq1, hq2⟩ := hlaw
    refine AW.exit ?_; (try simp only [thenE, inBlk, Nat.reduceEqDiff, ↓reduceIte])
    clear hK K
    (refine hK _ ?_; clear hK K; (try simp only [nA, Nat.reduceBEq, Nat.reduceEqDiff, ↓reduceIte, Nat.reduceAdd, Nat.reduceSub]))
    (refine AW.seq_k ?_; intro K hK)
    refine AW.region (AWL.quiet ?_)
    refine aqP (op_move rfl rfl) ?_
    refine aqP (op_move rfl rfl) ?_
    refine aqP (op_leqT rfl rfl rfl hq1) ?_
    refine aqP (op_move rfl rfl) ?_
    refine' aqAnd' [_, _, _, _] [100,101,102,103] rfl rfl rfl rfl rfl rfl rfl rfl rfl rfl rfl rfl (fun hb => ?_) ?_; rotate_left
    ·
     (try simp only [hcS] at hb)
     refine aqP (op_move rfl rfl) ?_
     (first | refine aqP (op_fa_ptr rfl rfl rfl fl42_3 (by exact sz3) (by decide) rfl) ?_ | refine aqP (op_fa_rop rfl rfl fl42_3 (by exact sz3) (by decide) (Nat.le_of_ble_eq_true rfl) rfl) ?_)
     (first | refine aqR (op_load_ptr1 rfl rfl rfl rfl ag3 rfl rfl) ?_ | refine aqR (op_load_rop1 rfl rfl ag3) ?_)
     refine aqP (op_leqT rfl rfl rfl hq2) ?_
     (refine aqSeg rfl rfl rfl ?_; repeat (first | exact fun _ _ => rfl | refine upd_out rfl ?_ | refine era_out rfl ?_))
    (try simp only [nA, Nat.reduceBEq, Nat.reduceEqDiff, ↓reduceIte, Nat.reduceAdd, Nat.reduceSub])
    refine aqP (op_move rfl rfl) ?_
    refine' aqAnd' [_] [106] rfl rfl rfl rfl rfl rfl rfl rfl rfl rfl rfl rfl (fun hb => ?_) ?_; rotate_left
    ·
     (try simp only [hcS] at hb)
     refine aqQ (op_callQ (b := true) rfl en20 (C20) (RL.nil) rfl) ?_; (try simp only [nA, Nat.reduceBEq, Nat.reduceEqDiff, ↓reduceIte, Nat.reduceAdd, Nat.reduceSub])
     (refine aqSeg rfl rfl rfl ?_; repeat (first | exact fun _ _ => rfl | refine upd_out rfl ?_ | refine era_out rfl ?_))
    (try simp only [nA, Nat.reduceBEq, Nat.reduceEqDiff, ↓reduceIte, Nat.reduceAdd, Nat.reduceSub])
    refine aqP (op_assign rfl rfl) ?_
    refine AQ.nil ?_
    (refine hK _ ?_; clear hK K; (try simp only [nA, Nat.reduceBEq, Nat.reduceEqDiff, ↓reduceIte, Nat.reduceAdd, Nat.reduceSub]))
    skip
    refine AW.ret ?_; (try simp only [thenE, inBlk, Nat.reduceEqDiff, ↓reduceIte]); exact RQ.of0 rfl (.tmp (Nat.le_of_ble_eq_true rfl) rfl rfl .nil)
end Go.Proofs.Ytjgbbffcjbmjmaa
