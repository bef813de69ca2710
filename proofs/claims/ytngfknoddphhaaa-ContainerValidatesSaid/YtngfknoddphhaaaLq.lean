import Derived.Test.YtngfknoddphhaaaLp
namespace Go.Proofs.Ytngfknoddphhaaa
open Go.RowKit
set_option linter.unusedSimpArgs false
set_option linter.unusedVariables false

theorem val_intro {c : Container} (h1 : coB c = true) (h2 : c.pieces.length ≤ 60) (h3 : ∀ p ∈ c.pieces, piB p = true) (h4 : Asc c.pieces) : valC c = 0 := by
  refine val_ok (i := c.pieces.length) h1 h2 (by omega) fun k hk => ?_
  rw [errI_at hk, if_neg (by rw [h3 _ (List.getElem_mem hk)]; simp)]
  split
  · rfl
  · rename_i h0
    have := h4 (k - 1) k (by omega) hk (by omega)
    rcases cmpP_cases c.pieces[k - 1].plate c.pieces[k].plate with ⟨_, e⟩ | ⟨h, _⟩ | ⟨h, _⟩
    · rw [if_neg (by omega), if_neg (by omega)]
    · rw [h] at this; exact absurd this (PLt.irrefl _)
    · exact absurd (this.trans h) (PLt.irrefl _)
theorem Asc.snoc {l : List Piece} {p : Piece} (h : Asc l) (hp : ∀ x ∈ l, PLt x.plate p.plate) : Asc (l ++ [p]) := by
  intro i j hi hj hij
  have hjl : j ≤ l.length := by simp at hj; omega
  have hil : i < l.length := by omega
  rw [List.getElem_append_left hil]
  by_cases e : j < l.length
  · rw [List.getElem_append_left e]; exact h i j hil e hij
  · rw [List.getElem_append_right (by omega)]
    simp
    exact hp _ (List.getElem_mem hil)
theorem pos_end {l : List Piece} {p : Plate} (hp : ∀ x ∈ l, PLt x.plate p) : posP l p = l.length :=
  pos_eq (Nat.le_refl _) (fun i h _ => cmpP_lt.2 (hp _ (List.getElem_mem h))) fun i h h' => by omega
theorem found_end {l : List Piece} {p : Plate} (hp : ∀ x ∈ l, PLt x.plate p) : foundP l p = false := by
  unfold foundP
  rw [pos_end hp]
  simp
theorem plates_lt {i : Nat} (h : i < 100) : platesP i = ⟨0, 117, 1000 + i⟩ := by
  have e : gmod (i : Int) 1000 = i := by
    unfold gmod
    rw [if_neg (by omega), Int.tmod_eq_emod_of_nonneg (by omega), Int.emod_eq_of_lt (by omega) (by omega), if_neg (by omega)]
  unfold platesP
  rw [e]
  congr 1 <;> omega
structure Good (i : Nat) (c : Container) : Prop where
  val : valC c = 0
  len : c.pieces.length = i
  below : ∀ x ∈ c.pieces, x.plate.lead = 0 ∧ x.plate.airline = 117 ∧ x.plate.serial < 1000 + i ∧ x.category = 0
  most : c.most = 3
  cat : c.categories = 1
theorem Good.zero : Good 0 emptyC := ⟨by kernel_rfl, rfl, by simp, rfl, rfl⟩
theorem Good.step {i : Nat} {c : Container} {w : Int} (h : Good i c) (hi : i < 20) (hw : 1 ≤ w ∧ w ≤ 999) :
    (putC c (pieceP i w) false).2 = 0 ∧ Good (i + 1) (putC c (pieceP i w) false).1 ∧ weightC (putC c (pieceP i w) false).1 = weightC c + w := by
  have hv := val_inv h.val
  have hpl := plates_lt (i := i) (by omega)
  have hlt : ∀ x ∈ c.pieces, PLt x.plate (platesP i) := fun x hx => by
    obtain ⟨h1, h2, h3, _⟩ := h.below x hx
    rw [hpl]
    unfold PLt
    simp only
    omega
  have hpi : piB (pieceP i w) = true := by
    unfold piB plB inB
    rw [show (pieceP (i : Int) w).plate = ⟨0, 117, 1000 + i⟩ from hpl]
    simp
    omega
  have hlen := h.len
  have e : putC c (pieceP i w) false = (insC c (pieceP i w), 0) := by
    unfold putC
    rw [if_neg (by simp [h.val]), if_neg (by simp [hpi]), if_neg (by rw [found_end hlt]; simp), if_neg (by simp), if_neg (by simp), if_neg (by omega)]
  have e2 : (insC c (pieceP i w)).pieces = c.pieces ++ [pieceP i w] := by
    unfold insC
    simp only
    rw [pos_end hlt]
    simp
  have hval : valC (insC c (pieceP i w)) = 0 := by
    refine val_intro hv.1 (by rw [e2]; simp; omega) (fun p hp => ?_) (by rw [e2]; exact hv.2.2.2.snoc hlt)
    rw [e2] at hp
    rcases List.mem_append.1 hp with hp | hp
    · exact hv.2.2.1 p hp
    · have : p = pieceP i w := by simpa using hp
      rw [this]; exact hpi
  rw [e]
  refine ⟨rfl, ⟨hval, by simp only; rw [e2]; simp; omega, fun x hx => ?_, h.most, h.cat⟩, ?_⟩
  · simp only at hx
    rw [e2] at hx
    rcases List.mem_append.1 hx with hx | hx
    · obtain ⟨h1, h2, h3, h4⟩ := h.below x hx
      exact ⟨h1, h2, by omega, h4⟩
    · have : x = pieceP i w := by simpa using hx
      rw [this]
      rw [show (pieceP (i : Int) w).plate = ⟨0, 117, 1000 + i⟩ from hpl]
      exact ⟨rfl, rfl, by dsimp only; omega, rfl⟩
  · unfold weightC
    rw [if_neg (by simp [hval]), if_neg (by simp [h.val])]
    simp only
    rw [e2]
    simp [sumW]
theorem Good.weight {i : Nat} {c : Container} (h : Good i c) (hi : i ≤ 20) : 0 ≤ weightC c ∧ weightC c ≤ 20000 := by
  unfold weightC
  rw [if_neg (by simp [h.val])]
  have := sum_bd c.pieces (val_w h.val)
  have := h.len
  omega
theorem Good.over {c : Container} (h : Good 20 c) : overC c = true := by
  unfold overC
  rw [if_neg (by simp [h.val])]
  split
  · rfl
  · rw [h.most, h.len]
    simp
theorem C4 {l : List Int} : Fn Try.prog 4 [] [.ro (l.map iv)] [.v (.bool true)] [] := by
  refine Spec.body Try.func4 rfl Try.ntmps4 (by simp) rfl ?_; intro S0 own0 v0 w0
  (refine AW.seq_k ?_; intro K hK)
  refine AW.region ?_
  refine awP (op_assign rfl rfl) ?_
  refine AWL.nil ?_
  (refine hK _ ?_; clear hK K; (try simp only [evS, lcS, nzR, nzA, nzL, Nat.reduceBEq, Nat.reduceEqDiff, ↓reduceIte, Nat.reduceAdd, Nat.reduceSub]))
  (refine AW.seq_k ?_; intro K hK)
  refine AW.region ?_
  refine awP (op_move rfl rfl) ?_
  refine awJ (op_callB rfl en10 (C10) (RL.cons (by first | exact View.same rfl | exact View.nil | exact View.rof | exact View.src .ro | exact View.src .rof | exact View.src (.sl rfl rfl) | exact View.ptr rfl rfl rfl) (RL.nil))) ?_; (try simp only [evS, lcS, nzR, nzA, nzL, Nat.reduceBEq, Nat.reduceEqDiff, ↓reduceIte, Nat.reduceAdd, Nat.reduceSub])
  refine awP (op_assign rfl rfl) ?_
  refine AWL.nil ?_
  (refine hK _ ?_; clear hK K; (try simp only [evS, lcS, nzR, nzA, nzL, Nat.reduceBEq, Nat.reduceEqDiff, ↓reduceIte, Nat.reduceAdd, Nat.reduceSub]))
  (refine AW.seq_k ?_; intro K hK)
  refine AW.region ?_
  refine awJ (op_call (b := false) rfl en11 (C11) (RL.nil) rfl (fun h => by cases h) rfl rfl) ?_; (try simp only [evS, lcS, nzR, nzA, nzL, Nat.reduceBEq, Nat.reduceEqDiff, ↓reduceIte, Nat.reduceAdd, Nat.reduceSub])
  refine awJ (op_alloc rfl ze29 rfl) ?_; (try simp only [evS, lcS, nzR, nzA, nzL, Nat.reduceBEq, Nat.reduceEqDiff, ↓reduceIte, Nat.reduceAdd, Nat.reduceSub])
  refine awJ (op_store rfl rfl rfl rfl rfl rfl sz29 rfl (Nat.le_of_ble_eq_true rfl) rfl) ?_; (try simp only [evS, lcS, nzR, nzA, nzL, Nat.reduceBEq, Nat.reduceEqDiff, ↓reduceIte, Nat.reduceAdd, Nat.reduceSub])
  refine awP (op_assign rfl rfl) ?_
  refine AWL.nil ?_
  (refine hK _ ?_; clear hK K; (try simp only [evS, lcS, nzR, nzA, nzL, Nat.reduceBEq, Nat.reduceEqDiff, ↓reduceIte, Nat.reduceAdd, Nat.reduceSub]))
  (refine AW.seq_k ?_; intro K hK)
  (refine AW.seq_k ?_; intro K hK)
  refine AW.region ?_
  refine awP (op_assign rfl rfl) ?_
  refine AWL.nil ?_
  (refine hK _ ?_; clear hK K; (try simp only [evS, lcS, nzR, nzA, nzL, Nat.reduceBEq, Nat.reduceEqDiff, ↓reduceIte, Nat.reduceAdd, Nat.reduceSub]))
  refine AW.block ?_   -- block 0
  refine AW.loopI (fun (q : Nat × Nat × Container) => [(3, .ptr 0 1 0 0), (4, .ptr 1 2 0 0), (5, .v (.int .i64 (weightC q.2.2))), (6, .v (.int .i64 (q.1 : Nat)))]) (fun q => ⟨[(1, .own 64 [srcRow (l.take 2000) q.2.1]), (2, .own 29 [q.2.2.av])], 3 + q.1⟩) (fun q => q.1 ≤ 20 ∧ Good q.1 q.2.2) (fun q => 20 - q.1) (0, 0, emptyC) ⟨by simp, Good.zero⟩ ⟨rfl, rfl, by kernel_rfl, rfl, trivial⟩ rfl ?_; rintro ⟨i, k, c⟩ ρ hI; simp only at hI; simp only [updL]; (try simp only [evS, lcS, nzR, nzA, nzL, Nat.reduceBEq, Nat.reduceEqDiff, ↓reduceIte, Nat.reduceAdd, Nat.reduceSub]); have hwc := hI.2.weight hI.1
  (refine AW.seq_k ?_; intro K hK)
  (refine AW.seq_k ?_; intro K hK)
  refine AW.region ?_
  refine awP (op_move rfl rfl) ?_
  refine awP (op_lss rfl rfl rfl) ?_
  refine AWL.nil ?_
  (refine hK _ ?_; clear hK K; (try simp only [evS, lcS, nzR, nzA, nzL, Nat.reduceBEq, Nat.reduceEqDiff, ↓reduceIte, Nat.reduceAdd, Nat.reduceSub]))
  refine AW.cond rfl rfl rfl (fun hc => ?_) (fun hc => ?_)   -- cond 1
  · -- true
    (try simp only [Bool.and_eq_true, Bool.or_eq_true, Bool.or_eq_false_iff, Bool.and_eq_false_iff, decide_eq_true_eq, decide_eq_false_iff_not, Int.not_le, Int.not_lt, ge_iff_le, gt_iff_lt, Bool.not_eq_true', Bool.not_eq_false', bne_iff_ne, beq_iff_eq, bne_eq_false_iff_eq, beq_eq_false_iff_ne, ne_eq] at hc); have hc1 := hc; have hg := gmod_bd (x := rawV (l.take 2000) k) (n := 999) (by decide); have hst := hI.2.step (w := 1 + gmod (rawV (l.take 2000) k) 999) (by omega) (by omega)
    refine AW.skip ?_
    (refine hK _ ?_; clear hK K; (try simp only [evS, lcS, nzR, nzA, nzL, Nat.reduceBEq, Nat.reduceEqDiff, ↓reduceIte, Nat.reduceAdd, Nat.reduceSub]))
    (refine AW.seq_k ?_; intro K hK)
    refine AW.block ?_   -- block 1
    (refine AW.seq_k ?_; intro K hK)
    refine AW.region ?_
    refine awP (op_move rfl rfl) ?_
    refine awJ (op_call1 rfl en12 (C12 (l := l.take 2000) (n := 999) (by simp; omega) (by decide)) (by exact rfl) (RL.cons .ptr (RL.cons (.base (by first | exact View.same rfl | exact View.nil | exact View.rof | exact View.src .ro | exact View.src .rof | exact View.src (.sl rfl rfl) | exact View.ptr rfl rfl rfl)) (RL.nil))) (by exact ⟨_, _, _, rfl, rfl, rfl⟩) (by exact rfl) (by exact rfl) (by exact rfl)) ?_; (try simp only [evS, lcS, nzR, nzA, nzL, Nat.reduceBEq, Nat.reduceEqDiff, ↓reduceIte, Nat.reduceAdd, Nat.reduceSub])
    (first | refine awP (op_addi rfl rfl rfl (by omega)) ?_ | refine awP (op_add rfl rfl rfl rfl) ?_)
    refine awP (op_assign rfl rfl) ?_
    refine AWL.nil ?_
    (refine hK _ ?_; clear hK K; (try simp only [evS, lcS, nzR, nzA, nzL, Nat.reduceBEq, Nat.reduceEqDiff, ↓reduceIte, Nat.reduceAdd, Nat.reduceSub]))
    (refine AW.seq_k ?_; intro K hK)
    refine AW.ad [(1, 2, .own 29 [c.av])] mix rfl ?_   -- DRAWS, one after the other
    (first | refine adR 0 rfl (fun T' ok => op_load_ptr rfl rfl (by first | exact ok.1 | exact ok.2.1 | exact ok.2.2.1 | exact ok.2.2.2.1) rfl ag29 sz29 (Nat.le_of_ble_eq_true rfl) rfl) (by first | exact trivial | exact ⟨rfl, trivial⟩ | exact ⟨rfl, rfl, trivial⟩ | exact ⟨rfl, rfl, rfl, trivial⟩) (by kernel_rfl) (by kernel_rfl) ?_ | refine adR 0 rfl (fun T' ok => op_load_rop rfl rfl ag29 sz29 (Nat.le_of_ble_eq_true rfl) (by decide) rfl) (by first | exact trivial | exact ⟨rfl, trivial⟩ | exact ⟨rfl, rfl, trivial⟩ | exact ⟨rfl, rfl, rfl, trivial⟩) (by kernel_rfl) (by kernel_rfl) ?_)
    refine adP 1 rfl (fun T' ok => op_move rfl rfl) (by first | exact trivial | exact ⟨rfl, trivial⟩ | exact ⟨rfl, rfl, trivial⟩ | exact ⟨rfl, rfl, rfl, trivial⟩) (by kernel_rfl) (by kernel_rfl) ?_
    refine adP 2 rfl (fun T' ok => op_move rfl rfl) (by first | exact trivial | exact ⟨rfl, trivial⟩ | exact ⟨rfl, rfl, trivial⟩ | exact ⟨rfl, rfl, rfl, trivial⟩) (by kernel_rfl) (by kernel_rfl) ?_
    refine adF 3 rfl (fun T' ok => op_callS rfl en18 (C18) (RL.cons (by first | exact View.same rfl | exact View.nil | exact View.rof | exact View.src .ro | exact View.src .rof | exact View.src (.sl rfl rfl) | exact View.ptr rfl rfl rfl) (RL.cons (by first | exact View.same rfl | exact View.nil | exact View.rof | exact View.src .ro | exact View.src .rof | exact View.src (.sl rfl rfl) | exact View.ptr rfl rfl rfl) (RL.nil))) rfl rfl rfl) (by first | exact trivial | exact ⟨rfl, trivial⟩ | exact ⟨rfl, rfl, trivial⟩ | exact ⟨rfl, rfl, rfl, trivial⟩) (by kernel_rfl) (by kernel_rfl) ?_; (try simp only [evS, lcS, nzR, nzA, nzL, Nat.reduceBEq, Nat.reduceEqDiff, ↓reduceIte, Nat.reduceAdd, Nat.reduceSub])
    refine adF 4 rfl (fun T' ok => op_callS rfl en14 (C14 (c := c) (p := pieceP i (1 + gmod (rawV (l.take 2000) k) 999))) (RL.cons (by first | exact View.same rfl | exact View.nil | exact View.rof | exact View.src .ro | exact View.src .rof | exact View.src (.sl rfl rfl) | exact View.ptr rfl rfl rfl) (RL.cons (by first | exact View.same rfl | exact View.nil | exact View.rof | exact View.src .ro | exact View.src .rof | exact View.src (.sl rfl rfl) | exact View.ptr rfl rfl rfl) (RL.nil))) rfl rfl rfl) (by first | exact trivial | exact ⟨rfl, trivial⟩ | exact ⟨rfl, rfl, trivial⟩ | exact ⟨rfl, rfl, rfl, trivial⟩) (by kernel_rfl) (by kernel_rfl) ?_; (try simp only [evS, lcS, nzR, nzA, nzL, Nat.reduceBEq, Nat.reduceEqDiff, ↓reduceIte, Nat.reduceAdd, Nat.reduceSub])
    refine adP 5 rfl (fun T' ok => op_move rfl rfl) (by first | exact trivial | exact ⟨rfl, trivial⟩ | exact ⟨rfl, rfl, trivial⟩ | exact ⟨rfl, rfl, rfl, trivial⟩) (by kernel_rfl) (by kernel_rfl) ?_
    refine adP 6 rfl (fun T' ok => op_extract rfl rfl rfl) (by first | exact trivial | exact ⟨rfl, trivial⟩ | exact ⟨rfl, rfl, trivial⟩ | exact ⟨rfl, rfl, rfl, trivial⟩) (by kernel_rfl) (by kernel_rfl) ?_
    refine adP 7 rfl (fun T' ok => op_extract rfl rfl rfl) (by first | exact trivial | exact ⟨rfl, trivial⟩ | exact ⟨rfl, rfl, trivial⟩ | exact ⟨rfl, rfl, rfl, trivial⟩) (by kernel_rfl) (by kernel_rfl) ?_
    refine adJ 8 rfl (op_alloc rfl ze29 rfl) (by kernel_rfl) (by first | exact trivial | exact ⟨rfl, trivial⟩ | exact ⟨rfl, rfl, trivial⟩ | exact ⟨rfl, rfl, rfl, trivial⟩) ?_; (try simp only [evS, lcS, nzR, nzA, nzL, Nat.reduceBEq, Nat.reduceEqDiff, ↓reduceIte, Nat.reduceAdd, Nat.reduceSub])
    refine adJ 9 rfl (op_store rfl rfl rfl rfl rfl rfl sz29 rfl (Nat.le_of_ble_eq_true rfl) rfl) (by kernel_rfl) (by first | exact trivial | exact ⟨rfl, trivial⟩ | exact ⟨rfl, rfl, trivial⟩ | exact ⟨rfl, rfl, rfl, trivial⟩) ?_; (try simp only [evS, lcS, nzR, nzA, nzL, Nat.reduceBEq, Nat.reduceEqDiff, ↓reduceIte, Nat.reduceAdd, Nat.reduceSub])
    refine adP 10 rfl (fun T' ok => op_assign rfl rfl) (by first | exact trivial | exact ⟨rfl, trivial⟩ | exact ⟨rfl, rfl, trivial⟩ | exact ⟨rfl, rfl, rfl, trivial⟩) (by kernel_rfl) (by kernel_rfl) ?_
    refine adDone (by kernel_rfl) ?_
    (refine hK _ ?_; clear hK K; (try simp only [evS, lcS, nzR, nzA, nzL, Nat.reduceBEq, Nat.reduceEqDiff, ↓reduceIte, Nat.reduceAdd, Nat.reduceSub]))
    (refine AW.seq_k ?_; intro K hK)
    (refine AW.seq_k ?_; intro K hK)
    refine AW.quiet mix (by kernel_rfl) ?_   -- DRAWS
    refine aqP (op_move rfl rfl) ?_
    (first | refine aqP (op_neq rfl rfl rfl) ?_ | refine aqP (op_sneq rfl rfl rfl) ?_)
    refine aqP (op_move rfl rfl) ?_
    refine' aqOr' [_, _, _, _, _, _, _] [31,32,33,34,35,36,37] rfl rfl rfl rfl rfl rfl rfl rfl rfl rfl rfl rfl (fun hb => ?_) ?_; rotate_left
    · -- segment
      (try simp only [Bool.and_eq_true, Bool.or_eq_true, Bool.or_eq_false_iff, Bool.and_eq_false_iff, decide_eq_true_eq, decide_eq_false_iff_not, Int.not_le, Int.not_lt, ge_iff_le, gt_iff_lt, Bool.not_eq_true', Bool.not_eq_false', bne_iff_ne, beq_iff_eq, bne_eq_false_iff_eq, beq_eq_false_iff_ne, ne_eq] at hb)
      (first | refine aqR (op_load_ptr rfl rfl rfl rfl ag29 sz29 (Nat.le_of_ble_eq_true rfl) rfl) ?_ | refine aqR (op_load_rop rfl rfl ag29 sz29 (Nat.le_of_ble_eq_true rfl) (by decide) rfl) ?_)
      refine aqQ (op_callQ (b := true) rfl en19 (C19 (c := (putC c (pieceP i (1 + gmod (rawV (l.take 2000) k) 999)) false).1)) (RL.cons (by first | exact View.same rfl | exact View.nil | exact View.rof | exact View.src .ro | exact View.src .rof | exact View.src (.sl rfl rfl) | exact View.ptr rfl rfl rfl) (RL.nil)) rfl) ?_; (try simp only [evS, lcS, nzR, nzA, nzL, Nat.reduceBEq, Nat.reduceEqDiff, ↓reduceIte, Nat.reduceAdd, Nat.reduceSub])
      (first | refine aqR (op_load_ptr rfl rfl rfl rfl ag29 sz29 (Nat.le_of_ble_eq_true rfl) rfl) ?_ | refine aqR (op_load_rop rfl rfl ag29 sz29 (Nat.le_of_ble_eq_true rfl) (by decide) rfl) ?_)
      refine aqQ (op_callQ (b := true) rfl en19 (C19 (c := c)) (RL.cons (by first | exact View.same rfl | exact View.nil | exact View.rof | exact View.src .ro | exact View.src .rof | exact View.src (.sl rfl rfl) | exact View.ptr rfl rfl rfl) (RL.nil)) rfl) ?_; (try simp only [evS, lcS, nzR, nzA, nzL, Nat.reduceBEq, Nat.reduceEqDiff, ↓reduceIte, Nat.reduceAdd, Nat.reduceSub])
      refine aqP (op_move rfl rfl) ?_
      (first | refine aqP (op_addi rfl rfl rfl (by omega)) ?_ | refine aqP (op_add rfl rfl rfl rfl) ?_)
      (first | refine aqP (op_neq rfl rfl rfl) ?_ | refine aqP (op_sneq rfl rfl rfl) ?_)
      (refine aqSeg rfl rfl rfl ?_; repeat (first | exact fun _ _ => rfl | refine upd_out rfl ?_ | refine era_out rfl ?_))
    (try simp only [evS, lcS, nzR, nzA, nzL, Nat.reduceBEq, Nat.reduceEqDiff, ↓reduceIte, Nat.reduceAdd, Nat.reduceSub])
    refine AQ.nil ?_
    (refine hK _ ?_; clear hK K; (try simp only [evS, lcS, nzR, nzA, nzL, Nat.reduceBEq, Nat.reduceEqDiff, ↓reduceIte, Nat.reduceAdd, Nat.reduceSub]))
    refine AW.cond rfl rfl rfl (fun hc => ?_) (fun hc => ?_)   -- cond 2
    · -- true
      (try simp only [Bool.and_eq_true, Bool.or_eq_true, Bool.or_eq_false_iff, Bool.and_eq_false_iff, decide_eq_true_eq, decide_eq_false_iff_not, Int.not_le, Int.not_lt, ge_iff_le, gt_iff_lt, Bool.not_eq_true', Bool.not_eq_false', bne_iff_ne, beq_iff_eq, bne_eq_false_iff_eq, beq_eq_false_iff_ne, ne_eq] at hc); have hc2 := hc; skip
      (refine AW.seq_k ?_; intro K hK)
      refine AW.region ?_
      refine awP (op_assign rfl rfl) ?_
      refine AWL.nil ?_
      (refine hK _ ?_; clear hK K; (try simp only [evS, lcS, nzR, nzA, nzL, Nat.reduceBEq, Nat.reduceEqDiff, ↓reduceIte, Nat.reduceAdd, Nat.reduceSub]))
      skip
      refine AW.ret ?_; (try simp only [thenE, inBlk, Nat.reduceEqDiff, ↓reduceIte]); exfalso; rcases hc with h | h; exact h hst.1; exact h hst.2.2
    · -- false
      (try simp only [Bool.and_eq_true, Bool.or_eq_true, Bool.or_eq_false_iff, Bool.and_eq_false_iff, decide_eq_true_eq, decide_eq_false_iff_not, Int.not_le, Int.not_lt, ge_iff_le, gt_iff_lt, Bool.not_eq_true', Bool.not_eq_false', bne_iff_ne, beq_iff_eq, bne_eq_false_iff_eq, beq_eq_false_iff_ne, ne_eq] at hc); have hc2 := hc; skip
      refine AW.skip ?_
      (refine hK _ ?_; clear hK K; (try simp only [evS, lcS, nzR, nzA, nzL, Nat.reduceBEq, Nat.reduceEqDiff, ↓reduceIte, Nat.reduceAdd, Nat.reduceSub]))
      refine AW.region ?_
      (first | refine awR (op_load_ptr rfl rfl rfl rfl ag29 sz29 (Nat.le_of_ble_eq_true rfl) rfl) ?_ | refine awR (op_load_rop rfl rfl ag29 sz29 (Nat.le_of_ble_eq_true rfl) (by decide) rfl) ?_)
      refine awP (op_move rfl rfl) ?_
      refine awP (op_move rfl rfl) ?_
      (first | refine awP (op_addi rfl rfl rfl (by omega)) ?_ | refine awP (op_add rfl rfl rfl rfl) ?_)
      refine awJ (op_store rfl rfl rfl rfl rfl rfl sz29 rfl (Nat.le_of_ble_eq_true rfl) rfl) ?_; (try simp only [evS, lcS, nzR, nzA, nzL, Nat.reduceBEq, Nat.reduceEqDiff, ↓reduceIte, Nat.reduceAdd, Nat.reduceSub])
      refine awP (op_assign rfl rfl) ?_
      refine AWL.nil ?_
      (try simp only [thenE, inBlk, Nat.reduceEqDiff, ↓reduceIte])
      (refine hK _ ?_; clear hK K; (try simp only [evS, lcS, nzR, nzA, nzL, Nat.reduceBEq, Nat.reduceEqDiff, ↓reduceIte, Nat.reduceAdd, Nat.reduceSub]))
      refine AW.region ?_
      refine awP (op_move rfl rfl) ?_
      (first | refine awP (op_addi rfl rfl rfl (by omega)) ?_ | refine awP (op_add rfl rfl rfl rfl) ?_)
      refine awP (op_assign rfl rfl) ?_
      refine AWL.gh (Gh.drop 2) ?_; (try simp only [evS, lcS, nzR, nzA, nzL, Nat.reduceBEq, Nat.reduceEqDiff, ↓reduceIte, Nat.reduceAdd, Nat.reduceSub])
      refine AWL.nil ?_
      refine ⟨(i + 1, rawN (l.take 2000) k, (putC c (pieceP i (1 + gmod (rawV (l.take 2000) k) 999)) false).1), ⟨by dsimp only; omega, hst.2.1⟩, by dsimp only; omega, ⟨rfl, rfl, (by dsimp only; rw [hst.2.2]; rfl), rfl, trivial⟩, (by first | rfl | trivial), (by first | rfl | trivial)⟩
  · -- false
    (try simp only [Bool.and_eq_true, Bool.or_eq_true, Bool.or_eq_false_iff, Bool.and_eq_false_iff, decide_eq_true_eq, decide_eq_false_iff_not, Int.not_le, Int.not_lt, ge_iff_le, gt_iff_lt, Bool.not_eq_true', Bool.not_eq_false', bne_iff_ne, beq_iff_eq, bne_eq_false_iff_eq, beq_eq_false_iff_ne, ne_eq] at hc); have hc1 := hc; skip
    refine AW.exit ?_; (try simp only [thenE, inBlk, Nat.reduceEqDiff, ↓reduceIte])   -- to 0
    clear hK K
    (refine hK _ ?_; clear hK K; (try simp only [evS, lcS, nzR, nzA, nzL, Nat.reduceBEq, Nat.reduceEqDiff, ↓reduceIte, Nat.reduceAdd, Nat.reduceSub]))
    (refine AW.seq_k ?_; intro K hK)
    refine AW.region (AWL.quiet ?_)
    (first | refine aqR (op_load_ptr rfl rfl rfl rfl ag29 sz29 (Nat.le_of_ble_eq_true rfl) rfl) ?_ | refine aqR (op_load_rop rfl rfl ag29 sz29 (Nat.le_of_ble_eq_true rfl) (by decide) rfl) ?_)
    refine aqQ (op_callQ (b := true) rfl en19 (C19 (c := c)) (RL.cons (by first | exact View.same rfl | exact View.nil | exact View.rof | exact View.src .ro | exact View.src .rof | exact View.src (.sl rfl rfl) | exact View.ptr rfl rfl rfl) (RL.nil)) rfl) ?_; (try simp only [evS, lcS, nzR, nzA, nzL, Nat.reduceBEq, Nat.reduceEqDiff, ↓reduceIte, Nat.reduceAdd, Nat.reduceSub])
    refine aqP (op_move rfl rfl) ?_
    (first | refine aqP (op_eql rfl rfl rfl) ?_ | refine aqP (op_seql rfl rfl rfl) ?_)
    refine aqP (op_move rfl rfl) ?_
    refine' aqAnd' [_, _] [48,49] rfl rfl rfl rfl rfl rfl rfl rfl rfl rfl rfl rfl (fun hb => ?_) ?_; rotate_left
    · -- segment
      (try simp only [Bool.and_eq_true, Bool.or_eq_true, Bool.or_eq_false_iff, Bool.and_eq_false_iff, decide_eq_true_eq, decide_eq_false_iff_not, Int.not_le, Int.not_lt, ge_iff_le, gt_iff_lt, Bool.not_eq_true', Bool.not_eq_false', bne_iff_ne, beq_iff_eq, bne_eq_false_iff_eq, beq_eq_false_iff_ne, ne_eq] at hb)
      (first | refine aqR (op_load_ptr rfl rfl rfl rfl ag29 sz29 (Nat.le_of_ble_eq_true rfl) rfl) ?_ | refine aqR (op_load_rop rfl rfl ag29 sz29 (Nat.le_of_ble_eq_true rfl) (by decide) rfl) ?_)
      refine aqQ (op_callQ (b := true) rfl en20 (C20 (c := c)) (RL.cons (by first | exact View.same rfl | exact View.nil | exact View.rof | exact View.src .ro | exact View.src .rof | exact View.src (.sl rfl rfl) | exact View.ptr rfl rfl rfl) (RL.nil)) rfl) ?_; (try simp only [evS, lcS, nzR, nzA, nzL, Nat.reduceBEq, Nat.reduceEqDiff, ↓reduceIte, Nat.reduceAdd, Nat.reduceSub])
      (refine aqSeg rfl rfl rfl ?_; repeat (first | exact fun _ _ => rfl | refine upd_out rfl ?_ | refine era_out rfl ?_))
    (try simp only [evS, lcS, nzR, nzA, nzL, Nat.reduceBEq, Nat.reduceEqDiff, ↓reduceIte, Nat.reduceAdd, Nat.reduceSub])
    refine aqP (op_move rfl rfl) ?_
    refine' aqAnd' [_] [52] rfl rfl rfl rfl rfl rfl rfl rfl rfl rfl rfl rfl (fun hb => ?_) ?_; rotate_left
    · -- segment
      (try simp only [Bool.and_eq_true, Bool.or_eq_true, Bool.or_eq_false_iff, Bool.and_eq_false_iff, decide_eq_true_eq, decide_eq_false_iff_not, Int.not_le, Int.not_lt, ge_iff_le, gt_iff_lt, Bool.not_eq_true', Bool.not_eq_false', bne_iff_ne, beq_iff_eq, bne_eq_false_iff_eq, beq_eq_false_iff_ne, ne_eq] at hb)
      refine aqQ (op_callQ (b := true) rfl en17 (C17) (RL.nil) rfl) ?_; (try simp only [evS, lcS, nzR, nzA, nzL, Nat.reduceBEq, Nat.reduceEqDiff, ↓reduceIte, Nat.reduceAdd, Nat.reduceSub])
      (refine aqSeg rfl rfl rfl ?_; repeat (first | exact fun _ _ => rfl | refine upd_out rfl ?_ | refine era_out rfl ?_))
    (try simp only [evS, lcS, nzR, nzA, nzL, Nat.reduceBEq, Nat.reduceEqDiff, ↓reduceIte, Nat.reduceAdd, Nat.reduceSub])
    refine aqP (op_assign rfl rfl) ?_
    refine AQ.nil ?_
    (refine hK _ ?_; clear hK K; (try simp only [evS, lcS, nzR, nzA, nzL, Nat.reduceBEq, Nat.reduceEqDiff, ↓reduceIte, Nat.reduceAdd, Nat.reduceSub]))
    skip
    refine AW.ret ?_; (try simp only [thenE, inBlk, Nat.reduceEqDiff, ↓reduceIte]); have hi20 : i = 20 := (by omega); subst hi20; exact RQ.of0 rfl (.tmp (Nat.le_of_ble_eq_true rfl) (by have ho := hI.2.over; simp [upd_get, era_get, ho]) rfl .nil)
end Go.Proofs.Ytngfknoddphhaaa
