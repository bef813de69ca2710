import Derived.Test.YtnflkbgappgdiaaEd
namespace Go.Proofs.Ytnflkbgappgdiaa
open Go.RowKit
set_option linter.unusedSimpArgs false
set_option linter.unusedVariables false

def sumA (xs : List Pr) : Int := (xs.map Pr.amt).sum
def partyE (xs : List Pr) : Int := if 8 < xs.length then 2 else if badE 0 xs = 0 then (if sumA xs = 0 then 11 else 0) else badE 0 xs
theorem partyE_bad {xs : List Pr} {c : Int} (h8 : ¬ 8 < xs.length) (h : badE 0 xs = c) (h0 : c ≠ 0) : partyE xs = c := by
  unfold partyE
  rw [if_neg h8, if_neg (by rw [h]; exact h0), h]
theorem partyE_sum {xs : List Pr} (h8 : ¬ 8 < xs.length) (h : badE 0 xs = 0) : partyE xs = if sumA xs = 0 then 11 else 0 := by
  unfold partyE
  rw [if_neg h8, if_pos h]
theorem sumA_take {xs : List Pr} {i : Nat} {q : Pr} (h : xs[i]? = some q) : sumA (xs.take (i + 1)) = sumA (xs.take i) + q.amt := by
  unfold sumA
  rw [List.take_add_one, h]
  simp
theorem code_in {lo : Int} {xs : List Pr} {i : Nat} {q : Pr} (h : xs[i]? = some q) (h0 : codeAt lo xs i = 0) : lo ≤ q.amt ∧ q.amt ≤ 1073741824 ∧ nameB q.name = true ∧ ¬ posL (xs.take i) q.name < i := by
  rw [codeAt_of h] at h0
  unfold codeQ at h0
  split at h0
  · split at h0
    · cases h0
    · split at h0
      · rename_i a b c
        exact ⟨(inB_iff.1 c).1, (inB_iff.1 c).2, a, b⟩
      · cases h0
  · cases h0
theorem sum_bd {xs : List Pr} : ∀ {i : Nat}, i ≤ xs.length → OKs 0 xs i → 0 ≤ sumA (xs.take i) ∧ sumA (xs.take i) ≤ i * 1073741824 := by
  intro i
  induction i with
  | zero => intro _ _; simp [sumA]
  | succ n ih =>
    intro hi ho
    have h := ih (by omega) (fun k hk => ho k (by omega))
    have hq : xs[n]? = some xs[n] := List.getElem?_eq_getElem (by omega)
    rw [sumA_take hq]
    have := code_in hq (ho n (by omega))
    omega
theorem C36 {xs : List Pr} : Fn Try.prog 36 [] [.ro (xs.map Pr.av)] [.v (.int .i64 (partyE xs))] [] := by
  refine Spec.small 0 rfl fun hx => ?_
  rw [List.length_map] at hx
  refine Spec.body Try.func36 rfl Try.ntmps36 (by simp) rfl ?_; intro S0 own0 v0 w0
  (refine AW.seq_k ?_; intro K hK)
  refine AW.region ?_
  refine awP (op_assign rfl rfl) ?_
  refine AWL.nil ?_
  (refine hK _ ?_; clear hK K; (try simp only [nA, Nat.reduceBEq, Nat.reduceEqDiff, ↓reduceIte, Nat.reduceAdd, Nat.reduceSub]))
  (refine AW.seq_k ?_; intro K hK)
  (refine AW.seq_k ?_; intro K hK)
  refine AW.region ?_
  refine awP (op_move rfl rfl) ?_
  (first | refine awP (op_len_ro rfl rfl Try.underlying22 (by first | exact .inr (.inl ⟨_, rfl, rfl⟩) | exact .inl rfl | exact .inr (.inr (.inl ⟨_, rfl, rfl⟩)) | exact .inr (.inr (.inr ⟨rfl, rfl⟩)))) ?_ | refine awP (op_len_sl rfl rfl rfl Try.underlying22) ?_ | refine awP (op_len_str rfl rfl Try.underlying22) ?_)
  refine awP (op_gtr rfl rfl rfl) ?_
  refine AWL.nil ?_
  (refine hK _ ?_; clear hK K; (try simp only [nA, Nat.reduceBEq, Nat.reduceEqDiff, ↓reduceIte, Nat.reduceAdd, Nat.reduceSub]))
  refine AW.cond rfl rfl rfl (fun hc => ?_) (fun hc => ?_)
  ·
   (try simp only [hcS] at hc); have hc1 := hc; skip
   (refine AW.seq_k ?_; intro K hK)
   refine AW.region ?_
   refine awP (op_assign rfl rfl) ?_
   refine AWL.nil ?_
   (refine hK _ ?_; clear hK K; (try simp only [nA, Nat.reduceBEq, Nat.reduceEqDiff, ↓reduceIte, Nat.reduceAdd, Nat.reduceSub]))
   skip
   refine AW.ret ?_; (try simp only [thenE, inBlk, Nat.reduceEqDiff, ↓reduceIte]); rw [show partyE xs = 2 by unfold partyE; rw [if_pos (by omega)]]; exact RQ.of0 rfl (.tmp (Nat.le_of_ble_eq_true rfl) rfl rfl .nil)
  ·
   (try simp only [hcS] at hc); have hc1 := hc; skip
   refine AW.skip ?_
   (refine hK _ ?_; clear hK K; (try simp only [nA, Nat.reduceBEq, Nat.reduceEqDiff, ↓reduceIte, Nat.reduceAdd, Nat.reduceSub]))
   (refine AW.seq_k ?_; intro K hK)
   refine AW.region ?_
   refine awP (op_assign rfl rfl) ?_
   refine AWL.nil ?_
   (refine hK _ ?_; clear hK K; (try simp only [nA, Nat.reduceBEq, Nat.reduceEqDiff, ↓reduceIte, Nat.reduceAdd, Nat.reduceSub]))
   (refine AW.seq_k ?_; intro K hK)
   (refine AW.seq_k ?_; intro K hK)
   refine AW.region ?_
   refine awP (op_assign rfl rfl) ?_
   refine AWL.nil ?_
   (refine hK _ ?_; clear hK K; (try simp only [nA, Nat.reduceBEq, Nat.reduceEqDiff, ↓reduceIte, Nat.reduceAdd, Nat.reduceSub]))
   refine AW.block ?_
   refine AW.loopI (fun (i : Nat) => [(0, .ro (xs.map Pr.av)), (3, .v (.int .i64 (sumA (xs.take i)))), (4, .v (.int .i64 (i : Nat)))]) (fun q => ⟨[], 1⟩) (fun i => i ≤ xs.length ∧ OKs 0 xs i) (fun i => xs.length - i) 0 ⟨by simp, fun k hk => absurd hk (by simp)⟩ ⟨rfl, by simp [sumA]; rfl, rfl, trivial⟩ rfl ?_; intro i ρ hI; simp only [updL]; (try simp only [nA, Nat.reduceBEq, Nat.reduceEqDiff, ↓reduceIte, Nat.reduceAdd, Nat.reduceSub])
   (refine AW.seq_k ?_; intro K hK)
   (refine AW.seq_k ?_; intro K hK)
   refine AW.region ?_
   refine awP (op_move rfl rfl) ?_
   refine awP (op_move rfl rfl) ?_
   (first | refine awP (op_len_ro rfl rfl Try.underlying22 (by first | exact .inr (.inl ⟨_, rfl, rfl⟩) | exact .inl rfl | exact .inr (.inr (.inl ⟨_, rfl, rfl⟩)) | exact .inr (.inr (.inr ⟨rfl, rfl⟩)))) ?_ | refine awP (op_len_sl rfl rfl rfl Try.underlying22) ?_ | refine awP (op_len_str rfl rfl Try.underlying22) ?_)
   refine awP (op_lss rfl rfl rfl) ?_
   refine AWL.nil ?_
   (refine hK _ ?_; clear hK K; (try simp only [nA, Nat.reduceBEq, Nat.reduceEqDiff, ↓reduceIte, Nat.reduceAdd, Nat.reduceSub]))
   refine AW.cond rfl rfl rfl (fun hc => ?_) (fun hc => ?_)
   ·
    (try simp only [hcS] at hc); have hc2 := hc; have hlt : i < xs.length := (by simpa using hc2); obtain ⟨q, hqi⟩ : ∃ q, xs[i]? = some q := ⟨xs[i], List.getElem?_eq_getElem hlt⟩; have hqe := (List.getElem?_eq_some_iff.1 hqi).2
    refine AW.skip ?_
    (refine hK _ ?_; clear hK K; (try simp only [nA, Nat.reduceBEq, Nat.reduceEqDiff, ↓reduceIte, Nat.reduceAdd, Nat.reduceSub]))
    (refine AW.seq_k ?_; intro K hK)
    refine AW.block ?_
    (refine AW.seq_k ?_; intro K hK)
    (refine AW.seq_k ?_; intro K hK)
    refine AW.region ?_
    refine awP (op_move rfl rfl) ?_
    refine awP (op_move rfl rfl) ?_
    (first | refine awP (op_ia_ro i rfl (.inl rfl) rfl Try.underlying22 rfl (get_of hqi) (by exact sz25) (Nat.le_of_ble_eq_true rfl)) ?_ | refine awP (op_ia_sl _ _ rfl rfl rfl rfl Try.underlying22 rfl (by omega) (by exact sz25) rfl) ?_)
    (first | refine awP (op_fa_ptr rfl rfl rfl fl25_0 (by exact sz9) (by decide) rfl) ?_ | refine awP (op_fa_rop rfl rfl fl25_0 (by exact sz9) (by decide) (Nat.le_of_ble_eq_true rfl) rfl) ?_)
    (first | refine awR (op_load_ptr1 rfl rfl rfl rfl ag9 rfl rfl) ?_ | refine awR (op_load_rop1 rfl rfl ag9) ?_)
    refine awJ (OpQ.j (op_callQ (b := true) rfl en42 (C42) (RL.cons (by first | exact View.same rfl | exact View.nil | exact View.rof | exact View.src .ro | exact View.src .rof | exact View.src (.sl rfl rfl) | exact View.ptr rfl rfl rfl) (RL.nil)) rfl)) ?_; (try simp only [nA, Nat.reduceBEq, Nat.reduceEqDiff, ↓reduceIte, Nat.reduceAdd, Nat.reduceSub])
    refine awP (op_not rfl rfl rfl) ?_
    refine AWL.nil ?_
    (refine hK _ ?_; clear hK K; (try simp only [nA, Nat.reduceBEq, Nat.reduceEqDiff, ↓reduceIte, Nat.reduceAdd, Nat.reduceSub]))
    refine AW.cond rfl rfl rfl (fun hc => ?_) (fun hc => ?_)
    ·
     (try simp only [hcS] at hc); have hc3 := hc; skip
     (refine AW.seq_k ?_; intro K hK)
     refine AW.region ?_
     refine awP (op_assign rfl rfl) ?_
     refine AWL.nil ?_
     (refine hK _ ?_; clear hK K; (try simp only [nA, Nat.reduceBEq, Nat.reduceEqDiff, ↓reduceIte, Nat.reduceAdd, Nat.reduceSub]))
     skip
     refine AW.ret ?_; (try simp only [thenE, inBlk, Nat.reduceEqDiff, ↓reduceIte]); rw [partyE_bad (by omega) (badE_at hlt hI.2 (code3 hqi (by simpa using hc3)) (by decide)) (by decide)]; exact RQ.of0 rfl (.tmp (Nat.le_of_ble_eq_true rfl) rfl rfl .nil)
    ·
     (try simp only [hcS] at hc); have hc3 := hc; skip
     refine AW.skip ?_
     (refine hK _ ?_; clear hK K; (try simp only [nA, Nat.reduceBEq, Nat.reduceEqDiff, ↓reduceIte, Nat.reduceAdd, Nat.reduceSub]))
     (refine AW.seq_k ?_; intro K hK)
     (refine AW.seq_k ?_; intro K hK)
     refine AW.region ?_
     refine awP (op_assign rfl rfl) ?_
     refine AWL.nil ?_
     (refine hK _ ?_; clear hK K; (try simp only [nA, Nat.reduceBEq, Nat.reduceEqDiff, ↓reduceIte, Nat.reduceAdd, Nat.reduceSub]))
     refine AW.block ?_
     refine AW.loopI (fun (j : Nat) => [(0, .ro (xs.map Pr.av)), (3, .v (.int .i64 (sumA (xs.take i)))), (4, .v (.int .i64 (i : Nat))), (5, .v (.int .i64 (j : Nat)))]) (fun q => ⟨[], 1⟩) (fun j => j ≤ i ∧ ∀ k (hk : k < xs.length), k < j → isN q.name xs[k] = false) (fun j => i - j) 0 ⟨by simp, by simp⟩ ⟨rfl, rfl, rfl, rfl, trivial⟩ rfl ?_; intro j ρ' hJ; simp only [updL]; (try simp only [nA, Nat.reduceBEq, Nat.reduceEqDiff, ↓reduceIte, Nat.reduceAdd, Nat.reduceSub])
     (refine AW.seq_k ?_; intro K hK)
     (refine AW.seq_k ?_; intro K hK)
     refine AW.region ?_
     refine awP (op_move rfl rfl) ?_
     refine awP (op_move rfl rfl) ?_
     refine awP (op_lss rfl rfl rfl) ?_
     refine AWL.nil ?_
     (refine hK _ ?_; clear hK K; (try simp only [nA, Nat.reduceBEq, Nat.reduceEqDiff, ↓reduceIte, Nat.reduceAdd, Nat.reduceSub]))
     refine AW.cond rfl rfl rfl (fun hc => ?_) (fun hc => ?_)
     ·
      (try simp only [hcS] at hc); have hc4 := hc; have hjt : j < i := (by simpa using hc4); obtain ⟨p, hpj⟩ : ∃ p, xs[j]? = some p := ⟨xs[j]'(by omega), List.getElem?_eq_getElem (by omega)⟩; have hpe := (List.getElem?_eq_some_iff.1 hpj).2
      refine AW.skip ?_
      (refine hK _ ?_; clear hK K; (try simp only [nA, Nat.reduceBEq, Nat.reduceEqDiff, ↓reduceIte, Nat.reduceAdd, Nat.reduceSub]))
      (refine AW.seq_k ?_; intro K hK)
      refine AW.block ?_
      (refine AW.seq_k ?_; intro K hK)
      refine AW.quiet mix (by kernel_rfl) ?_
      refine aqP (op_move rfl rfl) ?_
      refine aqP (op_move rfl rfl) ?_
      (first | refine aqP (op_ia_ro j rfl (.inl rfl) rfl Try.underlying22 rfl (get_of hpj) (by exact sz25) (Nat.le_of_ble_eq_true rfl)) ?_ | refine aqP (op_ia_sl _ _ rfl rfl rfl rfl Try.underlying22 rfl (by omega) (by exact sz25) rfl) ?_)
      (first | refine aqP (op_fa_ptr rfl rfl rfl fl25_0 (by exact sz9) (by decide) rfl) ?_ | refine aqP (op_fa_rop rfl rfl fl25_0 (by exact sz9) (by decide) (Nat.le_of_ble_eq_true rfl) rfl) ?_)
      (first | refine aqR (op_load_ptr1 rfl rfl rfl rfl ag9 rfl rfl) ?_ | refine aqR (op_load_rop1 rfl rfl ag9) ?_)
      refine aqP (op_move rfl rfl) ?_
      refine aqP (op_move rfl rfl) ?_
      (first | refine aqP (op_ia_ro i rfl (.inl rfl) rfl Try.underlying22 rfl (get_of hqi) (by exact sz25) (Nat.le_of_ble_eq_true rfl)) ?_ | refine aqP (op_ia_sl _ _ rfl rfl rfl rfl Try.underlying22 rfl (by omega) (by exact sz25) rfl) ?_)
      (first | refine aqP (op_fa_ptr rfl rfl rfl fl25_0 (by exact sz9) (by decide) rfl) ?_ | refine aqP (op_fa_rop rfl rfl fl25_0 (by exact sz9) (by decide) (Nat.le_of_ble_eq_true rfl) rfl) ?_)
      (first | refine aqR (op_load_ptr1 rfl rfl rfl rfl ag9 rfl rfl) ?_ | refine aqR (op_load_rop1 rfl rfl ag9) ?_)
      (first | refine aqP (op_eql rfl rfl rfl) ?_ | refine aqP (op_seql rfl rfl rfl) ?_)
      refine AQ.nil ?_
      (refine hK _ ?_; clear hK K; (try simp only [nA, Nat.reduceBEq, Nat.reduceEqDiff, ↓reduceIte, Nat.reduceAdd, Nat.reduceSub]))
      refine AW.cond rfl rfl rfl (fun hc => ?_) (fun hc => ?_)
      ·
       (try simp only [hcS] at hc); have hc5 := hc; skip
       (refine AW.seq_k ?_; intro K hK)
       refine AW.region ?_
       refine awP (op_assign rfl rfl) ?_
       refine AWL.nil ?_
       (refine hK _ ?_; clear hK K; (try simp only [nA, Nat.reduceBEq, Nat.reduceEqDiff, ↓reduceIte, Nat.reduceAdd, Nat.reduceSub]))
       skip
       refine AW.ret ?_; (try simp only [thenE, inBlk, Nat.reduceEqDiff, ↓reduceIte]); rw [partyE_bad (by omega) (badE_at hlt hI.2 (code5 hqi (by simpa using hc3) (pos_yes hpj hjt (tl_eq.1 (by simpa using hc5)))) (by decide)) (by decide)]; exact RQ.of0 rfl (.tmp (Nat.le_of_ble_eq_true rfl) rfl rfl .nil)
      ·
       (try simp only [hcS] at hc); have hc5 := hc; skip
       refine AW.skip ?_
       (try simp only [thenE, inBlk, Nat.reduceEqDiff, ↓reduceIte])
       (refine hK _ ?_; clear hK K; (try simp only [nA, Nat.reduceBEq, Nat.reduceEqDiff, ↓reduceIte, Nat.reduceAdd, Nat.reduceSub]))
       refine AW.region ?_
       refine awP (op_move rfl rfl) ?_
       (first | refine awP (op_addi rfl rfl rfl (by omega)) ?_ | refine awP (op_add rfl rfl rfl rfl) ?_)
       refine awP (op_assign rfl rfl) ?_
       skip
       refine AWL.nil ?_
       refine ⟨j + 1, ⟨by omega, fun k hk hki => by rcases Nat.lt_or_ge k j with h' | h'; exact hJ.2 k hk h'; (obtain rfl : k = j := by omega); (rw [hpe]; simpa using fun h => hc5 (tl_eq.2 h))⟩, by omega, ⟨rfl, rfl, rfl, rfl, trivial⟩, (by first | rfl | trivial), (by first | rfl | trivial)⟩
     ·
      (try simp only [hcS] at hc); have hc4 := hc; skip
      refine AW.exit ?_; (try simp only [thenE, inBlk, Nat.reduceEqDiff, ↓reduceIte])
      clear hK K
      (refine hK _ ?_; clear hK K; (try simp only [nA, Nat.reduceBEq, Nat.reduceEqDiff, ↓reduceIte, Nat.reduceAdd, Nat.reduceSub]))
      (refine AW.seq_k ?_; intro K hK)
      (refine AW.seq_k ?_; intro K hK)
      refine AW.region (AWL.quiet ?_)
      refine aqP (op_move rfl rfl) ?_
      refine aqP (op_move rfl rfl) ?_
      (first | refine aqP (op_ia_ro i rfl (.inl rfl) rfl Try.underlying22 rfl (get_of hqi) (by exact sz25) (Nat.le_of_ble_eq_true rfl)) ?_ | refine aqP (op_ia_sl _ _ rfl rfl rfl rfl Try.underlying22 rfl (by omega) (by exact sz25) rfl) ?_)
      (first | refine aqP (op_fa_ptr rfl rfl rfl fl25_1 (by exact sz3) (by decide) rfl) ?_ | refine aqP (op_fa_rop rfl rfl fl25_1 (by exact sz3) (by decide) (Nat.le_of_ble_eq_true rfl) rfl) ?_)
      (first | refine aqR (op_load_ptr1 rfl rfl rfl rfl ag3 rfl rfl) ?_ | refine aqR (op_load_rop1 rfl rfl ag3) ?_)
      refine aqP (op_lss rfl rfl rfl) ?_
      refine aqP (op_move rfl rfl) ?_
      refine' aqOr' [_, _, _, _, _, _] [45,46,47,48,49,50] rfl rfl rfl rfl rfl rfl rfl rfl rfl rfl rfl rfl (fun hb => ?_) ?_; rotate_left
      ·
       (try simp only [hcS] at hb)
       refine aqP (op_move rfl rfl) ?_
       refine aqP (op_move rfl rfl) ?_
       (first | refine aqP (op_ia_ro i rfl (.inl rfl) rfl Try.underlying22 rfl (get_of hqi) (by exact sz25) (Nat.le_of_ble_eq_true rfl)) ?_ | refine aqP (op_ia_sl _ _ rfl rfl rfl rfl Try.underlying22 rfl (by omega) (by exact sz25) rfl) ?_)
       (first | refine aqP (op_fa_ptr rfl rfl rfl fl25_1 (by exact sz3) (by decide) rfl) ?_ | refine aqP (op_fa_rop rfl rfl fl25_1 (by exact sz3) (by decide) (Nat.le_of_ble_eq_true rfl) rfl) ?_)
       (first | refine aqR (op_load_ptr1 rfl rfl rfl rfl ag3 rfl rfl) ?_ | refine aqR (op_load_rop1 rfl rfl ag3) ?_)
       refine aqP (op_gtr rfl rfl rfl) ?_
       (refine aqSeg rfl rfl rfl ?_; repeat (first | exact fun _ _ => rfl | refine upd_out rfl ?_ | refine era_out rfl ?_))
      (try simp only [nA, Nat.reduceBEq, Nat.reduceEqDiff, ↓reduceIte, Nat.reduceAdd, Nat.reduceSub])
      refine AQ.nil ?_
      (refine hK _ ?_; clear hK K; (try simp only [nA, Nat.reduceBEq, Nat.reduceEqDiff, ↓reduceIte, Nat.reduceAdd, Nat.reduceSub]))
      refine AW.cond rfl rfl rfl (fun hc => ?_) (fun hc => ?_)
      ·
       (try simp only [hcS] at hc); have hc6 := hc; skip
       (refine AW.seq_k ?_; intro K hK)
       refine AW.region ?_
       refine awP (op_assign rfl rfl) ?_
       refine AWL.nil ?_
       (refine hK _ ?_; clear hK K; (try simp only [nA, Nat.reduceBEq, Nat.reduceEqDiff, ↓reduceIte, Nat.reduceAdd, Nat.reduceSub]))
       skip
       refine AW.ret ?_; (try simp only [thenE, inBlk, Nat.reduceEqDiff, ↓reduceIte]); rw [partyE_bad (by omega) (badE_at hlt hI.2 (code1 hqi (by simpa using hc3) (pos_none (n := q.name) (by omega : i ≤ xs.length) (fun k hk hki => hJ.2 k hk (by simp at hc4; omega))) (bfalse inB_iff (by omega))) (by decide)) (by decide)]; exact RQ.of0 rfl (.tmp (Nat.le_of_ble_eq_true rfl) rfl rfl .nil)
      ·
       (try simp only [hcS] at hc); have hc6 := hc; have hbd := sum_bd hI.1 hI.2
       refine AW.skip ?_
       (refine hK _ ?_; clear hK K; (try simp only [nA, Nat.reduceBEq, Nat.reduceEqDiff, ↓reduceIte, Nat.reduceAdd, Nat.reduceSub]))
       refine AW.region ?_
       refine awP (op_move rfl rfl) ?_
       refine awP (op_move rfl rfl) ?_
       refine awP (op_move rfl rfl) ?_
       (first | refine awP (op_ia_ro i rfl (.inl rfl) rfl Try.underlying22 rfl (get_of hqi) (by exact sz25) (Nat.le_of_ble_eq_true rfl)) ?_ | refine awP (op_ia_sl _ _ rfl rfl rfl rfl Try.underlying22 rfl (by omega) (by exact sz25) rfl) ?_)
       (first | refine awP (op_fa_ptr rfl rfl rfl fl25_1 (by exact sz3) (by decide) rfl) ?_ | refine awP (op_fa_rop rfl rfl fl25_1 (by exact sz3) (by decide) (Nat.le_of_ble_eq_true rfl) rfl) ?_)
       (first | refine awR (op_load_ptr1 rfl rfl rfl rfl ag3 rfl rfl) ?_ | refine awR (op_load_rop1 rfl rfl ag3) ?_)
       (first | refine awP (op_addi rfl rfl rfl (by omega)) ?_ | refine awP (op_add rfl rfl rfl rfl) ?_)
       refine awP (op_assign rfl rfl) ?_
       refine AWL.nil ?_
       (try simp only [thenE, inBlk, Nat.reduceEqDiff, ↓reduceIte])
       (refine hK _ ?_; clear hK K; (try simp only [nA, Nat.reduceBEq, Nat.reduceEqDiff, ↓reduceIte, Nat.reduceAdd, Nat.reduceSub]))
       refine AW.region ?_
       refine awP (op_move rfl rfl) ?_
       (first | refine awP (op_addi rfl rfl rfl (by omega)) ?_ | refine awP (op_add rfl rfl rfl rfl) ?_)
       refine awP (op_assign rfl rfl) ?_
       skip
       refine AWL.nil ?_
       refine ⟨i + 1, ⟨by omega, hI.2.next (code0 hqi (by simpa using hc3) (pos_none (n := q.name) (by omega : i ≤ xs.length) (fun k hk hki => hJ.2 k hk (by simp at hc4; omega))) (inB_iff.2 (by omega)))⟩, by omega, ⟨rfl, by rw [sumA_take hqi]; rfl, rfl, trivial⟩, (by first | rfl | trivial), (by first | rfl | trivial)⟩
   ·
    (try simp only [hcS] at hc); have hc2 := hc; have hsum := partyE_sum (by omega) (badE_no (fun k hk => hI.2 k (by simp at hc2; omega))); rw [List.take_of_length_le (by simp at hc2; omega)]
    refine AW.exit ?_; (try simp only [thenE, inBlk, Nat.reduceEqDiff, ↓reduceIte])
    clear hK K
    (refine hK _ ?_; clear hK K; (try simp only [nA, Nat.reduceBEq, Nat.reduceEqDiff, ↓reduceIte, Nat.reduceAdd, Nat.reduceSub]))
    (refine AW.seq_k ?_; intro K hK)
    (refine AW.seq_k ?_; intro K hK)
    refine AW.region ?_
    refine awP (op_move rfl rfl) ?_
    (first | refine awP (op_eql rfl rfl rfl) ?_ | refine awP (op_seql rfl rfl rfl) ?_)
    refine AWL.nil ?_
    (refine hK _ ?_; clear hK K; (try simp only [nA, Nat.reduceBEq, Nat.reduceEqDiff, ↓reduceIte, Nat.reduceAdd, Nat.reduceSub]))
    refine AW.cond rfl rfl rfl (fun hc => ?_) (fun hc => ?_)
    ·
     (try simp only [hcS] at hc); have hc7 := hc; skip
     (refine AW.seq_k ?_; intro K hK)
     refine AW.region ?_
     refine awP (op_assign rfl rfl) ?_
     refine AWL.nil ?_
     (refine hK _ ?_; clear hK K; (try simp only [nA, Nat.reduceBEq, Nat.reduceEqDiff, ↓reduceIte, Nat.reduceAdd, Nat.reduceSub]))
     skip
     refine AW.ret ?_; (try simp only [thenE, inBlk, Nat.reduceEqDiff, ↓reduceIte]); rw [hsum, if_pos (by simpa using hc7)]; exact RQ.of0 rfl (.tmp (Nat.le_of_ble_eq_true rfl) rfl rfl .nil)
    ·
     (try simp only [hcS] at hc); have hc7 := hc; skip
     refine AW.skip ?_
     (refine hK _ ?_; clear hK K; (try simp only [nA, Nat.reduceBEq, Nat.reduceEqDiff, ↓reduceIte, Nat.reduceAdd, Nat.reduceSub]))
     (refine AW.seq_k ?_; intro K hK)
     refine AW.region ?_
     refine awP (op_assign rfl rfl) ?_
     refine AWL.nil ?_
     (refine hK _ ?_; clear hK K; (try simp only [nA, Nat.reduceBEq, Nat.reduceEqDiff, ↓reduceIte, Nat.reduceAdd, Nat.reduceSub]))
     skip
     refine AW.ret ?_; (try simp only [thenE, inBlk, Nat.reduceEqDiff, ↓reduceIte]); rw [hsum, if_neg (by simpa using hc7)]; exact RQ.of0 rfl (.tmp (Nat.le_of_ble_eq_true rfl) rfl rfl .nil)
theorem C33 {xs : List Pr} : Fn Try.prog 33 [] [.ro (xs.map Pr.av)] [.v (.int .i64 (partyE xs))] [] := by
  refine Spec.small 0 rfl fun hx => ?_
  rw [List.length_map] at hx
  refine Spec.body Try.func33 rfl Try.ntmps33 (by simp) rfl ?_; intro S0 own0 v0 w0
  (refine AW.seq_k ?_; intro K hK)
  refine AW.region ?_
  refine awP (op_assign rfl rfl) ?_
  refine AWL.nil ?_
  (refine hK _ ?_; clear hK K; (try simp only [nA, Nat.reduceBEq, Nat.reduceEqDiff, ↓reduceIte, Nat.reduceAdd, Nat.reduceSub]))
  (refine AW.seq_k ?_; intro K hK)
  (refine AW.seq_k ?_; intro K hK)
  refine AW.region ?_
  refine awP (op_move rfl rfl) ?_
  (first | refine awP (op_len_ro rfl rfl Try.underlying22 (by first | exact .inr (.inl ⟨_, rfl, rfl⟩) | exact .inl rfl | exact .inr (.inr (.inl ⟨_, rfl, rfl⟩)) | exact .inr (.inr (.inr ⟨rfl, rfl⟩)))) ?_ | refine awP (op_len_sl rfl rfl rfl Try.underlying22) ?_ | refine awP (op_len_str rfl rfl Try.underlying22) ?_)
  refine awP (op_gtr rfl rfl rfl) ?_
  refine AWL.nil ?_
  (refine hK _ ?_; clear hK K; (try simp only [nA, Nat.reduceBEq, Nat.reduceEqDiff, ↓reduceIte, Nat.reduceAdd, Nat.reduceSub]))
  refine AW.cond rfl rfl rfl (fun hc => ?_) (fun hc => ?_)
  ·
   (try simp only [hcS] at hc); have hc1 := hc; skip
   (refine AW.seq_k ?_; intro K hK)
   refine AW.region ?_
   refine awP (op_assign rfl rfl) ?_
   refine AWL.nil ?_
   (refine hK _ ?_; clear hK K; (try simp only [nA, Nat.reduceBEq, Nat.reduceEqDiff, ↓reduceIte, Nat.reduceAdd, Nat.reduceSub]))
   skip
   refine AW.ret ?_; (try simp only [thenE, inBlk, Nat.reduceEqDiff, ↓reduceIte]); rw [show partyE xs = 2 by unfold partyE; rw [if_pos (by omega)]]; exact RQ.of0 rfl (.tmp (Nat.le_of_ble_eq_true rfl) rfl rfl .nil)
  ·
   (try simp only [hcS] at hc); have hc1 := hc; skip
   refine AW.skip ?_
   (refine hK _ ?_; clear hK K; (try simp only [nA, Nat.reduceBEq, Nat.reduceEqDiff, ↓reduceIte, Nat.reduceAdd, Nat.reduceSub]))
   (refine AW.seq_k ?_; intro K hK)
   refine AW.region ?_
   refine awP (op_assign rfl rfl) ?_
   refine AWL.nil ?_
   (refine hK _ ?_; clear hK K; (try simp only [nA, Nat.reduceBEq, Nat.reduceEqDiff, ↓reduceIte, Nat.reduceAdd, Nat.reduceSub]))
   (refine AW.seq_k ?_; intro K hK)
   (refine AW.seq_k ?_; intro K hK)
   refine AW.region ?_
   refine awP (op_move rfl rfl) ?_
   (first | refine awP (op_len_ro rfl rfl Try.underlying22 (by first | exact .inr (.inl ⟨_, rfl, rfl⟩) | exact .inl rfl | exact .inr (.inr (.inl ⟨_, rfl, rfl⟩)) | exact .inr (.inr (.inr ⟨rfl, rfl⟩)))) ?_ | refine awP (op_len_sl rfl rfl rfl Try.underlying22) ?_ | refine awP (op_len_str rfl rfl Try.underlying22) ?_)
   refine awP (op_move rfl rfl) ?_
   refine AWL.nil ?_
   (refine hK _ ?_; clear hK K; (try simp only [nA, Nat.reduceBEq, Nat.reduceEqDiff, ↓reduceIte, Nat.reduceAdd, Nat.reduceSub]))
   refine AW.block ?_
   refine AW.loopI (fun (q : Nat × Nat) => [(0, .ro (xs.map Pr.av)), (3, .v (.int .i64 (sumA (xs.take q.1)))), (11, .ro (xs.map Pr.av)), (12, .v (.int .i64 (xs.length : Nat))), (13, .v (.int .i64 (q.1 : Nat)))]) (fun q => ⟨[], q.2⟩) (fun q => q.1 ≤ xs.length ∧ OKs 0 xs q.1) (fun q => xs.length - q.1) (0, 1) ⟨by simp, fun k hk => absurd hk (by simp)⟩ ⟨rfl, by simp [sumA]; rfl, rfl, rfl, rfl, trivial⟩ rfl ?_; rintro ⟨i, e⟩ ρ hI; simp only at hI; simp only [updL]; (try simp only [nA, Nat.reduceBEq, Nat.reduceEqDiff, ↓reduceIte, Nat.reduceAdd, Nat.reduceSub])
   (refine AW.seq_k ?_; intro K hK)
   refine AW.region ?_
   refine awP (op_lss rfl rfl rfl) ?_
   refine AWL.nil ?_
   (refine hK _ ?_; clear hK K; (try simp only [nA, Nat.reduceBEq, Nat.reduceEqDiff, ↓reduceIte, Nat.reduceAdd, Nat.reduceSub]))
   (refine AW.seq_k ?_; intro K hK)
   refine AW.cond rfl rfl rfl (fun hc => ?_) (fun hc => ?_)
   ·
    (try simp only [hcS] at hc); have hc2 := hc; have hlt : i < xs.length := (by simpa using hc2); obtain ⟨q, hqi⟩ : ∃ q, xs[i]? = some q := ⟨xs[i], List.getElem?_eq_getElem hlt⟩; have hqe := (List.getElem?_eq_some_iff.1 hqi).2
    refine AW.skip ?_
    (refine hK _ ?_; clear hK K; (try simp only [nA, Nat.reduceBEq, Nat.reduceEqDiff, ↓reduceIte, Nat.reduceAdd, Nat.reduceSub]))
    (refine AW.seq_k ?_; intro K hK)
    refine AW.block ?_
    (refine AW.seq_k ?_; intro K hK)
    refine AW.region ?_
    refine awP (op_move rfl rfl) ?_
    (first | refine awP (op_ia_ro i rfl (.inl rfl) rfl Try.underlying22 rfl (get_of hqi) (by exact sz25) (Nat.le_of_ble_eq_true rfl)) ?_ | refine awP (op_ia_sl _ _ rfl rfl rfl rfl Try.underlying22 rfl (by omega) (by exact sz25) rfl) ?_)
    (first | refine awR (op_load_ptr rfl rfl rfl rfl ag25 sz25 (Nat.le_of_ble_eq_true rfl) rfl) ?_ | refine awR (op_load_rop rfl rfl ag25 sz25 (Nat.le_of_ble_eq_true rfl) (by decide) rfl) ?_)
    refine awJ (op_alloc rfl ze25 rfl) ?_; (try simp only [nA, Nat.reduceBEq, Nat.reduceEqDiff, ↓reduceIte, Nat.reduceAdd, Nat.reduceSub])
    refine awP (op_assign rfl rfl) ?_
    refine awJ (op_store rfl rfl rfl rfl rfl rfl sz25 rfl (Nat.le_of_ble_eq_true rfl) rfl) ?_; (try simp only [nA, Nat.reduceBEq, Nat.reduceEqDiff, ↓reduceIte, Nat.reduceAdd, Nat.reduceSub])
    refine AWL.nil ?_
    (refine hK _ ?_; clear hK K; (try simp only [nA, Nat.reduceBEq, Nat.reduceEqDiff, ↓reduceIte, Nat.reduceAdd, Nat.reduceSub]))
    (refine AW.seq_k ?_; intro K hK)
    (refine AW.seq_k ?_; intro K hK)
    refine AW.region ?_
    (first | refine awP (op_fa_ptr rfl rfl rfl fl25_0 (by exact sz9) (by decide) rfl) ?_ | refine awP (op_fa_rop rfl rfl fl25_0 (by exact sz9) (by decide) (Nat.le_of_ble_eq_true rfl) rfl) ?_)
    (first | refine awR (op_load_ptr1 rfl rfl rfl rfl ag9 rfl rfl) ?_ | refine awR (op_load_rop1 rfl rfl ag9) ?_)
    refine awJ (OpQ.j (op_callQ (b := true) rfl en39 (C39) (RL.cons (by first | exact View.same rfl | exact View.nil | exact View.rof | exact View.src .ro | exact View.src .rof | exact View.src (.sl rfl rfl) | exact View.ptr rfl rfl rfl) (RL.nil)) rfl)) ?_; (try simp only [nA, Nat.reduceBEq, Nat.reduceEqDiff, ↓reduceIte, Nat.reduceAdd, Nat.reduceSub])
    refine awP (op_not rfl rfl rfl) ?_
    refine AWL.nil ?_
    (refine hK _ ?_; clear hK K; (try simp only [nA, Nat.reduceBEq, Nat.reduceEqDiff, ↓reduceIte, Nat.reduceAdd, Nat.reduceSub]))
    refine AW.cond rfl rfl rfl (fun hc => ?_) (fun hc => ?_)
    ·
     (try simp only [hcS] at hc); have hc3 := hc; skip
     (refine AW.seq_k ?_; intro K hK)
     refine AW.region ?_
     refine awP (op_assign rfl rfl) ?_
     refine AWL.nil ?_
     (refine hK _ ?_; clear hK K; (try simp only [nA, Nat.reduceBEq, Nat.reduceEqDiff, ↓reduceIte, Nat.reduceAdd, Nat.reduceSub]))
     skip
     refine AW.ret ?_; (try simp only [thenE, inBlk, Nat.reduceEqDiff, ↓reduceIte]); rw [partyE_bad (by omega) (badE_at hlt hI.2 (code3 hqi (by simpa using hc3)) (by decide)) (by decide)]; exact RQ.of0 rfl (.tmp (Nat.le_of_ble_eq_true rfl) rfl rfl .nil)
    ·
     (try simp only [hcS] at hc); have hc3 := hc; skip
     refine AW.skip ?_
     (refine hK _ ?_; clear hK K; (try simp only [nA, Nat.reduceBEq, Nat.reduceEqDiff, ↓reduceIte, Nat.reduceAdd, Nat.reduceSub]))
     (refine AW.seq_k ?_; intro K hK)
     (refine AW.seq_k ?_; intro K hK)
     refine AW.region ?_
     refine awP (op_move rfl rfl) ?_
     refine awP (op_move rfl rfl) ?_
     refine awP (op_slice_ro 0 i rfl (.inl rfl) (by exact rfl) (by exact ⟨_, rfl⟩) (Nat.zero_le _) (by simp; omega) Try.underlying22 sz25 (Pr.len xs) (es' := (xs.take i).map Pr.av) (by simp [List.map_take])) ?_; (try simp only [nA, Nat.reduceBEq, Nat.reduceEqDiff, ↓reduceIte, Nat.reduceAdd, Nat.reduceSub])
     (first | refine awP (op_len_ro rfl rfl Try.underlying22 (by first | exact .inr (.inl ⟨_, rfl, rfl⟩) | exact .inl rfl | exact .inr (.inr (.inl ⟨_, rfl, rfl⟩)) | exact .inr (.inr (.inr ⟨rfl, rfl⟩)))) ?_ | refine awP (op_len_sl rfl rfl rfl Try.underlying22) ?_ | refine awP (op_len_str rfl rfl Try.underlying22) ?_)
     refine awP (op_move rfl rfl) ?_
     refine AWL.nil ?_
     (refine hK _ ?_; clear hK K; (try simp only [nA, Nat.reduceBEq, Nat.reduceEqDiff, ↓reduceIte, Nat.reduceAdd, Nat.reduceSub]))
     refine AW.block ?_
     refine AW.loopI (fun (j : Nat × Nat) => [(0, .ro (xs.map Pr.av)), (3, .v (.int .i64 (sumA (xs.take i)))), (11, .ro (xs.map Pr.av)), (12, .v (.int .i64 (xs.length : Nat))), (13, .v (.int .i64 (i : Nat))), (5, .ptr 0 e 0 0), (24, .ro ((xs.take i).map Pr.av)), (25, .v (.int .i64 (i : Nat))), (26, .v (.int .i64 (j.1 : Nat)))]) (fun z => ⟨[(e, .own 25 [q.av])], z.2⟩) (fun j => j.1 ≤ i ∧ ∀ k (hk : k < xs.length), k < j.1 → isN q.name xs[k] = false) (fun j => i - j.1) (0, e + 1) ⟨by simp, by simp⟩ ⟨rfl, rfl, rfl, rfl, rfl, rfl, rfl, by simp [Nat.min_eq_left (Nat.le_of_lt hlt)]; rfl, rfl, trivial⟩ rfl ?_; rintro ⟨j, f⟩ ρ' hJ; simp only at hJ; simp only [updL]; (try simp only [nA, Nat.reduceBEq, Nat.reduceEqDiff, ↓reduceIte, Nat.reduceAdd, Nat.reduceSub])
     (refine AW.seq_k ?_; intro K hK)
     refine AW.region ?_
     refine awP (op_lss rfl rfl rfl) ?_
     refine AWL.nil ?_
     (refine hK _ ?_; clear hK K; (try simp only [nA, Nat.reduceBEq, Nat.reduceEqDiff, ↓reduceIte, Nat.reduceAdd, Nat.reduceSub]))
     (refine AW.seq_k ?_; intro K hK)
     refine AW.cond rfl rfl rfl (fun hc => ?_) (fun hc => ?_)
     ·
      (try simp only [hcS] at hc); have hc4 := hc; have hjt : j < i := (by simpa using hc4); obtain ⟨p, hpj⟩ : ∃ p, xs[j]? = some p := ⟨xs[j]'(by omega), List.getElem?_eq_getElem (by omega)⟩; have hpe := (List.getElem?_eq_some_iff.1 hpj).2
      refine AW.skip ?_
      (refine hK _ ?_; clear hK K; (try simp only [nA, Nat.reduceBEq, Nat.reduceEqDiff, ↓reduceIte, Nat.reduceAdd, Nat.reduceSub]))
      (refine AW.seq_k ?_; intro K hK)
      refine AW.block ?_
      (refine AW.seq_k ?_; intro K hK)
      refine AW.region ?_
      (first | refine awP (op_ia_ro j rfl (.inl rfl) rfl Try.underlying22 rfl (get_of (by rw [List.getElem?_take_of_lt hjt]; exact hpj)) (by exact sz25) (Nat.le_of_ble_eq_true rfl)) ?_ | refine awP (op_ia_sl _ _ rfl rfl rfl rfl Try.underlying22 rfl (by omega) (by exact sz25) rfl) ?_)
      (first | refine awR (op_load_ptr rfl rfl rfl rfl ag25 sz25 (Nat.le_of_ble_eq_true rfl) rfl) ?_ | refine awR (op_load_rop rfl rfl ag25 sz25 (Nat.le_of_ble_eq_true rfl) (by decide) rfl) ?_)
      refine awJ (op_alloc rfl ze25 rfl) ?_; (try simp only [nA, Nat.reduceBEq, Nat.reduceEqDiff, ↓reduceIte, Nat.reduceAdd, Nat.reduceSub])
      refine awJ (op_store rfl rfl rfl rfl rfl rfl sz25 rfl (Nat.le_of_ble_eq_true rfl) rfl) ?_; (try simp only [nA, Nat.reduceBEq, Nat.reduceEqDiff, ↓reduceIte, Nat.reduceAdd, Nat.reduceSub])
      refine AWL.nil ?_
      (refine hK _ ?_; clear hK K; (try simp only [nA, Nat.reduceBEq, Nat.reduceEqDiff, ↓reduceIte, Nat.reduceAdd, Nat.reduceSub]))
      (refine AW.seq_k ?_; intro K hK)
      refine AW.region ?_
      (first | refine awP (op_fa_ptr rfl rfl rfl fl25_0 (by exact sz9) (by decide) rfl) ?_ | refine awP (op_fa_rop rfl rfl fl25_0 (by exact sz9) (by decide) (Nat.le_of_ble_eq_true rfl) rfl) ?_)
      (first | refine awR (op_load_ptr1 rfl rfl rfl rfl ag9 rfl rfl) ?_ | refine awR (op_load_rop1 rfl rfl ag9) ?_)
      (first | refine awP (op_fa_ptr rfl rfl rfl fl25_0 (by exact sz9) (by decide) rfl) ?_ | refine awP (op_fa_rop rfl rfl fl25_0 (by exact sz9) (by decide) (Nat.le_of_ble_eq_true rfl) rfl) ?_)
      (first | refine awR (op_load_ptr1 rfl rfl rfl rfl ag9 rfl rfl) ?_ | refine awR (op_load_rop1 rfl rfl ag9) ?_)
      (first | refine awP (op_eql rfl rfl rfl) ?_ | refine awP (op_seql rfl rfl rfl) ?_)
      refine AWL.nil ?_
      (refine hK _ ?_; clear hK K; (try simp only [nA, Nat.reduceBEq, Nat.reduceEqDiff, ↓reduceIte, Nat.reduceAdd, Nat.reduceSub]))
      refine AW.cond rfl rfl rfl (fun hc => ?_) (fun hc => ?_)
      ·
       (try simp only [hcS] at hc); have hc5 := hc; skip
       (refine AW.seq_k ?_; intro K hK)
       refine AW.region ?_
       refine awP (op_assign rfl rfl) ?_
       refine AWL.nil ?_
       (refine hK _ ?_; clear hK K; (try simp only [nA, Nat.reduceBEq, Nat.reduceEqDiff, ↓reduceIte, Nat.reduceAdd, Nat.reduceSub]))
       skip
       refine AW.ret ?_; (try simp only [thenE, inBlk, Nat.reduceEqDiff, ↓reduceIte]); rw [partyE_bad (by omega) (badE_at hlt hI.2 (code5 hqi (by simpa using hc3) (pos_yes hpj hjt (tl_eq.1 (by simpa using hc5)))) (by decide)) (by decide)]; exact RQ.of0 rfl (.tmp (Nat.le_of_ble_eq_true rfl) rfl rfl .nil)
      ·
       (try simp only [hcS] at hc); have hc5 := hc; skip
       refine AW.skip ?_
       (try simp only [thenE, inBlk, Nat.reduceEqDiff, ↓reduceIte])
       (refine hK _ ?_; clear hK K; (try simp only [nA, Nat.reduceBEq, Nat.reduceEqDiff, ↓reduceIte, Nat.reduceAdd, Nat.reduceSub]))
       refine AW.region ?_
       (first | refine awP (op_addi rfl rfl rfl (by omega)) ?_ | refine awP (op_add rfl rfl rfl rfl) ?_)
       refine awP (op_move rfl rfl) ?_
       refine AWL.gh (Gh.drop 1) ?_; (try simp only [nA, Nat.reduceBEq, Nat.reduceEqDiff, ↓reduceIte, Nat.reduceAdd, Nat.reduceSub])
       refine AWL.nil ?_
       refine ⟨(j + 1, _), ⟨by dsimp only; omega, fun k hk hki => by rcases Nat.lt_or_ge k j with h' | h'; exact hJ.2 k hk h'; (obtain rfl : k = j := by dsimp only at hki; omega); (rw [hpe]; simpa using fun h => hc5 (tl_eq.2 h))⟩, by dsimp only; omega, ⟨rfl, rfl, rfl, rfl, rfl, rfl, rfl, rfl, rfl, trivial⟩, (by first | rfl | trivial), (by first | rfl | trivial)⟩
     ·
      (try simp only [hcS] at hc); have hc4 := hc; skip
      refine AW.exit ?_; (try simp only [thenE, inBlk, Nat.reduceEqDiff, ↓reduceIte])
      clear hK K
      (refine hK _ ?_; clear hK K; (try simp only [nA, Nat.reduceBEq, Nat.reduceEqDiff, ↓reduceIte, Nat.reduceAdd, Nat.reduceSub]))
      (refine AW.seq_k ?_; intro K hK)
      (refine AW.seq_k ?_; intro K hK)
      refine AW.region ?_
      (first | refine awP (op_fa_ptr rfl rfl rfl fl25_1 (by exact sz3) (by decide) rfl) ?_ | refine awP (op_fa_rop rfl rfl fl25_1 (by exact sz3) (by decide) (Nat.le_of_ble_eq_true rfl) rfl) ?_)
      (first | refine awR (op_load_ptr1 rfl rfl rfl rfl ag3 rfl rfl) ?_ | refine awR (op_load_rop1 rfl rfl ag3) ?_)
      refine awJ (OpQ.j (op_callQ (b := true) rfl en32 (C32) (RL.cons (by first | exact View.same rfl | exact View.nil | exact View.rof | exact View.src .ro | exact View.src .rof | exact View.src (.sl rfl rfl) | exact View.ptr rfl rfl rfl) (RL.cons (by first | exact View.same rfl | exact View.nil | exact View.rof | exact View.src .ro | exact View.src .rof | exact View.src (.sl rfl rfl) | exact View.ptr rfl rfl rfl) (RL.cons (by first | exact View.same rfl | exact View.nil | exact View.rof | exact View.src .ro | exact View.src .rof | exact View.src (.sl rfl rfl) | exact View.ptr rfl rfl rfl) (RL.nil)))) rfl)) ?_; (try simp only [nA, Nat.reduceBEq, Nat.reduceEqDiff, ↓reduceIte, Nat.reduceAdd, Nat.reduceSub])
      refine awP (op_not rfl rfl rfl) ?_
      refine AWL.nil ?_
      (refine hK _ ?_; clear hK K; (try simp only [nA, Nat.reduceBEq, Nat.reduceEqDiff, ↓reduceIte, Nat.reduceAdd, Nat.reduceSub]))
      refine AW.cond rfl rfl rfl (fun hc => ?_) (fun hc => ?_)
      ·
       (try simp only [hcS] at hc); have hc6 := hc; skip
       (refine AW.seq_k ?_; intro K hK)
       refine AW.region ?_
       refine awP (op_assign rfl rfl) ?_
       refine AWL.nil ?_
       (refine hK _ ?_; clear hK K; (try simp only [nA, Nat.reduceBEq, Nat.reduceEqDiff, ↓reduceIte, Nat.reduceAdd, Nat.reduceSub]))
       skip
       refine AW.ret ?_; (try simp only [thenE, inBlk, Nat.reduceEqDiff, ↓reduceIte]); rw [partyE_bad (by omega) (badE_at hlt hI.2 (code1 hqi (by simpa using hc3) (pos_none (n := q.name) (by omega : i ≤ xs.length) (fun k hk hki => hJ.2 k hk (by simp at hc4; omega))) (by simpa using hc6)) (by decide)) (by decide)]; exact RQ.of0 rfl (.tmp (Nat.le_of_ble_eq_true rfl) rfl rfl .nil)
      ·
       (try simp only [hcS] at hc); have hc6 := hc; have hbd := sum_bd hI.1 hI.2; have hq6 := inB_iff.1 hc6
       refine AW.skip ?_
       (refine hK _ ?_; clear hK K; (try simp only [nA, Nat.reduceBEq, Nat.reduceEqDiff, ↓reduceIte, Nat.reduceAdd, Nat.reduceSub]))
       refine AW.region ?_
       refine awP (op_move rfl rfl) ?_
       (first | refine awP (op_fa_ptr rfl rfl rfl fl25_1 (by exact sz3) (by decide) rfl) ?_ | refine awP (op_fa_rop rfl rfl fl25_1 (by exact sz3) (by decide) (Nat.le_of_ble_eq_true rfl) rfl) ?_)
       (first | refine awR (op_load_ptr1 rfl rfl rfl rfl ag3 rfl rfl) ?_ | refine awR (op_load_rop1 rfl rfl ag3) ?_)
       (first | refine awP (op_addi rfl rfl rfl (by omega)) ?_ | refine awP (op_add rfl rfl rfl rfl) ?_)
       refine awP (op_assign rfl rfl) ?_
       refine AWL.nil ?_
       (try simp only [thenE, inBlk, Nat.reduceEqDiff, ↓reduceIte])
       (refine hK _ ?_; clear hK K; (try simp only [nA, Nat.reduceBEq, Nat.reduceEqDiff, ↓reduceIte, Nat.reduceAdd, Nat.reduceSub]))
       refine AW.region ?_
       (first | refine awP (op_addi rfl rfl rfl (by omega)) ?_ | refine awP (op_add rfl rfl rfl rfl) ?_)
       refine awP (op_move rfl rfl) ?_
       refine AWL.gh (Gh.drop 0) ?_; (try simp only [nA, Nat.reduceBEq, Nat.reduceEqDiff, ↓reduceIte, Nat.reduceAdd, Nat.reduceSub])
       refine AWL.nil ?_
       refine ⟨(i + 1, _), ⟨by dsimp only; omega, hI.2.next (code0 hqi (by simpa using hc3) (pos_none (n := q.name) (by omega : i ≤ xs.length) (fun k hk hki => hJ.2 k hk (by simp at hc4; omega))) (by simpa using hc6))⟩, by dsimp only; omega, ⟨rfl, by rw [sumA_take hqi]; rfl, rfl, rfl, rfl, trivial⟩, (by first | rfl | trivial), (by first | rfl | trivial)⟩
   ·
    (try simp only [hcS] at hc); have hc2 := hc; have hsum := partyE_sum (by omega) (badE_no (fun k hk => hI.2 k (by simp at hc2; omega))); rw [List.take_of_length_le (by simp at hc2; omega)]
    refine AW.exit ?_; (try simp only [thenE, inBlk, Nat.reduceEqDiff, ↓reduceIte])
    clear hK K
    (refine hK _ ?_; clear hK K; (try simp only [nA, Nat.reduceBEq, Nat.reduceEqDiff, ↓reduceIte, Nat.reduceAdd, Nat.reduceSub]))
    (refine AW.seq_k ?_; intro K hK)
    (refine AW.seq_k ?_; intro K hK)
    refine AW.region ?_
    refine awP (op_move rfl rfl) ?_
    (first | refine awP (op_eql rfl rfl rfl) ?_ | refine awP (op_seql rfl rfl rfl) ?_)
    refine AWL.nil ?_
    (refine hK _ ?_; clear hK K; (try simp only [nA, Nat.reduceBEq, Nat.reduceEqDiff, ↓reduceIte, Nat.reduceAdd, Nat.reduceSub]))
    refine AW.cond rfl rfl rfl (fun hc => ?_) (fun hc => ?_)
    ·
     (try simp only [hcS] at hc); have hc7 := hc; skip
     (refine AW.seq_k ?_; intro K hK)
     refine AW.region ?_
     refine awP (op_assign rfl rfl) ?_
     refine AWL.nil ?_
     (refine hK _ ?_; clear hK K; (try simp only [nA, Nat.reduceBEq, Nat.reduceEqDiff, ↓reduceIte, Nat.reduceAdd, Nat.reduceSub]))
     skip
     refine AW.ret ?_; (try simp only [thenE, inBlk, Nat.reduceEqDiff, ↓reduceIte]); rw [hsum, if_pos (by simpa using hc7)]; exact RQ.of0 rfl (.tmp (Nat.le_of_ble_eq_true rfl) rfl rfl .nil)
    ·
     (try simp only [hcS] at hc); have hc7 := hc; skip
     refine AW.skip ?_
     (refine hK _ ?_; clear hK K; (try simp only [nA, Nat.reduceBEq, Nat.reduceEqDiff, ↓reduceIte, Nat.reduceAdd, Nat.reduceSub]))
     (refine AW.seq_k ?_; intro K hK)
     refine AW.region ?_
     refine awP (op_assign rfl rfl) ?_
     refine AWL.nil ?_
     (refine hK _ ?_; clear hK K; (try simp only [nA, Nat.reduceBEq, Nat.reduceEqDiff, ↓reduceIte, Nat.reduceAdd, Nat.reduceSub]))
     skip
     refine AW.ret ?_; (try simp only [thenE, inBlk, Nat.reduceEqDiff, ↓reduceIte]); rw [hsum, if_neg (by simpa using hc7)]; exact RQ.of0 rfl (.tmp (Nat.le_of_ble_eq_true rfl) rfl rfl .nil)
end Go.Proofs.Ytnflkbgappgdiaa
