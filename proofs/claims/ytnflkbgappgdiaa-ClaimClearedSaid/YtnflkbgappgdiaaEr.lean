import Derived.Test.YtnflkbgappgdiaaEq
namespace Go.Proofs.Ytnflkbgappgdiaa
open Go.RowKit
set_option linter.unusedSimpArgs false
set_option linter.unusedVariables false

def zPr : Pr := ⟨⟨#[]⟩, 0⟩
abbrev nB (payer : ByteArray) (xs : List Pr) : Nat := xs.length + absN payer xs
def outI (payer : ByteArray) (xs : List Pr) (i : Nat) : List Pr := ((xs.take i).map (negP payer) ++ List.replicate (nB payer xs - i) zPr).set (posL xs payer) ⟨payer, othS payer xs i⟩
def outM (payer : ByteArray) (xs : List Pr) (i : Nat) : List Pr := ((xs.take (i + 1)).map (negP payer) ++ List.replicate (nB payer xs - (i + 1)) zPr).set (posL xs payer) ⟨payer, othS payer xs i⟩
theorem at_lt (payer : ByteArray) (xs : List Pr) : posL xs payer < nB payer xs := by
  have := posL_le xs payer
  unfold nB absN
  split <;> omega
theorem outI_len {payer : ByteArray} {xs : List Pr} {i : Nat} (h : i ≤ xs.length) : (outI payer xs i).length = nB payer xs := by
  unfold outI nB
  simp
  omega
theorem outM_len {payer : ByteArray} {xs : List Pr} {i : Nat} (h : i < xs.length) : (outM payer xs i).length = nB payer xs := by
  unfold outM nB
  simp
  omega
theorem outI_0 (payer : ByteArray) (xs : List Pr) : (List.replicate (nB payer xs) (Pr.av zPr)).set (posL xs payer) (splice (Pr.av zPr) 0 [.v (.string payer)]) = (outI payer xs 0).map Pr.av := by
  unfold outI
  rw [List.map_set]
  simp [othS]
  rfl
theorem outM_set {payer : ByteArray} {xs : List Pr} {i : Nat} {q p : Pr} (h : xs[i]? = some q) (hne : ¬ q.name = payer) (hia : i ≠ posL xs payer) : ((outI payer xs i).map Pr.av).set i (splice (Pr.av p) 0 (Pr.av ⟨q.name, -q.amt⟩)) = (outM payer xs i).map Pr.av := by
  have hi := (List.getElem?_eq_some_iff.1 h).1
  have hl : ((xs.take i).map (negP payer)).length = i := by simp; omega
  show ((outI payer xs i).map Pr.av).set i (Pr.av ⟨q.name, -q.amt⟩) = _
  rw [← List.map_set]
  congr 1
  unfold outI outM
  rw [List.set_comm _ _ (Ne.symm hia), neg_take h, show negP payer q = ⟨q.name, -q.amt⟩ by unfold negP; rw [if_neg hne], show nB payer xs - i = (nB payer xs - (i + 1)) + 1 by unfold nB; omega, List.replicate_succ, List.set_append_right _ _ (by omega), hl, Nat.sub_self, List.append_assoc]
  rfl
theorem outM_at {payer : ByteArray} {xs : List Pr} {i : Nat} (h : i < xs.length) : ((outM payer xs i).map Pr.av)[posL xs payer]? = some (Pr.av ⟨payer, othS payer xs i⟩) := by
  have := outM_len (payer := payer) h
  have h2 := at_lt payer xs
  rw [List.getElem?_map]
  unfold outM at *
  rw [List.length_set] at this
  rw [List.getElem?_set_self (by omega)]
  rfl
theorem outM_next {payer : ByteArray} {xs : List Pr} {i : Nat} {q : Pr} (h : xs[i]? = some q) (hne : ¬ q.name = payer) : ((outM payer xs i).map Pr.av).set (posL xs payer) (splice (Pr.av ⟨payer, othS payer xs i⟩) 1 [.v (.int .i64 (othS payer xs i + q.amt))]) = (outI payer xs (i + 1)).map Pr.av := by
  show ((outM payer xs i).map Pr.av).set (posL xs payer) (Pr.av ⟨payer, othS payer xs i + q.amt⟩) = _
  rw [← List.map_set]
  congr 1
  unfold outM outI
  rw [List.set_set, othS_s h, show othP payer q = q.amt by unfold othP; rw [if_neg hne]]
theorem outI_skip {payer : ByteArray} {xs : List Pr} {i : Nat} {q : Pr} (h : xs[i]? = some q) (hn : q.name = payer) (hia : i = posL xs payer) : outI payer xs (i + 1) = outI payer xs i := by
  have hi := (List.getElem?_eq_some_iff.1 h).1
  have hl : ((xs.take i).map (negP payer)).length = i := by simp; omega
  have key : ∀ (A R : List Pr) (x y X : Pr), (A ++ x :: R).set A.length X = (A ++ y :: R).set A.length X := fun A R x y X => by simp
  unfold outI
  rw [othS_s h, show othP payer q = 0 by unfold othP; rw [if_pos hn], Int.add_zero, ← hia, neg_take h, List.append_assoc, show nB payer xs - i = (nB payer xs - (i + 1)) + 1 by unfold nB; omega, List.replicate_succ]
  have := key ((xs.take i).map (negP payer)) (List.replicate (nB payer xs - (i + 1)) zPr) (negP payer q) zPr ⟨payer, othS payer xs i⟩
  rw [hl] at this
  exact this
theorem outI_end (payer : ByteArray) (xs : List Pr) : outI payer xs xs.length = balL payer xs := by
  unfold outI balL llP nB absN
  rw [List.take_length]
  split
  · simp
  · rename_i h
    have := posL_le xs payer
    have h0 : posL xs payer = xs.length := by omega
    rw [h0, List.set_append_right _ _ (by simp), List.set_append_right _ _ (by simp)]
    simp
theorem C25 {payer : ByteArray} {xs : List Pr} (h0 : xs.length ≤ 1000) : Fn Try.prog 25 [] [.v (.string payer), .ro (xs.map Pr.av)] [.ro ((balanceV payer xs).1.map Pr.av), .v (.int .i64 (balanceV payer xs).2)] [] := by
  refine Spec.small 1 rfl fun hx => ?_
  rw [List.length_map] at hx
  refine Spec.body Try.func25 rfl Try.ntmps25 (by simp) rfl ?_; intro S0 own0 v0 w0
  (refine AW.seq_k ?_; intro K hK)
  refine AW.region ?_
  refine awP (op_assign rfl rfl) ?_; (try simp only [nA, Nat.reduceBEq, Nat.reduceEqDiff, ↓reduceIte, Nat.reduceAdd, Nat.reduceSub])
  refine awP (op_assign rfl rfl) ?_; (try simp only [nA, Nat.reduceBEq, Nat.reduceEqDiff, ↓reduceIte, Nat.reduceAdd, Nat.reduceSub])
  refine AWL.nil ?_
  (refine hK _ ?_; clear hK K; (try simp only [nA, Nat.reduceBEq, Nat.reduceEqDiff, ↓reduceIte, Nat.reduceAdd, Nat.reduceSub]))
  (refine AW.seq_k ?_; intro K hK)
  (refine AW.seq_k ?_; intro K hK)
  refine AW.region ?_
  refine awP (op_move rfl rfl) ?_; (try simp only [nA, Nat.reduceBEq, Nat.reduceEqDiff, ↓reduceIte, Nat.reduceAdd, Nat.reduceSub])
  refine awJ (OpQ.j (op_callQ (b := true) rfl en39 (C39) (RL.cons (by first | exact View.same rfl | exact View.nil | exact View.rof | exact View.src .ro | exact View.src .rof | exact View.src (.sl rfl rfl) | exact View.ptr rfl rfl rfl) (RL.nil)) rfl)) ?_; (try simp only [nA, Nat.reduceBEq, Nat.reduceEqDiff, ↓reduceIte, Nat.reduceAdd, Nat.reduceSub])
  refine awP (op_not rfl rfl rfl) ?_; (try simp only [nA, Nat.reduceBEq, Nat.reduceEqDiff, ↓reduceIte, Nat.reduceAdd, Nat.reduceSub])
  refine AWL.nil ?_
  (refine hK _ ?_; clear hK K; (try simp only [nA, Nat.reduceBEq, Nat.reduceEqDiff, ↓reduceIte, Nat.reduceAdd, Nat.reduceSub]))
  refine AW.cond rfl rfl rfl (fun hc => ?_) (fun hc => ?_)
  ·
   (try simp only [hcS] at hc); have hc1 := hc; skip
   (refine AW.seq_k ?_; intro K hK)
   refine AW.region ?_
   refine awP (op_assign rfl rfl) ?_; (try simp only [nA, Nat.reduceBEq, Nat.reduceEqDiff, ↓reduceIte, Nat.reduceAdd, Nat.reduceSub])
   refine awP (op_assign rfl rfl) ?_; (try simp only [nA, Nat.reduceBEq, Nat.reduceEqDiff, ↓reduceIte, Nat.reduceAdd, Nat.reduceSub])
   refine AWL.nil ?_
   (refine hK _ ?_; clear hK K; (try simp only [nA, Nat.reduceBEq, Nat.reduceEqDiff, ↓reduceIte, Nat.reduceAdd, Nat.reduceSub]))
   refine AW.gh (Gh.nil (e := 43) 4 (Nat.le_of_ble_eq_true rfl) rfl sz43) ?_; (try simp only [nA, Nat.reduceBEq, Nat.reduceEqDiff, ↓reduceIte, Nat.reduceAdd, Nat.reduceSub]); refine AW.gh (Gh.freeze 4 (Nat.le_of_ble_eq_true rfl) rfl rfl (by simp) (es' := ([] : List Pr).map Pr.av) rfl) ?_; (try simp only [nA, Nat.reduceBEq, Nat.reduceEqDiff, ↓reduceIte, Nat.reduceAdd, Nat.reduceSub])
   refine AW.ret ?_; (try simp only [thenE, inBlk, Nat.reduceEqDiff, ↓reduceIte]); rw [show balanceV payer xs = ([], 3) by unfold balanceV; rw [if_pos (by simpa using hc1)]]; exact RQ.of0 rfl (.tmp (Nat.le_of_ble_eq_true rfl) rfl rfl (.tmp (Nat.le_of_ble_eq_true rfl) rfl rfl .nil))
  ·
   (try simp only [hcS] at hc); have hc1 := hc; have hnb : nameB payer = true := (by simpa using hc1)
   refine AW.skip ?_
   (refine hK _ ?_; clear hK K; (try simp only [nA, Nat.reduceBEq, Nat.reduceEqDiff, ↓reduceIte, Nat.reduceAdd, Nat.reduceSub]))
   (refine AW.seq_k ?_; intro K hK)
   refine AW.region ?_
   refine awP (op_move rfl rfl) ?_; (try simp only [nA, Nat.reduceBEq, Nat.reduceEqDiff, ↓reduceIte, Nat.reduceAdd, Nat.reduceSub])
   refine awP (op_move rfl rfl) ?_; (try simp only [nA, Nat.reduceBEq, Nat.reduceEqDiff, ↓reduceIte, Nat.reduceAdd, Nat.reduceSub])
   refine awJ (OpQ.j (op_callQ (b := true) rfl en40 (C40) (RL.cons (by first | exact View.same rfl | exact View.nil | exact View.rof | exact View.src .ro | exact View.src .rof | exact View.src (.sl rfl rfl) | exact View.ptr rfl rfl rfl) (RL.cons (by first | exact View.same rfl | exact View.nil | exact View.rof | exact View.src .ro | exact View.src .rof | exact View.src (.sl rfl rfl) | exact View.ptr rfl rfl rfl) (RL.nil))) rfl)) ?_; (try simp only [nA, Nat.reduceBEq, Nat.reduceEqDiff, ↓reduceIte, Nat.reduceAdd, Nat.reduceSub])
   refine awP (op_move rfl rfl) ?_; (try simp only [nA, Nat.reduceBEq, Nat.reduceEqDiff, ↓reduceIte, Nat.reduceAdd, Nat.reduceSub])
   (first | refine awP (op_len_ro rfl rfl Try.underlying34 (by first | exact .inr (.inl ⟨_, rfl, rfl⟩) | exact .inl rfl | exact .inr (.inr (.inl ⟨_, rfl, rfl⟩)) | exact .inr (.inr (.inr ⟨rfl, rfl⟩)))) ?_ | refine awP (op_len_sl rfl rfl rfl Try.underlying34) ?_ | refine awP (op_len_str rfl rfl Try.underlying34) ?_); (try simp only [nA, Nat.reduceBEq, Nat.reduceEqDiff, ↓reduceIte, Nat.reduceAdd, Nat.reduceSub])
   refine awP (op_assign rfl rfl) ?_; (try simp only [nA, Nat.reduceBEq, Nat.reduceEqDiff, ↓reduceIte, Nat.reduceAdd, Nat.reduceSub])
   refine awP (op_assign rfl rfl) ?_; (try simp only [nA, Nat.reduceBEq, Nat.reduceEqDiff, ↓reduceIte, Nat.reduceAdd, Nat.reduceSub])
   refine AWL.nil ?_
   (refine hK _ ?_; clear hK K; (try simp only [nA, Nat.reduceBEq, Nat.reduceEqDiff, ↓reduceIte, Nat.reduceAdd, Nat.reduceSub]))
   refine AW.join (ι := Unit) (fun _ => [(0, .v (.string payer)), (1, .ro (xs.map Pr.av)), (6, .v (.int .i64 ((posL xs payer : Nat) : Int))), (7, .v (.int .i64 ((nB payer xs : Nat) : Int)))]) (fun _ => ⟨[], 1⟩) (fun _ => True) ?_ ?_
   ·
    (refine AW.seq_k ?_; intro K hK)
    refine AW.region ?_
    refine awP (op_move rfl rfl) ?_; (try simp only [nA, Nat.reduceBEq, Nat.reduceEqDiff, ↓reduceIte, Nat.reduceAdd, Nat.reduceSub])
    refine awP (op_lss rfl rfl rfl) ?_; (try simp only [nA, Nat.reduceBEq, Nat.reduceEqDiff, ↓reduceIte, Nat.reduceAdd, Nat.reduceSub])
    refine AWL.nil ?_
    (refine hK _ ?_; clear hK K; (try simp only [nA, Nat.reduceBEq, Nat.reduceEqDiff, ↓reduceIte, Nat.reduceAdd, Nat.reduceSub]))
    refine AW.cond rfl rfl rfl (fun hc => ?_) (fun hc => ?_)
    ·
     (try simp only [hcS] at hc); have hc2 := hc; skip
     refine AW.region ?_
     refine awP (op_move rfl rfl) ?_; (try simp only [nA, Nat.reduceBEq, Nat.reduceEqDiff, ↓reduceIte, Nat.reduceAdd, Nat.reduceSub])
     refine awP (op_move rfl rfl) ?_; (try simp only [nA, Nat.reduceBEq, Nat.reduceEqDiff, ↓reduceIte, Nat.reduceAdd, Nat.reduceSub])
     (first | refine awP (op_addi rfl rfl rfl (by omega)) ?_ | refine awP (op_add rfl rfl rfl rfl) ?_); (try simp only [nA, Nat.reduceBEq, Nat.reduceEqDiff, ↓reduceIte, Nat.reduceAdd, Nat.reduceSub])
     refine awP (op_assign rfl rfl) ?_; (try simp only [nA, Nat.reduceBEq, Nat.reduceEqDiff, ↓reduceIte, Nat.reduceAdd, Nat.reduceSub])
     refine awP (op_assign rfl rfl) ?_; (try simp only [nA, Nat.reduceBEq, Nat.reduceEqDiff, ↓reduceIte, Nat.reduceAdd, Nat.reduceSub])
     refine AWL.nil ?_
     have hlt : ¬ posL xs payer < xs.length := (fun h => by have := posI_nn.2 h; omega); have hab : absN payer xs = 1 := (by unfold absN; rw [if_neg hlt]); have hle := posL_le xs payer; refine ⟨(), trivial, ⟨rfl, rfl, (by rw [show posL xs payer = xs.length by omega]; rfl), (by unfold nB; rw [hab]; rfl), trivial⟩, rfl, rfl⟩
    ·
     (try simp only [hcS] at hc); have hc2 := hc; skip
     refine AW.skip ?_
     have hlt : posL xs payer < xs.length := posI_nn.1 (by omega); have hab : absN payer xs = 0 := (by unfold absN; rw [if_pos hlt]); refine ⟨(), trivial, ⟨rfl, rfl, (by rw [show ((posL xs payer : Nat) : Int) = posI xs payer by unfold posI; rw [if_pos hlt]]; rfl), (by unfold nB; rw [hab]; rfl), trivial⟩, rfl, rfl⟩
   intro _ ρ _; simp only [updL]; (try simp only [nA, Nat.reduceBEq, Nat.reduceEqDiff, ↓reduceIte, Nat.reduceAdd, Nat.reduceSub]); have hat := at_lt payer xs
   (refine AW.seq_k ?_; intro K hK)
   (refine AW.seq_k ?_; intro K hK)
   refine AW.region ?_
   refine awP (op_move rfl rfl) ?_; (try simp only [nA, Nat.reduceBEq, Nat.reduceEqDiff, ↓reduceIte, Nat.reduceAdd, Nat.reduceSub])
   refine awP (op_gtr rfl rfl rfl) ?_; (try simp only [nA, Nat.reduceBEq, Nat.reduceEqDiff, ↓reduceIte, Nat.reduceAdd, Nat.reduceSub])
   refine AWL.nil ?_
   (refine hK _ ?_; clear hK K; (try simp only [nA, Nat.reduceBEq, Nat.reduceEqDiff, ↓reduceIte, Nat.reduceAdd, Nat.reduceSub]))
   refine AW.cond rfl rfl rfl (fun hc => ?_) (fun hc => ?_)
   ·
    (try simp only [hcS] at hc); have hc3 := hc; skip
    (refine AW.seq_k ?_; intro K hK)
    refine AW.region ?_
    refine awP (op_assign rfl rfl) ?_; (try simp only [nA, Nat.reduceBEq, Nat.reduceEqDiff, ↓reduceIte, Nat.reduceAdd, Nat.reduceSub])
    refine awP (op_assign rfl rfl) ?_; (try simp only [nA, Nat.reduceBEq, Nat.reduceEqDiff, ↓reduceIte, Nat.reduceAdd, Nat.reduceSub])
    refine AWL.nil ?_
    (refine hK _ ?_; clear hK K; (try simp only [nA, Nat.reduceBEq, Nat.reduceEqDiff, ↓reduceIte, Nat.reduceAdd, Nat.reduceSub]))
    refine AW.gh (Gh.nil (e := 43) 4 (Nat.le_of_ble_eq_true rfl) rfl sz43) ?_; (try simp only [nA, Nat.reduceBEq, Nat.reduceEqDiff, ↓reduceIte, Nat.reduceAdd, Nat.reduceSub]); refine AW.gh (Gh.freeze 4 (Nat.le_of_ble_eq_true rfl) rfl rfl (by simp) (es' := ([] : List Pr).map Pr.av) rfl) ?_; (try simp only [nA, Nat.reduceBEq, Nat.reduceEqDiff, ↓reduceIte, Nat.reduceAdd, Nat.reduceSub])
    refine AW.ret ?_; (try simp only [thenE, inBlk, Nat.reduceEqDiff, ↓reduceIte]); rw [show balanceV payer xs = ([], 2) by unfold balanceV; rw [if_neg (by rw [hnb]; simp)]; rw [if_pos (by unfold nB at hc3; omega)]]; exact RQ.of0 rfl (.tmp (Nat.le_of_ble_eq_true rfl) rfl rfl (.tmp (Nat.le_of_ble_eq_true rfl) rfl rfl .nil))
   ·
    (try simp only [hcS] at hc); have hc3 := hc; have h8 : ¬ 8 < xs.length + absN payer xs := (by unfold nB at hc3; omega)
    refine AW.skip ?_
    (refine hK _ ?_; clear hK K; (try simp only [nA, Nat.reduceBEq, Nat.reduceEqDiff, ↓reduceIte, Nat.reduceAdd, Nat.reduceSub]))
    (refine AW.seq_k ?_; intro K hK)
    (refine AW.seq_k ?_; intro K hK)
    refine AW.region ?_
    refine awP (op_move rfl rfl) ?_; (try simp only [nA, Nat.reduceBEq, Nat.reduceEqDiff, ↓reduceIte, Nat.reduceAdd, Nat.reduceSub])
    refine awJ (OpQ.j (op_callQ (b := true) rfl en41 (C41) (RL.cons (by first | exact View.same rfl | exact View.nil | exact View.rof | exact View.src .ro | exact View.src .rof | exact View.src (.sl rfl rfl) | exact View.ptr rfl rfl rfl) (RL.cons (by first | exact View.same rfl | exact View.nil | exact View.rof | exact View.src .ro | exact View.src .rof | exact View.src (.sl rfl rfl) | exact View.ptr rfl rfl rfl) (RL.cons (by first | exact View.same rfl | exact View.nil | exact View.rof | exact View.src .ro | exact View.src .rof | exact View.src (.sl rfl rfl) | exact View.ptr rfl rfl rfl) (RL.nil)))) rfl)) ?_; (try simp only [nA, Nat.reduceBEq, Nat.reduceEqDiff, ↓reduceIte, Nat.reduceAdd, Nat.reduceSub])
    refine awP (op_assign rfl rfl) ?_; (try simp only [nA, Nat.reduceBEq, Nat.reduceEqDiff, ↓reduceIte, Nat.reduceAdd, Nat.reduceSub])
    refine AWL.nil ?_
    (refine hK _ ?_; clear hK K; (try simp only [nA, Nat.reduceBEq, Nat.reduceEqDiff, ↓reduceIte, Nat.reduceAdd, Nat.reduceSub]))
    (refine AW.seq_k ?_; intro K hK)
    refine AW.region ?_
    refine awP (op_move rfl rfl) ?_; (try simp only [nA, Nat.reduceBEq, Nat.reduceEqDiff, ↓reduceIte, Nat.reduceAdd, Nat.reduceSub])
    (first | refine awP (op_neq rfl rfl rfl) ?_ | refine awP (op_sneq rfl rfl rfl) ?_); (try simp only [nA, Nat.reduceBEq, Nat.reduceEqDiff, ↓reduceIte, Nat.reduceAdd, Nat.reduceSub])
    refine AWL.nil ?_
    (refine hK _ ?_; clear hK K; (try simp only [nA, Nat.reduceBEq, Nat.reduceEqDiff, ↓reduceIte, Nat.reduceAdd, Nat.reduceSub]))
    refine AW.cond rfl rfl rfl (fun hc => ?_) (fun hc => ?_)
    ·
     (try simp only [hcS] at hc); have hc4 := hc; skip
     (refine AW.seq_k ?_; intro K hK)
     refine AW.region ?_
     refine awP (op_move rfl rfl) ?_; (try simp only [nA, Nat.reduceBEq, Nat.reduceEqDiff, ↓reduceIte, Nat.reduceAdd, Nat.reduceSub])
     refine awP (op_assign rfl rfl) ?_; (try simp only [nA, Nat.reduceBEq, Nat.reduceEqDiff, ↓reduceIte, Nat.reduceAdd, Nat.reduceSub])
     refine awP (op_assign rfl rfl) ?_; (try simp only [nA, Nat.reduceBEq, Nat.reduceEqDiff, ↓reduceIte, Nat.reduceAdd, Nat.reduceSub])
     refine AWL.nil ?_
     (refine hK _ ?_; clear hK K; (try simp only [nA, Nat.reduceBEq, Nat.reduceEqDiff, ↓reduceIte, Nat.reduceAdd, Nat.reduceSub]))
     refine AW.gh (Gh.nil (e := 43) 4 (Nat.le_of_ble_eq_true rfl) rfl sz43) ?_; (try simp only [nA, Nat.reduceBEq, Nat.reduceEqDiff, ↓reduceIte, Nat.reduceAdd, Nat.reduceSub]); refine AW.gh (Gh.freeze 4 (Nat.le_of_ble_eq_true rfl) rfl rfl (by simp) (es' := ([] : List Pr).map Pr.av) rfl) ?_; (try simp only [nA, Nat.reduceBEq, Nat.reduceEqDiff, ↓reduceIte, Nat.reduceAdd, Nat.reduceSub])
     refine AW.ret ?_; (try simp only [thenE, inBlk, Nat.reduceEqDiff, ↓reduceIte]); rw [show balanceV payer xs = ([], badE 0 xs) by unfold balanceV; rw [if_neg (by rw [hnb]; simp)]; rw [if_neg h8, if_neg (by simpa using hc4)]]; exact RQ.of0 rfl (.tmp (Nat.le_of_ble_eq_true rfl) rfl rfl (.tmp (Nat.le_of_ble_eq_true rfl) rfl rfl .nil))
    ·
     (try simp only [hcS] at hc); have hc4 := hc; have hbe : badE 0 xs = 0 := (by simpa using hc4); have hin : ∀ p ∈ xs, 0 ≤ p.amt ∧ p.amt ≤ 1073741824 := fun p hp => bad_in hbe hp; have hon := bad_only hbe
     refine AW.skip ?_
     (refine hK _ ?_; clear hK K; (try simp only [nA, Nat.reduceBEq, Nat.reduceEqDiff, ↓reduceIte, Nat.reduceAdd, Nat.reduceSub]))
     (refine AW.seq_k ?_; intro K hK)
     (refine AW.seq_k ?_; intro K hK)
     refine AW.region ?_
     refine awP (op_move rfl rfl) ?_; (try simp only [nA, Nat.reduceBEq, Nat.reduceEqDiff, ↓reduceIte, Nat.reduceAdd, Nat.reduceSub])
     refine awJ (OpQ.j (op_callQ (b := true) rfl en19 (C19) (RL.cons (by first | exact View.same rfl | exact View.nil | exact View.rof | exact View.src .ro | exact View.src .rof | exact View.src (.sl rfl rfl) | exact View.ptr rfl rfl rfl) (RL.nil)) rfl)) ?_; (try simp only [nA, Nat.reduceBEq, Nat.reduceEqDiff, ↓reduceIte, Nat.reduceAdd, Nat.reduceSub])
     refine awP (op_gtr rfl rfl rfl) ?_; (try simp only [nA, Nat.reduceBEq, Nat.reduceEqDiff, ↓reduceIte, Nat.reduceAdd, Nat.reduceSub])
     refine AWL.nil ?_
     (refine hK _ ?_; clear hK K; (try simp only [nA, Nat.reduceBEq, Nat.reduceEqDiff, ↓reduceIte, Nat.reduceAdd, Nat.reduceSub]))
     refine AW.cond rfl rfl rfl (fun hc => ?_) (fun hc => ?_)
     ·
      (try simp only [hcS] at hc); have hc5 := hc; skip
      (refine AW.seq_k ?_; intro K hK)
      refine AW.region ?_
      refine awP (op_assign rfl rfl) ?_; (try simp only [nA, Nat.reduceBEq, Nat.reduceEqDiff, ↓reduceIte, Nat.reduceAdd, Nat.reduceSub])
      refine awP (op_assign rfl rfl) ?_; (try simp only [nA, Nat.reduceBEq, Nat.reduceEqDiff, ↓reduceIte, Nat.reduceAdd, Nat.reduceSub])
      refine AWL.nil ?_
      (refine hK _ ?_; clear hK K; (try simp only [nA, Nat.reduceBEq, Nat.reduceEqDiff, ↓reduceIte, Nat.reduceAdd, Nat.reduceSub]))
      refine AW.gh (Gh.nil (e := 43) 4 (Nat.le_of_ble_eq_true rfl) rfl sz43) ?_; (try simp only [nA, Nat.reduceBEq, Nat.reduceEqDiff, ↓reduceIte, Nat.reduceAdd, Nat.reduceSub]); refine AW.gh (Gh.freeze 4 (Nat.le_of_ble_eq_true rfl) rfl rfl (by simp) (es' := ([] : List Pr).map Pr.av) rfl) ?_; (try simp only [nA, Nat.reduceBEq, Nat.reduceEqDiff, ↓reduceIte, Nat.reduceAdd, Nat.reduceSub])
      refine AW.ret ?_; (try simp only [thenE, inBlk, Nat.reduceEqDiff, ↓reduceIte]); rw [show balanceV payer xs = ([], 1) by unfold balanceV; rw [if_neg (by rw [hnb]; simp)]; rw [if_neg h8, if_pos hbe, if_pos (by omega)]]; exact RQ.of0 rfl (.tmp (Nat.le_of_ble_eq_true rfl) rfl rfl (.tmp (Nat.le_of_ble_eq_true rfl) rfl rfl .nil))
     ·
      (try simp only [hcS] at hc); have hc5 := hc; have hBV : balanceV payer xs = (balL payer xs, 0) := (by unfold balanceV; rw [if_neg (by rw [hnb]; simp)]; rw [if_neg h8, if_pos hbe, if_neg (by omega)])
      refine AW.skip ?_
      (refine hK _ ?_; clear hK K; (try simp only [nA, Nat.reduceBEq, Nat.reduceEqDiff, ↓reduceIte, Nat.reduceAdd, Nat.reduceSub]))
      (refine AW.seq_k ?_; intro K hK)
      refine AW.region ?_
      refine awP (op_move rfl rfl) ?_; (try simp only [nA, Nat.reduceBEq, Nat.reduceEqDiff, ↓reduceIte, Nat.reduceAdd, Nat.reduceSub])
      refine awJ (op_make rfl rfl rfl rfl rfl (Nat.le_refl _) Try.underlying34 ze43 (by unfold nB; omega) (by decide) (row := Pr.av zPr) rfl) ?_; (try simp only [nA, Nat.reduceBEq, Nat.reduceEqDiff, ↓reduceIte, Nat.reduceAdd, Nat.reduceSub])
      refine awP (op_assign rfl rfl) ?_; (try simp only [nA, Nat.reduceBEq, Nat.reduceEqDiff, ↓reduceIte, Nat.reduceAdd, Nat.reduceSub])
      refine AWL.nil ?_
      (refine hK _ ?_; clear hK K; (try simp only [nA, Nat.reduceBEq, Nat.reduceEqDiff, ↓reduceIte, Nat.reduceAdd, Nat.reduceSub]))
      (refine AW.seq_k ?_; intro K hK)
      refine AW.region ?_
      refine awP (op_move rfl rfl) ?_; (try simp only [nA, Nat.reduceBEq, Nat.reduceEqDiff, ↓reduceIte, Nat.reduceAdd, Nat.reduceSub])
      refine awP (op_move rfl rfl) ?_; (try simp only [nA, Nat.reduceBEq, Nat.reduceEqDiff, ↓reduceIte, Nat.reduceAdd, Nat.reduceSub])
      refine awP (op_move rfl rfl) ?_; (try simp only [nA, Nat.reduceBEq, Nat.reduceEqDiff, ↓reduceIte, Nat.reduceAdd, Nat.reduceSub])
      (first | refine awP (op_ia_ro  _ rfl (.inl rfl) rfl Try.underlying34 rfl (get_map (by omega)) (by exact sz43) (Nat.le_of_ble_eq_true rfl)) ?_ | refine awP (op_ia_sl (posL xs payer) 2 rfl rfl rfl rfl Try.underlying34 rfl hat (by exact sz43) (Nat.zero_add _)) ?_); (try simp only [nA, Nat.reduceBEq, Nat.reduceEqDiff, ↓reduceIte, Nat.reduceAdd, Nat.reduceSub])
      (first | refine awP (op_fa_ptr rfl rfl rfl fl43_0 (by exact sz9) (by decide) rfl) ?_ | refine awP (op_fa_rop rfl rfl fl43_0 (by exact sz9) (by decide) (Nat.le_of_ble_eq_true rfl) rfl) ?_); (try simp only [nA, Nat.reduceBEq, Nat.reduceEqDiff, ↓reduceIte, Nat.reduceAdd, Nat.reduceSub])
      refine awJ (op_store rfl rfl rfl rfl (by rw [List.getElem?_replicate, if_pos hat]) rfl sz9 rfl (Nat.le_of_ble_eq_true rfl) (outI_0 payer xs)) ?_; (try simp only [nA, Nat.reduceBEq, Nat.reduceEqDiff, ↓reduceIte, Nat.reduceAdd, Nat.reduceSub])
      refine AWL.nil ?_
      (refine hK _ ?_; clear hK K; (try simp only [nA, Nat.reduceBEq, Nat.reduceEqDiff, ↓reduceIte, Nat.reduceAdd, Nat.reduceSub]))
      (refine AW.seq_k ?_; intro K hK)
      (refine AW.seq_k ?_; intro K hK)
      refine AW.region ?_
      refine awP (op_move rfl rfl) ?_; (try simp only [nA, Nat.reduceBEq, Nat.reduceEqDiff, ↓reduceIte, Nat.reduceAdd, Nat.reduceSub])
      (first | refine awP (op_len_ro rfl rfl Try.underlying34 (by first | exact .inr (.inl ⟨_, rfl, rfl⟩) | exact .inl rfl | exact .inr (.inr (.inl ⟨_, rfl, rfl⟩)) | exact .inr (.inr (.inr ⟨rfl, rfl⟩)))) ?_ | refine awP (op_len_sl rfl rfl rfl Try.underlying34) ?_ | refine awP (op_len_str rfl rfl Try.underlying34) ?_); (try simp only [nA, Nat.reduceBEq, Nat.reduceEqDiff, ↓reduceIte, Nat.reduceAdd, Nat.reduceSub])
      refine awP (op_move rfl rfl) ?_; (try simp only [nA, Nat.reduceBEq, Nat.reduceEqDiff, ↓reduceIte, Nat.reduceAdd, Nat.reduceSub])
      refine AWL.nil ?_
      (refine hK _ ?_; clear hK K; (try simp only [nA, Nat.reduceBEq, Nat.reduceEqDiff, ↓reduceIte, Nat.reduceAdd, Nat.reduceSub]))
      refine AW.block ?_
      refine AW.loopI (fun (q : Nat × Nat) => [(0, .v (.string payer)), (6, .v (.int .i64 ((posL xs payer : Nat) : Int))), (9, .sl 0 1 0 (nB payer xs)), (42, .ro (xs.map Pr.av)), (43, .v (.int .i64 (xs.length : Nat))), (44, .v (.int .i64 (q.1 : Nat)))]) (fun q => ⟨[(1, .own 43 ((outI payer xs q.1).map Pr.av))], q.2⟩) (fun q => q.1 ≤ xs.length) (fun q => xs.length - q.1) (0, _) (by simp) ⟨rfl, rfl, rfl, rfl, rfl, rfl, trivial⟩ rfl ?_; rintro ⟨i, ep⟩ ρ hI; simp only at hI; simp only [updL]; (try simp only [nA, Nat.reduceBEq, Nat.reduceEqDiff, ↓reduceIte, Nat.reduceAdd, Nat.reduceSub])
      (refine AW.seq_k ?_; intro K hK)
      refine AW.region ?_
      refine awP (op_lss rfl rfl rfl) ?_; (try simp only [nA, Nat.reduceBEq, Nat.reduceEqDiff, ↓reduceIte, Nat.reduceAdd, Nat.reduceSub])
      refine AWL.nil ?_
      (refine hK _ ?_; clear hK K; (try simp only [nA, Nat.reduceBEq, Nat.reduceEqDiff, ↓reduceIte, Nat.reduceAdd, Nat.reduceSub]))
      (refine AW.seq_k ?_; intro K hK)
      refine AW.cond rfl rfl rfl (fun hc => ?_) (fun hc => ?_)
      ·
       (try simp only [hcS] at hc); have hc6 := hc; have hlt : i < xs.length := (by omega); obtain ⟨q, hqi⟩ : ∃ q, xs[i]? = some q := ⟨xs[i], List.getElem?_eq_getElem hlt⟩; have hqm := hin _ (List.mem_of_getElem? hqi); have hob := othS_bd (payer := payer) hin i hI; have hnl : i < nB payer xs := (by unfold nB; omega)
       refine AW.skip ?_
       (refine hK _ ?_; clear hK K; (try simp only [nA, Nat.reduceBEq, Nat.reduceEqDiff, ↓reduceIte, Nat.reduceAdd, Nat.reduceSub]))
       (refine AW.seq_k ?_; intro K hK)
       refine AW.block ?_
       (refine AW.seq_k ?_; intro K hK)
       refine AW.region ?_
       refine awP (op_move rfl rfl) ?_; (try simp only [nA, Nat.reduceBEq, Nat.reduceEqDiff, ↓reduceIte, Nat.reduceAdd, Nat.reduceSub])
       (first | refine awP (op_ia_ro i rfl (.inl rfl) rfl Try.underlying34 rfl (get_of hqi) (by exact sz43) (Nat.le_of_ble_eq_true rfl)) ?_ | refine awP (op_ia_sl  _ _ rfl rfl rfl rfl Try.underlying34 rfl (by omega) (by exact sz43) rfl) ?_); (try simp only [nA, Nat.reduceBEq, Nat.reduceEqDiff, ↓reduceIte, Nat.reduceAdd, Nat.reduceSub])
       (first | refine awR (op_load_ptr rfl rfl rfl rfl ag43 sz43 (Nat.le_of_ble_eq_true rfl) rfl) ?_ | refine awR (op_load_rop rfl rfl ag43 sz43 (Nat.le_of_ble_eq_true rfl) (by decide) rfl) ?_); (try simp only [nA, Nat.reduceBEq, Nat.reduceEqDiff, ↓reduceIte, Nat.reduceAdd, Nat.reduceSub])
       refine awJ (op_alloc rfl ze43 rfl) ?_; (try simp only [nA, Nat.reduceBEq, Nat.reduceEqDiff, ↓reduceIte, Nat.reduceAdd, Nat.reduceSub])
       refine awP (op_assign rfl rfl) ?_; (try simp only [nA, Nat.reduceBEq, Nat.reduceEqDiff, ↓reduceIte, Nat.reduceAdd, Nat.reduceSub])
       refine awJ (op_store  rfl rfl rfl rfl rfl rfl sz43 rfl (Nat.le_of_ble_eq_true rfl) rfl) ?_; (try simp only [nA, Nat.reduceBEq, Nat.reduceEqDiff, ↓reduceIte, Nat.reduceAdd, Nat.reduceSub])
       refine AWL.nil ?_
       (refine hK _ ?_; clear hK K; (try simp only [nA, Nat.reduceBEq, Nat.reduceEqDiff, ↓reduceIte, Nat.reduceAdd, Nat.reduceSub]))
       (refine AW.seq_k ?_; intro K hK)
       (refine AW.seq_k ?_; intro K hK)
       refine AW.region ?_
       refine awP (op_move rfl rfl) ?_; (try simp only [nA, Nat.reduceBEq, Nat.reduceEqDiff, ↓reduceIte, Nat.reduceAdd, Nat.reduceSub])
       refine awP (op_move rfl rfl) ?_; (try simp only [nA, Nat.reduceBEq, Nat.reduceEqDiff, ↓reduceIte, Nat.reduceAdd, Nat.reduceSub])
       (first | refine awP (op_eql rfl rfl rfl) ?_ | refine awP (op_seql rfl rfl rfl) ?_); (try simp only [nA, Nat.reduceBEq, Nat.reduceEqDiff, ↓reduceIte, Nat.reduceAdd, Nat.reduceSub])
       refine AWL.nil ?_
       (refine hK _ ?_; clear hK K; (try simp only [nA, Nat.reduceBEq, Nat.reduceEqDiff, ↓reduceIte, Nat.reduceAdd, Nat.reduceSub]))
       refine AW.cond rfl rfl rfl (fun hc => ?_) (fun hc => ?_)
       ·
        (try simp only [hcS] at hc); have hc7 := hc; have hia : i = posL xs payer := (by omega); have hnm : q.name = payer := (pos_only hon hqi).2 hia
        refine AW.exit ?_; (try simp only [thenE, inBlk, Nat.reduceEqDiff, ↓reduceIte])
        clear hK K
        (refine hK _ ?_; clear hK K; (try simp only [nA, Nat.reduceBEq, Nat.reduceEqDiff, ↓reduceIte, Nat.reduceAdd, Nat.reduceSub]))
        refine AW.region ?_
        (first | refine awP (op_addi rfl rfl rfl (by omega)) ?_ | refine awP (op_add rfl rfl rfl rfl) ?_); (try simp only [nA, Nat.reduceBEq, Nat.reduceEqDiff, ↓reduceIte, Nat.reduceAdd, Nat.reduceSub])
        refine awP (op_move rfl rfl) ?_; (try simp only [nA, Nat.reduceBEq, Nat.reduceEqDiff, ↓reduceIte, Nat.reduceAdd, Nat.reduceSub])
        refine AWL.gh (Gh.drop 1) ?_; (try simp only [nA, Nat.reduceBEq, Nat.reduceEqDiff, ↓reduceIte, Nat.reduceAdd, Nat.reduceSub])
        refine AWL.nil ?_
        refine ⟨(i + 1, _), by dsimp only; omega, by dsimp only; omega, ⟨rfl, rfl, rfl, rfl, rfl, rfl, trivial⟩, (by dsimp only; rw [outI_skip hqi hnm hia]), (by first | rfl | trivial)⟩
       ·
        (try simp only [hcS] at hc); have hc7 := hc; have hia : i ≠ posL xs payer := (by omega); have hnm : ¬ q.name = payer := (fun h => hia ((pos_only hon hqi).1 h))
        refine AW.skip ?_
        (refine hK _ ?_; clear hK K; (try simp only [nA, Nat.reduceBEq, Nat.reduceEqDiff, ↓reduceIte, Nat.reduceAdd, Nat.reduceSub]))
        (refine AW.seq_k ?_; intro K hK)
        refine AW.region ?_
        refine awP (op_move rfl rfl) ?_; (try simp only [nA, Nat.reduceBEq, Nat.reduceEqDiff, ↓reduceIte, Nat.reduceAdd, Nat.reduceSub])
        refine awP (op_move rfl rfl) ?_; (try simp only [nA, Nat.reduceBEq, Nat.reduceEqDiff, ↓reduceIte, Nat.reduceAdd, Nat.reduceSub])
        (first | refine awP (op_fa_ptr rfl rfl rfl fl43_0 (by exact sz9) (by decide) rfl) ?_ | refine awP (op_fa_rop rfl rfl fl43_0 (by exact sz9) (by decide) (Nat.le_of_ble_eq_true rfl) rfl) ?_); (try simp only [nA, Nat.reduceBEq, Nat.reduceEqDiff, ↓reduceIte, Nat.reduceAdd, Nat.reduceSub])
        (first | refine awR (op_load_ptr1 rfl rfl rfl rfl ag9 rfl rfl) ?_ | refine awR (op_load_rop1 rfl rfl ag9) ?_); (try simp only [nA, Nat.reduceBEq, Nat.reduceEqDiff, ↓reduceIte, Nat.reduceAdd, Nat.reduceSub])
        (first | refine awP (op_fa_ptr rfl rfl rfl fl43_1 (by exact sz3) (by decide) rfl) ?_ | refine awP (op_fa_rop rfl rfl fl43_1 (by exact sz3) (by decide) (Nat.le_of_ble_eq_true rfl) rfl) ?_); (try simp only [nA, Nat.reduceBEq, Nat.reduceEqDiff, ↓reduceIte, Nat.reduceAdd, Nat.reduceSub])
        (first | refine awR (op_load_ptr1  rfl rfl rfl rfl ag3 rfl rfl) ?_ | refine awR (op_load_rop1 rfl rfl ag3) ?_); (try simp only [nA, Nat.reduceBEq, Nat.reduceEqDiff, ↓reduceIte, Nat.reduceAdd, Nat.reduceSub])
        refine awP (op_negi rfl rfl (by omega)) ?_; (try simp only [nA, Nat.reduceBEq, Nat.reduceEqDiff, ↓reduceIte, Nat.reduceAdd, Nat.reduceSub])
        refine awP (op_build2 (xs := [_, _]) rfl pl43 ze43 [(0, [_]), (1, [_])] rfl rfl rfl) ?_; (try simp only [nA, Nat.reduceBEq, Nat.reduceEqDiff, ↓reduceIte, Nat.reduceAdd, Nat.reduceSub])
        (first | refine awP (op_ia_ro _ rfl (.inl rfl) rfl Try.underlying34 rfl (get_map (by omega)) (by exact sz43) (Nat.le_of_ble_eq_true rfl)) ?_ | refine awP (op_ia_sl i 2 rfl rfl rfl rfl Try.underlying34 rfl hnl (by exact sz43) (Nat.zero_add _)) ?_); (try simp only [nA, Nat.reduceBEq, Nat.reduceEqDiff, ↓reduceIte, Nat.reduceAdd, Nat.reduceSub])
        refine awJ (op_store rfl rfl rfl rfl (get_mapD (by rw [outI_len hI]; exact hnl)) rfl sz43 rfl (Nat.le_of_ble_eq_true rfl) (outM_set hqi hnm hia)) ?_; (try simp only [nA, Nat.reduceBEq, Nat.reduceEqDiff, ↓reduceIte, Nat.reduceAdd, Nat.reduceSub])
        refine AWL.nil ?_
        (refine hK _ ?_; clear hK K; (try simp only [nA, Nat.reduceBEq, Nat.reduceEqDiff, ↓reduceIte, Nat.reduceAdd, Nat.reduceSub]))
        refine AW.quiet_tail 10 mix (by kernel_rfl) rfl rfl ?_
        refine aqP (op_move rfl rfl) ?_; (try simp only [nA, Nat.reduceBEq, Nat.reduceEqDiff, ↓reduceIte, Nat.reduceAdd, Nat.reduceSub])
        refine aqP (op_move rfl rfl) ?_; (try simp only [nA, Nat.reduceBEq, Nat.reduceEqDiff, ↓reduceIte, Nat.reduceAdd, Nat.reduceSub])
        (first | refine aqP (op_ia_ro _ rfl (.inl rfl) rfl Try.underlying34 rfl (get_map (by omega)) (by exact sz43) (Nat.le_of_ble_eq_true rfl)) ?_ | refine aqP (op_ia_sl (posL xs payer) 2 rfl rfl rfl rfl Try.underlying34 rfl hat (by exact sz43) (Nat.zero_add _)) ?_); (try simp only [nA, Nat.reduceBEq, Nat.reduceEqDiff, ↓reduceIte, Nat.reduceAdd, Nat.reduceSub])
        (first | refine aqP (op_fa_ptr rfl rfl rfl fl43_1 (by exact sz3) (by decide) rfl) ?_ | refine aqP (op_fa_rop rfl rfl fl43_1 (by exact sz3) (by decide) (Nat.le_of_ble_eq_true rfl) rfl) ?_); (try simp only [nA, Nat.reduceBEq, Nat.reduceEqDiff, ↓reduceIte, Nat.reduceAdd, Nat.reduceSub])
        (first | refine aqR (op_load_ptr1 rfl rfl rfl (outM_at hlt) ag3 rfl rfl) ?_ | refine aqR (op_load_rop1 rfl rfl ag3) ?_); (try simp only [nA, Nat.reduceBEq, Nat.reduceEqDiff, ↓reduceIte, Nat.reduceAdd, Nat.reduceSub])
        (first | refine aqP (op_fa_ptr rfl rfl rfl fl43_1 (by exact sz3) (by decide) rfl) ?_ | refine aqP (op_fa_rop rfl rfl fl43_1 (by exact sz3) (by decide) (Nat.le_of_ble_eq_true rfl) rfl) ?_); (try simp only [nA, Nat.reduceBEq, Nat.reduceEqDiff, ↓reduceIte, Nat.reduceAdd, Nat.reduceSub])
        (first | refine aqR (op_load_ptr1 rfl rfl rfl rfl ag3 rfl rfl) ?_ | refine aqR (op_load_rop1 rfl rfl ag3) ?_); (try simp only [nA, Nat.reduceBEq, Nat.reduceEqDiff, ↓reduceIte, Nat.reduceAdd, Nat.reduceSub])
        (first | refine aqP (op_addi rfl rfl rfl (by omega)) ?_ | refine aqP (op_add rfl rfl rfl rfl) ?_); (try simp only [nA, Nat.reduceBEq, Nat.reduceEqDiff, ↓reduceIte, Nat.reduceAdd, Nat.reduceSub])
        (first | refine aqP (op_ia_ro _ rfl (.inl rfl) rfl Try.underlying34 rfl (get_map (by omega)) (by exact sz43) (Nat.le_of_ble_eq_true rfl)) ?_ | refine aqP (op_ia_sl (posL xs payer) 2 rfl rfl rfl rfl Try.underlying34 rfl hat (by exact sz43) (Nat.zero_add _)) ?_); (try simp only [nA, Nat.reduceBEq, Nat.reduceEqDiff, ↓reduceIte, Nat.reduceAdd, Nat.reduceSub])
        (first | refine aqP (op_fa_ptr rfl rfl rfl fl43_1 (by exact sz3) (by decide) rfl) ?_ | refine aqP (op_fa_rop rfl rfl fl43_1 (by exact sz3) (by decide) (Nat.le_of_ble_eq_true rfl) rfl) ?_); (try simp only [nA, Nat.reduceBEq, Nat.reduceEqDiff, ↓reduceIte, Nat.reduceAdd, Nat.reduceSub])
        refine AQ.nil ?_
        refine awJ (op_store rfl rfl rfl rfl (outM_at hlt) rfl sz3 rfl (Nat.le_of_ble_eq_true rfl) (outM_next hqi hnm)) ?_; (try simp only [nA, Nat.reduceBEq, Nat.reduceEqDiff, ↓reduceIte, Nat.reduceAdd, Nat.reduceSub])
        refine AWL.nil ?_
        (try simp only [thenE, inBlk, Nat.reduceEqDiff, ↓reduceIte])
        (refine hK _ ?_; clear hK K; (try simp only [nA, Nat.reduceBEq, Nat.reduceEqDiff, ↓reduceIte, Nat.reduceAdd, Nat.reduceSub]))
        refine AW.region ?_
        (first | refine awP (op_addi rfl rfl rfl (by omega)) ?_ | refine awP (op_add rfl rfl rfl rfl) ?_); (try simp only [nA, Nat.reduceBEq, Nat.reduceEqDiff, ↓reduceIte, Nat.reduceAdd, Nat.reduceSub])
        refine awP (op_move rfl rfl) ?_; (try simp only [nA, Nat.reduceBEq, Nat.reduceEqDiff, ↓reduceIte, Nat.reduceAdd, Nat.reduceSub])
        refine AWL.gh (Gh.drop 1) ?_; (try simp only [nA, Nat.reduceBEq, Nat.reduceEqDiff, ↓reduceIte, Nat.reduceAdd, Nat.reduceSub])
        refine AWL.nil ?_
        refine ⟨(i + 1, _), by dsimp only; omega, by dsimp only; omega, ⟨rfl, rfl, rfl, rfl, rfl, rfl, trivial⟩, (by first | rfl | trivial), (by first | rfl | trivial)⟩
      ·
       (try simp only [hcS] at hc); have hc6 := hc; obtain rfl : i = xs.length := (by omega); rw [outI_end]
       refine AW.exit ?_; (try simp only [thenE, inBlk, Nat.reduceEqDiff, ↓reduceIte])
       clear hK K
       (refine hK _ ?_; clear hK K; (try simp only [nA, Nat.reduceBEq, Nat.reduceEqDiff, ↓reduceIte, Nat.reduceAdd, Nat.reduceSub]))
       (refine AW.seq_k ?_; intro K hK)
       refine AW.region ?_
       refine awP (op_move rfl rfl) ?_; (try simp only [nA, Nat.reduceBEq, Nat.reduceEqDiff, ↓reduceIte, Nat.reduceAdd, Nat.reduceSub])
       refine awP (op_assign rfl rfl) ?_; (try simp only [nA, Nat.reduceBEq, Nat.reduceEqDiff, ↓reduceIte, Nat.reduceAdd, Nat.reduceSub])
       refine awP (op_assign rfl rfl) ?_; (try simp only [nA, Nat.reduceBEq, Nat.reduceEqDiff, ↓reduceIte, Nat.reduceAdd, Nat.reduceSub])
       refine AWL.nil ?_
       (refine hK _ ?_; clear hK K; (try simp only [nA, Nat.reduceBEq, Nat.reduceEqDiff, ↓reduceIte, Nat.reduceAdd, Nat.reduceSub]))
       refine AW.gh (Gh.freeze 4 (Nat.le_of_ble_eq_true rfl) rfl rfl (Pr.flat (balL payer xs)) (es' := (balL payer xs).map Pr.av) (by rw [List.take_of_length_le (by rw [List.length_map, ← outI_end, outI_len (Nat.le_refl _)]; exact Nat.le_refl _)])) ?_; (try simp only [nA, Nat.reduceBEq, Nat.reduceEqDiff, ↓reduceIte, Nat.reduceAdd, Nat.reduceSub])
       refine AW.ret ?_; (try simp only [thenE, inBlk, Nat.reduceEqDiff, ↓reduceIte]); rw [hBV]; exact RQ.of0 rfl (.tmp (Nat.le_of_ble_eq_true rfl) rfl rfl (.tmp (Nat.le_of_ble_eq_true rfl) rfl rfl .nil))
end Go.Proofs.Ytnflkbgappgdiaa
