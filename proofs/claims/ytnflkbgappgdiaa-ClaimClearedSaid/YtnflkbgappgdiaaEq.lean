import Derived.Test.YtnflkbgappgdiaaEg
import Derived.Test.YtnflkbgappgdiaaAbN
namespace Go.Proofs.Ytnflkbgappgdiaa
open Go.RowKit
set_option linter.unusedSimpArgs false
set_option linter.unusedVariables false

/-! ### Balance -/
def negP (payer : ByteArray) (p : Pr) : Pr := if p.name = payer then ⟨p.name, 0⟩ else ⟨p.name, -p.amt⟩
def othP (payer : ByteArray) (p : Pr) : Int := if p.name = payer then 0 else p.amt
def othS (payer : ByteArray) (xs : List Pr) (i : Nat) : Int := ((xs.take i).map (othP payer)).sum
def llP (payer : ByteArray) (xs : List Pr) : List Pr := xs.map (negP payer) ++ (if posL xs payer < xs.length then [] else [⟨payer, 0⟩])
def balL (payer : ByteArray) (xs : List Pr) : List Pr := (llP payer xs).set (posL xs payer) ⟨payer, othS payer xs xs.length⟩
def absN (payer : ByteArray) (xs : List Pr) : Nat := if posL xs payer < xs.length then 0 else 1
def balanceV (payer : ByteArray) (xs : List Pr) : List Pr × Int :=
  if nameB payer = false then ([], 3) else if 8 < xs.length + absN payer xs then ([], 2) else if badE 0 xs = 0 then (if 1073741824 < totV xs then ([], 1) else (balL payer xs, 0)) else ([], badE 0 xs)
theorem posL_le (xs : List Pr) (n : ByteArray) : posL xs n ≤ xs.length := List.findIdx_le_length
theorem posL_name {xs : List Pr} {n : ByteArray} (h : posL xs n < xs.length) : xs[posL xs n]? = some (xs.getD (posL xs n) default) ∧ (xs.getD (posL xs n) default).name = n := by
  have h1 : xs[posL xs n]? = some xs[posL xs n] := List.getElem?_eq_getElem h
  have h2 : isN n xs[posL xs n] = true := List.findIdx_getElem (w := h)
  rw [List.getD_eq_getElem?_getD, h1]
  exact ⟨rfl, by simpa using h2⟩
theorem posL_min {xs : List Pr} {n : ByteArray} {i : Nat} {p : Pr} (h : xs[i]? = some p) (hi : i < posL xs n) : p.name ≠ n := by
  obtain ⟨hl, rfl⟩ := List.getElem?_eq_some_iff.1 h
  have := List.not_of_lt_findIdx (xs := xs) (p := isN n) hi
  simpa using this
/-- Where all names differ, a name has one place. -/
theorem pos_only {xs : List Pr} {n : ByteArray} {i : Nat} {p : Pr} (hb : ∀ k, k < xs.length → ∀ q, xs[k]? = some q → ¬ posL (xs.take k) q.name < k) (h : xs[i]? = some p) : p.name = n ↔ i = posL xs n := by
  have hil := (List.getElem?_eq_some_iff.1 h).1
  constructor
  · intro hn
    rcases Nat.lt_trichotomy i (posL xs n) with h1 | h1 | h1
    · exact absurd hn (posL_min h h1)
    · exact h1
    · exfalso
      have hp := posL_name (xs := xs) (n := n) (by omega)
      exact hb i hil p h (pos_yes hp.1 h1 (hp.2.trans hn.symm))
  · intro hi
    subst hi
    have hp := posL_name (xs := xs) (n := n) hil
    rw [h] at hp
    injection hp.1 with hp1
    rw [hp1]
    exact hp.2
theorem bad_only {lo : Int} {xs : List Pr} (h : badE lo xs = 0) : ∀ k, k < xs.length → ∀ q, xs[k]? = some q → ¬ posL (xs.take k) q.name < k := fun k hk q hq => (code_in hq (badE_ok h k hk)).2.2.2
theorem bad_in {lo : Int} {xs : List Pr} (h : badE lo xs = 0) {p : Pr} (hp : p ∈ xs) : lo ≤ p.amt ∧ p.amt ≤ 1073741824 := by
  obtain ⟨k, hk, rfl⟩ := List.getElem_of_mem hp
  have := code_in (List.getElem?_eq_getElem hk) (badE_ok h k hk)
  exact ⟨this.1, this.2.1⟩
theorem othS_s {payer : ByteArray} {xs : List Pr} {i : Nat} {q : Pr} (h : xs[i]? = some q) : othS payer xs (i + 1) = othS payer xs i + othP payer q := by
  unfold othS
  rw [List.take_add_one, h]
  simp
theorem othS_bd {payer : ByteArray} {xs : List Pr} (hb : ∀ p ∈ xs, 0 ≤ p.amt ∧ p.amt ≤ 1073741824) : ∀ i, i ≤ xs.length → 0 ≤ othS payer xs i ∧ othS payer xs i ≤ i * 1073741824 := by
  intro i
  induction i with
  | zero => intro _; simp [othS]
  | succ n ih =>
    intro hi
    have h := ih (by omega)
    have hq : xs[n]? = some xs[n] := List.getElem?_eq_getElem (by omega)
    rw [othS_s hq]
    have := hb _ (List.mem_of_getElem? hq)
    unfold othP
    split <;> omega
theorem llP_pos {payer : ByteArray} {xs : List Pr} : posL (llP payer xs) payer = posL xs payer ∧ posL xs payer < (llP payer xs).length := by
  have hm : ∀ p : Pr, isN payer (negP payer p) = isN payer p := fun p => by unfold negP isN; split <;> rfl
  have h1 : posL (xs.map (negP payer)) payer = posL xs payer := by
    unfold posL
    rw [List.findIdx_map]
    congr 1
    funext p
    exact hm p
  have hle := posL_le xs payer
  unfold llP
  split
  · rename_i h
    rw [List.append_nil, h1]
    exact ⟨rfl, by simpa using h⟩
  · rename_i h
    refine ⟨?_, by simp; omega⟩
    have h0 : posL xs payer = xs.length := by omega
    unfold posL at h1 h0 ⊢
    rw [List.findIdx_append]
    rw [h1, h0, List.length_map, if_neg (by omega)]
    simp [isN]
theorem neg_take {payer : ByteArray} {xs : List Pr} {i : Nat} {q : Pr} (h : xs[i]? = some q) : (xs.take (i + 1)).map (negP payer) = (xs.take i).map (negP payer) ++ [negP payer q] := by
  rw [List.take_add_one, h]
  simp
theorem pr_view (l : List Pr) {n : Nat} (h : l.length ≤ n) : (((l.map Pr.av).drop 0).take n).map (·.map ldc) = l.map Pr.av := by
  rw [List.drop_zero, List.take_of_length_le (by simpa using h), List.map_map]
  rfl
theorem neg_posI {payer : ByteArray} {xs : List Pr} : posI (xs.map (negP payer)) payer = posI xs payer := by
  have : posL (xs.map (negP payer)) payer = posL xs payer := by
    unfold posL
    rw [List.findIdx_map]
    congr 1
    funext p
    show isN payer (negP payer p) = isN payer p
    unfold negP isN
    split <;> rfl
  unfold posI
  rw [this, List.length_map]
theorem bal_set (payer : ByteArray) (xs : List Pr) : ((llP payer xs).map Pr.av).set (posL xs payer) (splice (Pr.av ((llP payer xs).getD (posL xs payer) default)) 1 [.v (.int .i64 (othS payer xs xs.length))]) = (balL payer xs).map Pr.av := by
  have h := llP_pos (payer := payer) (xs := xs)
  have hn := (posL_name (xs := llP payer xs) (n := payer) (by rw [h.1]; exact h.2)).2
  rw [h.1] at hn
  unfold balL
  rw [List.map_set]
  show ((llP payer xs).map Pr.av).set (posL xs payer) (Pr.av ⟨((llP payer xs).getD (posL xs payer) default).name, othS payer xs xs.length⟩) = _
  rw [hn]
theorem C26 {payer : ByteArray} {xs : List Pr} (h0 : xs.length ≤ 1000) : Fn Try.prog 26 [] [.v (.string payer), .ro (xs.map Pr.av)] [.ro ((balanceV payer xs).1.map Pr.av), .v (.int .i64 (balanceV payer xs).2)] [] := by
  refine Spec.small 1 rfl fun hx => ?_
  rw [List.length_map] at hx
  refine Spec.body Try.func26 rfl Try.ntmps26 (by simp) rfl ?_; intro S0 own0 v0 w0
  (refine AW.seq_k ?_; intro K hK)
  refine AW.region ?_
  refine awP (op_assign rfl rfl) ?_
  refine awP (op_assign rfl rfl) ?_
  refine AWL.nil ?_
  (refine hK _ ?_; clear hK K; (try simp only [nA, Nat.reduceBEq, Nat.reduceEqDiff, ↓reduceIte, Nat.reduceAdd, Nat.reduceSub]))
  (refine AW.seq_k ?_; intro K hK)
  (refine AW.seq_k ?_; intro K hK)
  refine AW.region ?_
  refine awP (op_move rfl rfl) ?_
  refine awJ (OpQ.j (op_callQ (b := true) rfl en42 (C42) (RL.cons (by first | exact View.same rfl | exact View.nil | exact View.rof | exact View.src .ro | exact View.src .rof | exact View.src (.sl rfl rfl) | exact View.ptr rfl rfl rfl) (RL.nil)) rfl)) ?_; (try simp only [nA, Nat.reduceBEq, Nat.reduceEqDiff, ↓reduceIte, Nat.reduceAdd, Nat.reduceSub])
  refine awP (op_not rfl rfl rfl) ?_
  refine AWL.nil ?_
  (refine hK _ ?_; clear hK K; (try simp only [nA, Nat.reduceBEq, Nat.reduceEqDiff, ↓reduceIte, Nat.reduceAdd, Nat.reduceSub]))
  refine AW.cond rfl rfl rfl (fun hc => ?_) (fun hc => ?_)
  ·
   (try simp only [hcS] at hc); have hc1 := hc; skip
   (refine AW.seq_k ?_; intro K hK)
   refine AW.region ?_
   refine awP (op_assign rfl rfl) ?_
   refine awP (op_assign rfl rfl) ?_
   refine AWL.nil ?_
   (refine hK _ ?_; clear hK K; (try simp only [nA, Nat.reduceBEq, Nat.reduceEqDiff, ↓reduceIte, Nat.reduceAdd, Nat.reduceSub]))
   refine AW.gh (Gh.nil (e := 43) 4 (Nat.le_of_ble_eq_true rfl) rfl sz43) ?_; (try simp only [nA, Nat.reduceBEq, Nat.reduceEqDiff, ↓reduceIte, Nat.reduceAdd, Nat.reduceSub]); refine AW.gh (Gh.freeze 4 (Nat.le_of_ble_eq_true rfl) rfl rfl (by simp) (es' := ([] : List Pr).map Pr.av) rfl) ?_; (try simp only [nA, Nat.reduceBEq, Nat.reduceEqDiff, ↓reduceIte, Nat.reduceAdd, Nat.reduceSub])
   refine AW.ret ?_; (try simp only [thenE, inBlk, Nat.reduceEqDiff, ↓reduceIte]); rw [show balanceV payer xs = ([], 3) by unfold balanceV; rw [if_pos (by simpa using hc1)]]; exact RQ.of0 rfl (.tmp (Nat.le_of_ble_eq_true rfl) rfl rfl (.tmp (Nat.le_of_ble_eq_true rfl) rfl rfl .nil))
  ·
   (try simp only [hcS] at hc); have hc1 := hc; have hnb : nameB payer = true := (by simpa using hc1)
   refine AW.skip ?_
   (refine hK _ ?_; clear hK K; (try simp only [nA, Nat.reduceBEq, Nat.reduceEqDiff, ↓reduceIte, Nat.reduceAdd, Nat.reduceSub]))
   (refine AW.seq_k ?_; intro K hK)
   refine AW.region ?_
   refine awP (op_move rfl rfl) ?_
   (first | refine awP (op_len_ro rfl rfl Try.underlying34 (by first | exact .inr (.inl ⟨_, rfl, rfl⟩) | exact .inl rfl | exact .inr (.inr (.inl ⟨_, rfl, rfl⟩)) | exact .inr (.inr (.inr ⟨rfl, rfl⟩)))) ?_ | refine awP (op_len_sl rfl rfl rfl Try.underlying34) ?_ | refine awP (op_len_str rfl rfl Try.underlying34) ?_)
   refine awP (op_assign rfl rfl) ?_
   refine AWL.nil ?_
   (refine hK _ ?_; clear hK K; (try simp only [nA, Nat.reduceBEq, Nat.reduceEqDiff, ↓reduceIte, Nat.reduceAdd, Nat.reduceSub]))
   refine AW.join (ι := Unit) (fun _ => [(0, .v (.string payer)), (1, .ro (xs.map Pr.av)), (6, .v (.int .i64 ((xs.length + absN payer xs : Nat) : Int)))]) (fun _ => ⟨[], 1⟩) (fun _ => True) ?_ ?_
   ·
    (refine AW.seq_k ?_; intro K hK)
    refine AW.region ?_
    refine awP (op_move rfl rfl) ?_
    refine awP (op_move rfl rfl) ?_
    refine awJ (OpQ.j (op_callQ (b := true) rfl en43 (C43 ) (RL.cons (by first | exact View.same rfl | exact View.nil | exact View.rof | exact View.src .ro | exact View.src .rof | exact View.src (.sl rfl rfl) | exact View.ptr rfl rfl rfl) (RL.cons (by first | exact View.same rfl | exact View.nil | exact View.rof | exact View.src .ro | exact View.src .rof | exact View.src (.sl rfl rfl) | exact View.ptr rfl rfl rfl) (RL.nil))) rfl)) ?_; (try simp only [nA, Nat.reduceBEq, Nat.reduceEqDiff, ↓reduceIte, Nat.reduceAdd, Nat.reduceSub])
    refine awP (op_lss rfl rfl rfl) ?_
    refine AWL.nil ?_
    (refine hK _ ?_; clear hK K; (try simp only [nA, Nat.reduceBEq, Nat.reduceEqDiff, ↓reduceIte, Nat.reduceAdd, Nat.reduceSub]))
    refine AW.cond rfl rfl rfl (fun hc => ?_) (fun hc => ?_)
    ·
     (try simp only [hcS] at hc); have hc2 := hc; skip
     refine AW.region ?_
     refine awP (op_move rfl rfl) ?_
     (first | refine awP (op_addi rfl rfl rfl (by omega)) ?_ | refine awP (op_add rfl rfl rfl rfl) ?_)
     refine awP (op_assign rfl rfl) ?_
     refine AWL.nil ?_
     have hab : absN payer xs = 1 := (by unfold absN; rw [if_neg (fun h => by have := posI_nn.2 h; omega)]); refine ⟨(), trivial, ⟨rfl, rfl, (by rw [hab]; rfl), trivial⟩, rfl, rfl⟩
    ·
     (try simp only [hcS] at hc); have hc2 := hc; skip
     refine AW.skip ?_
     have hab : absN payer xs = 0 := (by unfold absN; rw [if_pos (posI_nn.1 (by omega))]); refine ⟨(), trivial, ⟨rfl, rfl, (by rw [hab]; rfl), trivial⟩, rfl, rfl⟩
   intro _ ρ _; simp only [updL]; (try simp only [nA, Nat.reduceBEq, Nat.reduceEqDiff, ↓reduceIte, Nat.reduceAdd, Nat.reduceSub])
   (refine AW.seq_k ?_; intro K hK)
   (refine AW.seq_k ?_; intro K hK)
   refine AW.region ?_
   refine awP (op_move rfl rfl) ?_
   refine awP (op_gtr rfl rfl rfl) ?_
   refine AWL.nil ?_
   (refine hK _ ?_; clear hK K; (try simp only [nA, Nat.reduceBEq, Nat.reduceEqDiff, ↓reduceIte, Nat.reduceAdd, Nat.reduceSub]))
   refine AW.cond rfl rfl rfl (fun hc => ?_) (fun hc => ?_)
   ·
    (try simp only [hcS] at hc); have hc3 := hc; skip
    (refine AW.seq_k ?_; intro K hK)
    refine AW.region ?_
    refine awP (op_assign rfl rfl) ?_
    refine awP (op_assign rfl rfl) ?_
    refine AWL.nil ?_
    (refine hK _ ?_; clear hK K; (try simp only [nA, Nat.reduceBEq, Nat.reduceEqDiff, ↓reduceIte, Nat.reduceAdd, Nat.reduceSub]))
    refine AW.gh (Gh.nil (e := 43) 4 (Nat.le_of_ble_eq_true rfl) rfl sz43) ?_; (try simp only [nA, Nat.reduceBEq, Nat.reduceEqDiff, ↓reduceIte, Nat.reduceAdd, Nat.reduceSub]); refine AW.gh (Gh.freeze 4 (Nat.le_of_ble_eq_true rfl) rfl rfl (by simp) (es' := ([] : List Pr).map Pr.av) rfl) ?_; (try simp only [nA, Nat.reduceBEq, Nat.reduceEqDiff, ↓reduceIte, Nat.reduceAdd, Nat.reduceSub])
    refine AW.ret ?_; (try simp only [thenE, inBlk, Nat.reduceEqDiff, ↓reduceIte]); rw [show balanceV payer xs = ([], 2) by unfold balanceV; rw [if_neg (by rw [hnb]; simp)]; rw [if_pos (by omega)]]; exact RQ.of0 rfl (.tmp (Nat.le_of_ble_eq_true rfl) rfl rfl (.tmp (Nat.le_of_ble_eq_true rfl) rfl rfl .nil))
   ·
    (try simp only [hcS] at hc); have hc3 := hc; have h8 : ¬ 8 < xs.length + absN payer xs := (by omega)
    refine AW.skip ?_
    (refine hK _ ?_; clear hK K; (try simp only [nA, Nat.reduceBEq, Nat.reduceEqDiff, ↓reduceIte, Nat.reduceAdd, Nat.reduceSub]))
    (refine AW.seq_k ?_; intro K hK)
    (refine AW.seq_k ?_; intro K hK)
    refine AW.region ?_
    refine awP (op_move rfl rfl) ?_
    refine awJ (OpQ.j (op_callQ (b := true) rfl en44 (C44) (RL.cons (by first | exact View.same rfl | exact View.nil | exact View.rof | exact View.src .ro | exact View.src .rof | exact View.src (.sl rfl rfl) | exact View.ptr rfl rfl rfl) (RL.cons (by first | exact View.same rfl | exact View.nil | exact View.rof | exact View.src .ro | exact View.src .rof | exact View.src (.sl rfl rfl) | exact View.ptr rfl rfl rfl) (RL.nil))) rfl)) ?_; (try simp only [nA, Nat.reduceBEq, Nat.reduceEqDiff, ↓reduceIte, Nat.reduceAdd, Nat.reduceSub])
    refine awP (op_assign rfl rfl) ?_
    refine AWL.nil ?_
    (refine hK _ ?_; clear hK K; (try simp only [nA, Nat.reduceBEq, Nat.reduceEqDiff, ↓reduceIte, Nat.reduceAdd, Nat.reduceSub]))
    (refine AW.seq_k ?_; intro K hK)
    refine AW.region ?_
    refine awP (op_move rfl rfl) ?_
    (first | refine awP (op_neq rfl rfl rfl) ?_ | refine awP (op_sneq rfl rfl rfl) ?_)
    refine AWL.nil ?_
    (refine hK _ ?_; clear hK K; (try simp only [nA, Nat.reduceBEq, Nat.reduceEqDiff, ↓reduceIte, Nat.reduceAdd, Nat.reduceSub]))
    refine AW.cond rfl rfl rfl (fun hc => ?_) (fun hc => ?_)
    ·
     (try simp only [hcS] at hc); have hc4 := hc; skip
     (refine AW.seq_k ?_; intro K hK)
     refine AW.region ?_
     refine awP (op_move rfl rfl) ?_
     refine awP (op_assign rfl rfl) ?_
     refine awP (op_assign rfl rfl) ?_
     refine AWL.nil ?_
     (refine hK _ ?_; clear hK K; (try simp only [nA, Nat.reduceBEq, Nat.reduceEqDiff, ↓reduceIte, Nat.reduceAdd, Nat.reduceSub]))
     refine AW.gh (Gh.nil (e := 43) 4 (Nat.le_of_ble_eq_true rfl) rfl sz43) ?_; (try simp only [nA, Nat.reduceBEq, Nat.reduceEqDiff, ↓reduceIte, Nat.reduceAdd, Nat.reduceSub]); refine AW.gh (Gh.freeze 4 (Nat.le_of_ble_eq_true rfl) rfl rfl (by simp) (es' := ([] : List Pr).map Pr.av) rfl) ?_; (try simp only [nA, Nat.reduceBEq, Nat.reduceEqDiff, ↓reduceIte, Nat.reduceAdd, Nat.reduceSub])
     refine AW.ret ?_; (try simp only [thenE, inBlk, Nat.reduceEqDiff, ↓reduceIte]); rw [show balanceV payer xs = ([], badE 0 xs) by unfold balanceV; rw [if_neg (by rw [hnb]; simp)]; rw [if_neg h8, if_neg (by simpa using hc4)]]; exact RQ.of0 rfl (.tmp (Nat.le_of_ble_eq_true rfl) rfl rfl (.tmp (Nat.le_of_ble_eq_true rfl) rfl rfl .nil))
    ·
     (try simp only [hcS] at hc); have hc4 := hc; have hbe : badE 0 xs = 0 := (by simpa using hc4); have hin : ∀ p ∈ xs, 0 ≤ p.amt ∧ p.amt ≤ 1073741824 := fun p hp => bad_in hbe hp; have hon := bad_only hbe
     refine AW.skip ?_
     (refine hK _ ?_; clear hK K; (try simp only [nA, Nat.reduceBEq, Nat.reduceEqDiff, ↓reduceIte, Nat.reduceAdd, Nat.reduceSub]))
     (refine AW.seq_k ?_; intro K hK)
     (refine AW.seq_k ?_; intro K hK)
     refine AW.region ?_
     refine awP (op_move rfl rfl) ?_
     refine awJ (OpQ.j (op_callQ (b := true) rfl en24 (C24) (RL.cons (by first | exact View.same rfl | exact View.nil | exact View.rof | exact View.src .ro | exact View.src .rof | exact View.src (.sl rfl rfl) | exact View.ptr rfl rfl rfl) (RL.nil)) rfl)) ?_; (try simp only [nA, Nat.reduceBEq, Nat.reduceEqDiff, ↓reduceIte, Nat.reduceAdd, Nat.reduceSub])
     refine awP (op_gtr rfl rfl rfl) ?_
     refine AWL.nil ?_
     (refine hK _ ?_; clear hK K; (try simp only [nA, Nat.reduceBEq, Nat.reduceEqDiff, ↓reduceIte, Nat.reduceAdd, Nat.reduceSub]))
     refine AW.cond rfl rfl rfl (fun hc => ?_) (fun hc => ?_)
     ·
      (try simp only [hcS] at hc); have hc5 := hc; skip
      (refine AW.seq_k ?_; intro K hK)
      refine AW.region ?_
      refine awP (op_assign rfl rfl) ?_
      refine awP (op_assign rfl rfl) ?_
      refine AWL.nil ?_
      (refine hK _ ?_; clear hK K; (try simp only [nA, Nat.reduceBEq, Nat.reduceEqDiff, ↓reduceIte, Nat.reduceAdd, Nat.reduceSub]))
      refine AW.gh (Gh.nil (e := 43) 4 (Nat.le_of_ble_eq_true rfl) rfl sz43) ?_; (try simp only [nA, Nat.reduceBEq, Nat.reduceEqDiff, ↓reduceIte, Nat.reduceAdd, Nat.reduceSub]); refine AW.gh (Gh.freeze 4 (Nat.le_of_ble_eq_true rfl) rfl rfl (by simp) (es' := ([] : List Pr).map Pr.av) rfl) ?_; (try simp only [nA, Nat.reduceBEq, Nat.reduceEqDiff, ↓reduceIte, Nat.reduceAdd, Nat.reduceSub])
      refine AW.ret ?_; (try simp only [thenE, inBlk, Nat.reduceEqDiff, ↓reduceIte]); rw [show balanceV payer xs = ([], 1) by unfold balanceV; rw [if_neg (by rw [hnb]; simp)]; rw [if_neg h8, if_pos hbe, if_pos (by omega)]]; exact RQ.of0 rfl (.tmp (Nat.le_of_ble_eq_true rfl) rfl rfl (.tmp (Nat.le_of_ble_eq_true rfl) rfl rfl .nil))
     ·
      (try simp only [hcS] at hc); have hc5 := hc; have hBV : balanceV payer xs = (balL payer xs, 0) := (by unfold balanceV; rw [if_neg (by rw [hnb]; simp)]; rw [if_neg h8, if_pos hbe, if_neg (by omega)])
      refine AW.skip ?_
      (refine hK _ ?_; clear hK K; (try simp only [nA, Nat.reduceBEq, Nat.reduceEqDiff, ↓reduceIte, Nat.reduceAdd, Nat.reduceSub]))
      (refine AW.seq_k ?_; intro K hK)
      refine AW.region ?_
      refine awP (op_assign rfl rfl) ?_
      refine AWL.nil ?_
      (refine hK _ ?_; clear hK K; (try simp only [nA, Nat.reduceBEq, Nat.reduceEqDiff, ↓reduceIte, Nat.reduceAdd, Nat.reduceSub]))
      (refine AW.seq_k ?_; intro K hK)
      refine AW.region ?_
      refine awP (op_assign rfl rfl) ?_
      refine AWL.nil ?_
      (refine hK _ ?_; clear hK K; (try simp only [nA, Nat.reduceBEq, Nat.reduceEqDiff, ↓reduceIte, Nat.reduceAdd, Nat.reduceSub]))
      (refine AW.seq_k ?_; intro K hK)
      (refine AW.seq_k ?_; intro K hK)
      refine AW.region ?_
      refine awP (op_assign rfl rfl) ?_
      refine AWL.nil ?_
      (refine hK _ ?_; clear hK K; (try simp only [nA, Nat.reduceBEq, Nat.reduceEqDiff, ↓reduceIte, Nat.reduceAdd, Nat.reduceSub]))
      refine AW.block ?_
      refine AW.gh (Gh.nil (e := 43) 8 (Nat.le_of_ble_eq_true rfl) rfl sz43) ?_; (try simp only [nA, Nat.reduceBEq, Nat.reduceEqDiff, ↓reduceIte, Nat.reduceAdd, Nat.reduceSub]); refine AW.loopI (fun (q : Nat × Nat × Nat) => [(0, .v (.string payer)), (1, .ro (xs.map Pr.av)), (8, .sl 0 q.2.1 0 q.1), (9, .v (.int .i64 (othS payer xs q.1))), (10, .v (.int .i64 (q.1 : Nat)))]) (fun q => ⟨[(q.2.1, .own 43 (((xs.take q.1).map (negP payer)).map Pr.av))], q.2.2⟩) (fun q => q.1 ≤ xs.length) (fun q => xs.length - q.1) (0, _, _) (by simp) ⟨rfl, rfl, rfl, rfl, rfl, trivial⟩ rfl ?_; rintro ⟨i, v, ep⟩ ρ hI; simp only at hI; simp only [updL]; (try simp only [nA, Nat.reduceBEq, Nat.reduceEqDiff, ↓reduceIte, Nat.reduceAdd, Nat.reduceSub])
      (refine AW.seq_k ?_; intro K hK)
      (refine AW.seq_k ?_; intro K hK)
      refine AW.region ?_
      refine awP (op_move rfl rfl) ?_
      refine awP (op_move rfl rfl) ?_
      (first | refine awP (op_len_ro rfl rfl Try.underlying34 (by first | exact .inr (.inl ⟨_, rfl, rfl⟩) | exact .inl rfl | exact .inr (.inr (.inl ⟨_, rfl, rfl⟩)) | exact .inr (.inr (.inr ⟨rfl, rfl⟩)))) ?_ | refine awP (op_len_sl rfl rfl rfl Try.underlying34) ?_ | refine awP (op_len_str rfl rfl Try.underlying34) ?_)
      refine awP (op_lss rfl rfl rfl) ?_
      refine AWL.nil ?_
      (refine hK _ ?_; clear hK K; (try simp only [nA, Nat.reduceBEq, Nat.reduceEqDiff, ↓reduceIte, Nat.reduceAdd, Nat.reduceSub]))
      refine AW.cond rfl rfl rfl (fun hc => ?_) (fun hc => ?_)
      ·
       (try simp only [hcS] at hc); have hc6 := hc; have hlt : i < xs.length := (by omega); obtain ⟨q, hqi⟩ : ∃ q, xs[i]? = some q := ⟨xs[i], List.getElem?_eq_getElem hlt⟩; have hqm := hin _ (List.mem_of_getElem? hqi); have hob := othS_bd (payer := payer) hin i hI
       refine AW.skip ?_
       (refine hK _ ?_; clear hK K; (try simp only [nA, Nat.reduceBEq, Nat.reduceEqDiff, ↓reduceIte, Nat.reduceAdd, Nat.reduceSub]))
       (refine AW.seq_k ?_; intro K hK)
       refine AW.block ?_
       (refine AW.seq_k ?_; intro K hK)
       refine AW.region ?_
       refine awP (op_move rfl rfl) ?_
       refine awP (op_move rfl rfl) ?_
       (first | refine awP (op_ia_ro i rfl (.inl rfl) rfl Try.underlying34 rfl (get_of hqi) (by exact sz43) (Nat.le_of_ble_eq_true rfl)) ?_ | refine awP (op_ia_sl  _ _ rfl rfl rfl rfl Try.underlying34 rfl (by omega) (by exact sz43) rfl) ?_)
       (first | refine awP (op_fa_ptr rfl rfl rfl fl43_0 (by exact sz9) (by decide) rfl) ?_ | refine awP (op_fa_rop rfl rfl fl43_0 (by exact sz9) (by decide) (Nat.le_of_ble_eq_true rfl) rfl) ?_)
       (first | refine awR (op_load_ptr1 rfl rfl rfl rfl ag9 rfl rfl) ?_ | refine awR (op_load_rop1 rfl rfl ag9) ?_)
       refine awP (op_build2 (xs := [_, .v (.int .i64 0)]) rfl pl43 ze43 [(0, [_])] rfl rfl rfl) ?_
       refine awJ (op_alloc rfl ze43 rfl) ?_; (try simp only [nA, Nat.reduceBEq, Nat.reduceEqDiff, ↓reduceIte, Nat.reduceAdd, Nat.reduceSub])
       refine awJ (op_store rfl rfl rfl rfl rfl rfl sz43 rfl (Nat.le_of_ble_eq_true rfl) rfl) ?_; (try simp only [nA, Nat.reduceBEq, Nat.reduceEqDiff, ↓reduceIte, Nat.reduceAdd, Nat.reduceSub])
       refine AWL.nil ?_
       (refine hK _ ?_; clear hK K; (try simp only [nA, Nat.reduceBEq, Nat.reduceEqDiff, ↓reduceIte, Nat.reduceAdd, Nat.reduceSub]))
       (refine AW.seq_k ?_; intro K hK)
       (refine AW.seq_k ?_; intro K hK)
       refine AW.region ?_
       (first | refine awP (op_fa_ptr rfl rfl rfl fl43_0 (by exact sz9) (by decide) rfl) ?_ | refine awP (op_fa_rop rfl rfl fl43_0 (by exact sz9) (by decide) (Nat.le_of_ble_eq_true rfl) rfl) ?_)
       (first | refine awR (op_load_ptr1 rfl rfl rfl rfl ag9 rfl rfl) ?_ | refine awR (op_load_rop1 rfl rfl ag9) ?_)
       refine awP (op_move rfl rfl) ?_
       (first | refine awP (op_neq rfl rfl rfl) ?_ | refine awP (op_sneq rfl rfl rfl) ?_)
       refine AWL.nil ?_
       (refine hK _ ?_; clear hK K; (try simp only [nA, Nat.reduceBEq, Nat.reduceEqDiff, ↓reduceIte, Nat.reduceAdd, Nat.reduceSub]))
       refine AW.cond rfl rfl rfl (fun hc => ?_) (fun hc => ?_)
       ·
        (try simp only [hcS] at hc); have hc7 := hc; have hne : ¬ q.name = payer := (fun h => hc7 (tl_eq.2 h)); have hng : negP payer q = ⟨q.name, -q.amt⟩ := (by unfold negP; rw [if_neg hne])
        (refine AW.seq_k ?_; intro K hK)
        refine AW.region ?_
        refine awP (op_move rfl rfl) ?_
        refine awP (op_move rfl rfl) ?_
        (first | refine awP (op_ia_ro i rfl (.inl rfl) rfl Try.underlying34 rfl (get_of hqi) (by exact sz43) (Nat.le_of_ble_eq_true rfl)) ?_ | refine awP (op_ia_sl  _ _ rfl rfl rfl rfl Try.underlying34 rfl (by omega) (by exact sz43) rfl) ?_)
        (first | refine awP (op_fa_ptr rfl rfl rfl fl43_1 (by exact sz3) (by decide) rfl) ?_ | refine awP (op_fa_rop rfl rfl fl43_1 (by exact sz3) (by decide) (Nat.le_of_ble_eq_true rfl) rfl) ?_)
        (first | refine awR (op_load_ptr1 rfl rfl rfl rfl ag3 rfl rfl) ?_ | refine awR (op_load_rop1 rfl rfl ag3) ?_)
        refine awP (op_negi rfl rfl (by omega)) ?_
        (first | refine awP (op_fa_ptr rfl rfl rfl fl43_1 (by exact sz3) (by decide) rfl) ?_ | refine awP (op_fa_rop rfl rfl fl43_1 (by exact sz3) (by decide) (Nat.le_of_ble_eq_true rfl) rfl) ?_)
        refine awJ (op_store  rfl rfl rfl rfl rfl rfl sz3 rfl (Nat.le_of_ble_eq_true rfl) rfl) ?_; (try simp only [nA, Nat.reduceBEq, Nat.reduceEqDiff, ↓reduceIte, Nat.reduceAdd, Nat.reduceSub])
        refine AWL.nil ?_
        (refine hK _ ?_; clear hK K; (try simp only [nA, Nat.reduceBEq, Nat.reduceEqDiff, ↓reduceIte, Nat.reduceAdd, Nat.reduceSub]))
        refine AW.region ?_
        refine awP (op_move rfl rfl) ?_
        refine awP (op_move rfl rfl) ?_
        refine awP (op_move rfl rfl) ?_
        (first | refine awP (op_ia_ro i rfl (.inl rfl) rfl Try.underlying34 rfl (get_of hqi) (by exact sz43) (Nat.le_of_ble_eq_true rfl)) ?_ | refine awP (op_ia_sl  _ _ rfl rfl rfl rfl Try.underlying34 rfl (by omega) (by exact sz43) rfl) ?_)
        (first | refine awP (op_fa_ptr rfl rfl rfl fl43_1 (by exact sz3) (by decide) rfl) ?_ | refine awP (op_fa_rop rfl rfl fl43_1 (by exact sz3) (by decide) (Nat.le_of_ble_eq_true rfl) rfl) ?_)
        (first | refine awR (op_load_ptr1 rfl rfl rfl rfl ag3 rfl rfl) ?_ | refine awR (op_load_rop1 rfl rfl ag3) ?_)
        (first | refine awP (op_addi rfl rfl rfl (by omega)) ?_ | refine awP (op_add rfl rfl rfl rfl) ?_)
        refine awP (op_assign rfl rfl) ?_
        refine AWL.nil ?_
        (refine hK _ ?_; clear hK K; (try simp only [nA, Nat.reduceBEq, Nat.reduceEqDiff, ↓reduceIte, Nat.reduceAdd, Nat.reduceSub]))
        refine AW.region ?_
        refine awP (op_move rfl rfl) ?_
        (first | refine awR (op_load_ptr rfl rfl rfl rfl ag43 sz43 (Nat.le_of_ble_eq_true rfl) rfl) ?_ | refine awR (op_load_rop rfl rfl ag43 sz43 (Nat.le_of_ble_eq_true rfl) (by decide) rfl) ?_)
        refine awJ (op_buildSlice rfl [(0, _)] [_] Try.underlying34 ze43 rfl (by simp) rfl (by simp) rfl (Nat.le_of_ble_eq_true rfl) (by simp [maxLen])) ?_; (try simp only [nA, Nat.reduceBEq, Nat.reduceEqDiff, ↓reduceIte, Nat.reduceAdd, Nat.reduceSub]); skip; (try simp only [nA, Nat.reduceBEq, Nat.reduceEqDiff, ↓reduceIte, Nat.reduceAdd, Nat.reduceSub])
        refine awJ (op_app (rows := [Pr.av ⟨q.name, -q.amt⟩]) rfl rfl rfl rfl (by simp; omega) (.sl (es := [Pr.av ⟨q.name, -q.amt⟩]) rfl rfl) Try.underlying34 ze43 (by decide) (by simp [Pr.av]) (by simp; omega) (by decide) (es' := ((xs.take (i + 1)).map (negP payer)).map Pr.av) (by rw [neg_take hqi, hng]; simp) (n := i + 1) (by simp; omega)) ?_; (try simp only [nA, Nat.reduceBEq, Nat.reduceEqDiff, ↓reduceIte, Nat.reduceAdd, Nat.reduceSub])
        refine awP (op_assign rfl rfl) ?_
        refine AWL.nil ?_
        (try simp only [thenE, inBlk, Nat.reduceEqDiff, ↓reduceIte])
        (refine hK _ ?_; clear hK K; (try simp only [nA, Nat.reduceBEq, Nat.reduceEqDiff, ↓reduceIte, Nat.reduceAdd, Nat.reduceSub]))
        refine AW.region ?_
        refine awP (op_move rfl rfl) ?_
        (first | refine awP (op_addi rfl rfl rfl (by omega)) ?_ | refine awP (op_add rfl rfl rfl rfl) ?_)
        refine awP (op_assign rfl rfl) ?_
        refine AWL.gh (Gh.drop 1) ?_; (try simp only [nA, Nat.reduceBEq, Nat.reduceEqDiff, ↓reduceIte, Nat.reduceAdd, Nat.reduceSub])
        refine AWL.nil ?_
        refine ⟨(i + 1, _, _), by dsimp only; omega, by dsimp only; omega, ⟨rfl, rfl, rfl, (by dsimp only; rw [othS_s hqi, show othP payer q = q.amt by unfold othP; rw [if_neg hne]]; rfl), rfl, trivial⟩, (by first | rfl | trivial), (by first | rfl | trivial)⟩
       ·
        (try simp only [hcS] at hc); have hc7 := hc; have hne : q.name = payer := (tl_eq.1 (by simpa using hc7)); have hng : negP payer q = ⟨q.name, 0⟩ := (by unfold negP; rw [if_pos hne])
        refine AW.skip ?_
        (refine hK _ ?_; clear hK K; (try simp only [nA, Nat.reduceBEq, Nat.reduceEqDiff, ↓reduceIte, Nat.reduceAdd, Nat.reduceSub]))
        refine AW.region ?_
        refine awP (op_move rfl rfl) ?_
        (first | refine awR (op_load_ptr rfl rfl rfl rfl ag43 sz43 (Nat.le_of_ble_eq_true rfl) rfl) ?_ | refine awR (op_load_rop rfl rfl ag43 sz43 (Nat.le_of_ble_eq_true rfl) (by decide) rfl) ?_)
        refine awJ (op_buildSlice rfl [(0, _)] [_] Try.underlying34 ze43 rfl (by simp) rfl (by simp) rfl (Nat.le_of_ble_eq_true rfl) (by simp [maxLen])) ?_; (try simp only [nA, Nat.reduceBEq, Nat.reduceEqDiff, ↓reduceIte, Nat.reduceAdd, Nat.reduceSub]); skip; (try simp only [nA, Nat.reduceBEq, Nat.reduceEqDiff, ↓reduceIte, Nat.reduceAdd, Nat.reduceSub])
        refine awJ (op_app (rows := [Pr.av ⟨q.name, 0⟩]) rfl rfl rfl rfl (by simp; omega) (.sl (es := [Pr.av ⟨q.name, 0⟩]) rfl rfl) Try.underlying34 ze43 (by decide) (by simp [Pr.av]) (by simp; omega) (by decide) (es' := ((xs.take (i + 1)).map (negP payer)).map Pr.av) (by rw [neg_take hqi, hng]; simp) (n := i + 1) (by simp; omega)) ?_; (try simp only [nA, Nat.reduceBEq, Nat.reduceEqDiff, ↓reduceIte, Nat.reduceAdd, Nat.reduceSub])
        refine awP (op_assign rfl rfl) ?_
        refine AWL.nil ?_
        (try simp only [thenE, inBlk, Nat.reduceEqDiff, ↓reduceIte])
        (refine hK _ ?_; clear hK K; (try simp only [nA, Nat.reduceBEq, Nat.reduceEqDiff, ↓reduceIte, Nat.reduceAdd, Nat.reduceSub]))
        refine AW.region ?_
        refine awP (op_move rfl rfl) ?_
        (first | refine awP (op_addi rfl rfl rfl (by omega)) ?_ | refine awP (op_add rfl rfl rfl rfl) ?_)
        refine awP (op_assign rfl rfl) ?_
        refine AWL.gh (Gh.drop 1) ?_; (try simp only [nA, Nat.reduceBEq, Nat.reduceEqDiff, ↓reduceIte, Nat.reduceAdd, Nat.reduceSub])
        refine AWL.nil ?_
        refine ⟨(i + 1, _, _), by dsimp only; omega, by dsimp only; omega, ⟨rfl, rfl, rfl, (by dsimp only; rw [othS_s hqi, show othP payer q = 0 by unfold othP; rw [if_pos hne], Int.add_zero]; rfl), rfl, trivial⟩, (by first | rfl | trivial), (by first | rfl | trivial)⟩
      ·
       (try simp only [hcS] at hc); have hc6 := hc; obtain rfl : i = xs.length := (by omega); rw [List.take_length]; have hlp := llP_pos (payer := payer) (xs := xs)
       refine AW.exit ?_; (try simp only [thenE, inBlk, Nat.reduceEqDiff, ↓reduceIte])
       clear hK K
       (refine hK _ ?_; clear hK K; (try simp only [nA, Nat.reduceBEq, Nat.reduceEqDiff, ↓reduceIte, Nat.reduceAdd, Nat.reduceSub]))
       refine AW.join (ι := Nat × Nat) (fun q => [(0, .v (.string payer)), (8, .sl 0 q.1 0 (llP payer xs).length), (9, .v (.int .i64 (othS payer xs xs.length)))]) (fun q => ⟨[(q.1, .own 43 ((llP payer xs).map Pr.av))], q.2⟩) (fun _ => True) ?_ ?_
       ·
        (refine AW.seq_k ?_; intro K hK)
        refine AW.region ?_
        refine awP (op_move rfl rfl) ?_
        refine awP (op_move rfl rfl) ?_
        refine awJ (OpQ.j (op_callQ (b := true) rfl en43 (C43 (xs := xs.map (negP payer))) (RL.cons (View.src (.sl rfl (pr_view _ (by simp)))) (RL.cons (by first | exact View.same rfl | exact View.nil | exact View.rof | exact View.src .ro | exact View.src .rof | exact View.src (.sl rfl rfl) | exact View.ptr rfl rfl rfl) (RL.nil))) rfl)) ?_; (try simp only [nA, Nat.reduceBEq, Nat.reduceEqDiff, ↓reduceIte, Nat.reduceAdd, Nat.reduceSub])
        refine awP (op_lss rfl rfl rfl) ?_
        refine AWL.nil ?_
        (refine hK _ ?_; clear hK K; (try simp only [nA, Nat.reduceBEq, Nat.reduceEqDiff, ↓reduceIte, Nat.reduceAdd, Nat.reduceSub]))
        refine AW.cond rfl rfl rfl (fun hc => ?_) (fun hc => ?_)
        ·
         (try simp only [hcS] at hc); have hc8 := hc; have hab : ¬ posL xs payer < xs.length := (fun h => by rw [show posI (xs.map (negP payer)) payer = posI xs payer from neg_posI] at hc8; have := posI_nn.2 h; omega); have hll : llP payer xs = xs.map (negP payer) ++ [⟨payer, 0⟩] := (by unfold llP; rw [if_neg hab])
         refine AW.region ?_
         refine awP (op_move rfl rfl) ?_
         refine awP (op_move rfl rfl) ?_
         refine awP (op_build2 (xs := [_, .v (.int .i64 0)]) rfl pl43 ze43 [(0, [_])] rfl rfl rfl) ?_
         refine awJ (op_buildSlice rfl [(0, _)] [_] Try.underlying34 ze43 rfl (by simp) rfl (by simp) rfl (Nat.le_of_ble_eq_true rfl) (by simp [maxLen])) ?_; (try simp only [nA, Nat.reduceBEq, Nat.reduceEqDiff, ↓reduceIte, Nat.reduceAdd, Nat.reduceSub]); skip; (try simp only [nA, Nat.reduceBEq, Nat.reduceEqDiff, ↓reduceIte, Nat.reduceAdd, Nat.reduceSub])
         refine awJ (op_app (rows := [Pr.av ⟨payer, 0⟩]) rfl rfl rfl rfl (by simp) (.sl (es := [Pr.av ⟨payer, 0⟩]) rfl rfl) Try.underlying34 ze43 (by decide) (by simp [Pr.av]) (by simp; omega) (by decide) (es' := (llP payer xs).map Pr.av) (by rw [hll]; simp) (n := (llP payer xs).length) (by rw [hll]; simp)) ?_; (try simp only [nA, Nat.reduceBEq, Nat.reduceEqDiff, ↓reduceIte, Nat.reduceAdd, Nat.reduceSub]); refine AWL.gh (Gh.drop 1) ?_; (try simp only [nA, Nat.reduceBEq, Nat.reduceEqDiff, ↓reduceIte, Nat.reduceAdd, Nat.reduceSub])
         refine awP (op_assign rfl rfl) ?_
         refine AWL.nil ?_
         refine ⟨(_, _), trivial, ⟨rfl, rfl, rfl, trivial⟩, rfl, rfl⟩
        ·
         (try simp only [hcS] at hc); have hc8 := hc; have hab : posL xs payer < xs.length := (posI_nn.1 (by rw [show posI (xs.map (negP payer)) payer = posI xs payer from neg_posI] at hc8; omega)); have hll : llP payer xs = xs.map (negP payer) := (by unfold llP; rw [if_pos hab, List.append_nil])
         refine AW.skip ?_
         refine ⟨(_, _), trivial, ⟨rfl, (by rw [hll, List.length_map]; rfl), rfl, trivial⟩, (by rw [hll]), rfl⟩
       rintro ⟨v2, ep2⟩ ρ2 _; simp only [updL]; (try simp only [nA, Nat.reduceBEq, Nat.reduceEqDiff, ↓reduceIte, Nat.reduceAdd, Nat.reduceSub]); have hpI : posI (llP payer xs) payer = ((posL xs payer : Nat) : Int) := (by unfold posI; rw [if_pos (by rw [hlp.1]; exact hlp.2), hlp.1])
       (refine AW.seq_k ?_; intro K hK)
       refine AW.region ?_
       refine awP (op_move rfl rfl) ?_
       refine awP (op_move rfl rfl) ?_
       refine awP (op_move rfl rfl) ?_
       refine awJ (OpQ.j (op_callQ (b := true) rfl en43 (C43 (xs := llP payer xs)) (RL.cons (View.src (.sl rfl (pr_view _ (by simp)))) (RL.cons (by first | exact View.same rfl | exact View.nil | exact View.rof | exact View.src .ro | exact View.src .rof | exact View.src (.sl rfl rfl) | exact View.ptr rfl rfl rfl) (RL.nil))) rfl)) ?_; (try simp only [nA, Nat.reduceBEq, Nat.reduceEqDiff, ↓reduceIte, Nat.reduceAdd, Nat.reduceSub])
       refine awP (op_move rfl rfl) ?_
       (first | refine awP (op_ia_ro _ rfl (.inl rfl) rfl Try.underlying34 rfl (get_map (by omega)) (by exact sz43) (Nat.le_of_ble_eq_true rfl)) ?_ | refine awP (op_ia_sl (posL xs payer) 2 rfl rfl rfl rfl Try.underlying34 hpI hlp.2 (by exact sz43) (Nat.zero_add _)) ?_)
       (first | refine awP (op_fa_ptr rfl rfl rfl fl43_1 (by exact sz3) (by decide) rfl) ?_ | refine awP (op_fa_rop rfl rfl fl43_1 (by exact sz3) (by decide) (Nat.le_of_ble_eq_true rfl) rfl) ?_)
       refine awJ (op_store rfl rfl rfl rfl (get_mapD hlp.2) rfl sz3 rfl (Nat.le_of_ble_eq_true rfl) (bal_set payer xs)) ?_; (try simp only [nA, Nat.reduceBEq, Nat.reduceEqDiff, ↓reduceIte, Nat.reduceAdd, Nat.reduceSub])
       refine AWL.nil ?_
       (refine hK _ ?_; clear hK K; (try simp only [nA, Nat.reduceBEq, Nat.reduceEqDiff, ↓reduceIte, Nat.reduceAdd, Nat.reduceSub]))
       (refine AW.seq_k ?_; intro K hK)
       refine AW.region ?_
       refine awP (op_move rfl rfl) ?_
       refine awP (op_assign rfl rfl) ?_
       refine awP (op_assign rfl rfl) ?_
       refine AWL.nil ?_
       (refine hK _ ?_; clear hK K; (try simp only [nA, Nat.reduceBEq, Nat.reduceEqDiff, ↓reduceIte, Nat.reduceAdd, Nat.reduceSub]))
       refine AW.gh (Gh.freeze 4 (Nat.le_of_ble_eq_true rfl) rfl rfl (Pr.flat (balL payer xs)) (es' := (balL payer xs).map Pr.av) (by rw [List.take_of_length_le (by simp [balL])])) ?_; (try simp only [nA, Nat.reduceBEq, Nat.reduceEqDiff, ↓reduceIte, Nat.reduceAdd, Nat.reduceSub])
       refine AW.ret ?_; (try simp only [thenE, inBlk, Nat.reduceEqDiff, ↓reduceIte]); rw [hBV]; exact RQ.of0 rfl (.tmp (Nat.le_of_ble_eq_true rfl) rfl rfl (.tmp (Nat.le_of_ble_eq_true rfl) rfl rfl .nil))
end Go.Proofs.Ytnflkbgappgdiaa
