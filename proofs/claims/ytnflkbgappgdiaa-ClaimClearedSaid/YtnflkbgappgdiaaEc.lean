import Derived.Test.YtnflkbgappgdiaaEb
namespace Go.Proofs.Ytnflkbgappgdiaa
open Go.RowKit
set_option linter.unusedSimpArgs false
set_option linter.unusedVariables false

theorem tl_eq {a b : ByteArray} : a.toList = b.toList ↔ a = b := by
  refine ⟨fun h => ?_, fun h => by rw [h]⟩
  rw [ByteArray.toList_eq, ByteArray.toList_eq] at h
  exact ByteArray.ext (Array.toList_inj.1 h)
structure Pr where
  name : ByteArray
  amt : Int
deriving DecidableEq
instance : Inhabited Pr := ⟨⟨ByteArray.empty, 0⟩⟩
def Pr.av (p : Pr) : List AV := [.v (.string p.name), .v (.int .i64 p.amt)]
theorem Pr.len (l : List Pr) : ∀ x ∈ l.map Pr.av, x.length = 2 := fun x hx => by
  obtain ⟨p, _, rfl⟩ := List.mem_map.1 hx
  rfl
theorem Pr.flat (l : List Pr) : ∀ r ∈ l.map Pr.av, ∀ c ∈ r, flatA c = true := fun r hr c hc => by
  obtain ⟨p, _, rfl⟩ := List.mem_map.1 hr
  unfold Pr.av at hc
  simp only [List.mem_cons, List.not_mem_nil, or_false] at hc
  rcases hc with rfl | rfl <;> rfl
theorem get_of {α β : Type} {f : α → β} {xs : List α} {m : Nat} {x : α} (h : xs[m]? = some x) : (xs.map f)[m]? = some (f x) := by simp [h]
theorem first_at {α : Type} {f : α → Bool} {xs : List α} {i : Nat} {x : α} (h : xs[i]? = some x) (hx : f x = true) (hb : ∀ k (hk : k < xs.length), k < i → f xs[k] = false) : xs.findIdx f = i := by
  obtain ⟨hi, rfl⟩ := List.getElem?_eq_some_iff.1 h
  exact (List.findIdx_eq hi).2 ⟨hx, fun j hj => by simpa using hb j (by omega) hj⟩
theorem first_no {α : Type} {f : α → Bool} {xs : List α} (hb : ∀ k (hk : k < xs.length), f xs[k] = false) : xs.findIdx f = xs.length := by
  refine List.findIdx_eq_length.2 fun x hx => ?_
  obtain ⟨k, hk, rfl⟩ := List.getElem_of_mem hx
  exact hb k hk
abbrev isN (n : ByteArray) (p : Pr) : Bool := decide (p.name = n)
def posL (l : List Pr) (n : ByteArray) : Nat := l.findIdx (isN n)
def posI (l : List Pr) (n : ByteArray) : Int := if posL l n < l.length then (posL l n : Nat) else -1
theorem C40 {xs : List Pr} {n : ByteArray} : Fn Try.prog 40 [] [.ro (xs.map Pr.av), .v (.string n)] [.v (.int .i64 (posI xs n))] [] := by
  refine Spec.small 0 rfl fun hx => ?_
  rw [List.length_map] at hx
  refine Spec.body Try.func40 rfl Try.ntmps40 (by simp) rfl ?_; intro S0 own0 v0 w0
  (refine AW.seq_k ?_; intro K hK)
  refine AW.region ?_
  refine awP (op_assign rfl rfl) ?_
  refine AWL.nil ?_
  (refine hK _ ?_; clear hK K; (try simp only [nA, Nat.reduceBEq, Nat.reduceEqDiff, ↓reduceIte, Nat.reduceAdd, Nat.reduceSub]))
  (refine AW.seq_k ?_; intro K hK)
  (refine AW.seq_k ?_; intro K hK)
  refine AW.region ?_
  refine awP (op_move rfl rfl) ?_
  (first | refine awP (op_len_ro rfl rfl Try.underlying34 (by first | exact .inr (.inl ⟨_, rfl, rfl⟩) | exact .inl rfl | exact .inr (.inr (.inl ⟨_, rfl, rfl⟩)) | exact .inr (.inr (.inr ⟨rfl, rfl⟩)))) ?_ | refine awP (op_len_sl rfl rfl rfl Try.underlying34) ?_ | refine awP (op_len_str rfl rfl Try.underlying34) ?_)
  refine awP (op_move rfl rfl) ?_
  refine AWL.nil ?_
  (refine hK _ ?_; clear hK K; (try simp only [nA, Nat.reduceBEq, Nat.reduceEqDiff, ↓reduceIte, Nat.reduceAdd, Nat.reduceSub]))
  refine AW.block ?_
  refine AW.loopI (fun (q : Nat × Nat) => [(1, .v (.string n)), (7, .ro (xs.map Pr.av)), (8, .v (.int .i64 (xs.length : Nat))), (9, .v (.int .i64 (q.1 : Nat)))]) (fun q => ⟨[], q.2⟩) (fun q => q.1 ≤ xs.length ∧ ∀ k (hk : k < xs.length), k < q.1 → isN n xs[k] = false) (fun q => xs.length - q.1) (0, 1) ⟨by simp, by simp⟩ ⟨rfl, rfl, rfl, rfl, trivial⟩ rfl ?_; rintro ⟨i, e⟩ ρ hI; simp only at hI; simp only [updL]; (try simp only [nA, Nat.reduceBEq, Nat.reduceEqDiff, ↓reduceIte, Nat.reduceAdd, Nat.reduceSub])
  (refine AW.seq_k ?_; intro K hK)
  refine AW.region ?_
  refine awP (op_lss rfl rfl rfl) ?_
  refine AWL.nil ?_
  (refine hK _ ?_; clear hK K; (try simp only [nA, Nat.reduceBEq, Nat.reduceEqDiff, ↓reduceIte, Nat.reduceAdd, Nat.reduceSub]))
  (refine AW.seq_k ?_; intro K hK)
  refine AW.cond rfl rfl rfl (fun hc => ?_) (fun hc => ?_)
  ·
   (try simp only [hcS] at hc); have hc1 := hc; have hlt : i < xs.length := (by simpa using hc1); obtain ⟨q, hqi⟩ : ∃ q, xs[i]? = some q := ⟨xs[i], List.getElem?_eq_getElem hlt⟩; have hqe := (List.getElem?_eq_some_iff.1 hqi).2
   refine AW.skip ?_
   (refine hK _ ?_; clear hK K; (try simp only [nA, Nat.reduceBEq, Nat.reduceEqDiff, ↓reduceIte, Nat.reduceAdd, Nat.reduceSub]))
   (refine AW.seq_k ?_; intro K hK)
   refine AW.block ?_
   (refine AW.seq_k ?_; intro K hK)
   refine AW.region ?_
   refine awP (op_move rfl rfl) ?_
   (first | refine awP (op_ia_ro i rfl (.inl rfl) rfl Try.underlying34 rfl (get_of hqi) (by exact sz43) (Nat.le_of_ble_eq_true rfl)) ?_ | refine awP (op_ia_sl _ _ rfl rfl rfl rfl Try.underlying34 rfl (by omega) (by exact sz43) rfl) ?_)
   (first | refine awR (op_load_ptr rfl rfl rfl rfl ag43 sz43 (Nat.le_of_ble_eq_true rfl) rfl) ?_ | refine awR (op_load_rop rfl rfl ag43 sz43 (Nat.le_of_ble_eq_true rfl) (by decide) rfl) ?_)
   refine awJ (op_alloc rfl ze43 rfl) ?_; (try simp only [nA, Nat.reduceBEq, Nat.reduceEqDiff, ↓reduceIte, Nat.reduceAdd, Nat.reduceSub])
   refine awP (op_assign rfl rfl) ?_
   refine awJ (op_store rfl rfl rfl rfl rfl rfl sz43 rfl (Nat.le_of_ble_eq_true rfl) rfl) ?_; (try simp only [nA, Nat.reduceBEq, Nat.reduceEqDiff, ↓reduceIte, Nat.reduceAdd, Nat.reduceSub])
   refine AWL.nil ?_
   (refine hK _ ?_; clear hK K; (try simp only [nA, Nat.reduceBEq, Nat.reduceEqDiff, ↓reduceIte, Nat.reduceAdd, Nat.reduceSub]))
   (refine AW.seq_k ?_; intro K hK)
   refine AW.region ?_
   (first | refine awP (op_fa_ptr rfl rfl rfl fl43_0 (by exact sz9) (by decide) rfl) ?_ | refine awP (op_fa_rop rfl rfl fl43_0 (by exact sz9) (by decide) (Nat.le_of_ble_eq_true rfl) rfl) ?_)
   (first | refine awR (op_load_ptr1 rfl rfl rfl rfl ag9 rfl rfl) ?_ | refine awR (op_load_rop1 rfl rfl ag9) ?_)
   refine awP (op_move rfl rfl) ?_
   (first | refine awP (op_eql rfl rfl rfl) ?_ | refine awP (op_seql rfl rfl rfl) ?_)
   refine AWL.nil ?_
   (refine hK _ ?_; clear hK K; (try simp only [nA, Nat.reduceBEq, Nat.reduceEqDiff, ↓reduceIte, Nat.reduceAdd, Nat.reduceSub]))
   refine AW.cond rfl rfl rfl (fun hc => ?_) (fun hc => ?_)
   ·
    (try simp only [hcS] at hc); have hc2 := hc; skip
    (refine AW.seq_k ?_; intro K hK)
    refine AW.region ?_
    refine awP (op_move rfl rfl) ?_
    refine awP (op_assign rfl rfl) ?_
    refine AWL.nil ?_
    (refine hK _ ?_; clear hK K; (try simp only [nA, Nat.reduceBEq, Nat.reduceEqDiff, ↓reduceIte, Nat.reduceAdd, Nat.reduceSub]))
    skip
    refine AW.ret ?_; (try simp only [thenE, inBlk, Nat.reduceEqDiff, ↓reduceIte]); rw [show posI xs n = (i : Nat) by have h1 : posL xs n = i := first_at hqi (by simpa [tl_eq] using hc2) hI.2; unfold posI; rw [h1, if_pos hlt]]; exact RQ.of0 rfl (.tmp (Nat.le_of_ble_eq_true rfl) rfl rfl .nil)
   ·
    (try simp only [hcS] at hc); have hc2 := hc; skip
    refine AW.skip ?_
    (try simp only [thenE, inBlk, Nat.reduceEqDiff, ↓reduceIte])
    (refine hK _ ?_; clear hK K; (try simp only [nA, Nat.reduceBEq, Nat.reduceEqDiff, ↓reduceIte, Nat.reduceAdd, Nat.reduceSub]))
    refine AW.region ?_
    (first | refine awP (op_addi rfl rfl rfl (by omega)) ?_ | refine awP (op_add rfl rfl rfl rfl) ?_)
    refine awP (op_move rfl rfl) ?_
    refine AWL.gh (Gh.drop 0) ?_; (try simp only [nA, Nat.reduceBEq, Nat.reduceEqDiff, ↓reduceIte, Nat.reduceAdd, Nat.reduceSub])
    refine AWL.nil ?_
    refine ⟨(i + 1, _), ⟨by dsimp only; omega, fun k hk hki => by rcases Nat.lt_or_ge k i with h' | h'; exact hI.2 k hk h'; (obtain rfl : k = i := by dsimp only at hki; omega); (rw [hqe]; simpa using fun h => hc2 (tl_eq.2 h))⟩, by dsimp only; omega, ⟨rfl, rfl, rfl, rfl, trivial⟩, (by first | rfl | trivial), (by first | rfl | trivial)⟩
  ·
   (try simp only [hcS] at hc); have hc1 := hc; skip
   refine AW.exit ?_; (try simp only [thenE, inBlk, Nat.reduceEqDiff, ↓reduceIte])
   clear hK K
   (refine hK _ ?_; clear hK K; (try simp only [nA, Nat.reduceBEq, Nat.reduceEqDiff, ↓reduceIte, Nat.reduceAdd, Nat.reduceSub]))
   (refine AW.seq_k ?_; intro K hK)
   refine AW.region ?_
   refine awP (op_assign rfl rfl) ?_
   refine AWL.nil ?_
   (refine hK _ ?_; clear hK K; (try simp only [nA, Nat.reduceBEq, Nat.reduceEqDiff, ↓reduceIte, Nat.reduceAdd, Nat.reduceSub]))
   skip
   refine AW.ret ?_; (try simp only [thenE, inBlk, Nat.reduceEqDiff, ↓reduceIte]); rw [show posI xs n = -1 by have h1 : posL xs n = xs.length := first_no (fun k hk => hI.2 k hk (by simp at hc1; omega)); unfold posI; rw [h1, if_neg (by omega)]]; exact RQ.of0 rfl (.tmp (Nat.le_of_ble_eq_true rfl) rfl rfl .nil)
theorem C43 {xs : List Pr} {n : ByteArray} : Fn Try.prog 43 [] [.ro (xs.map Pr.av), .v (.string n)] [.v (.int .i64 (posI xs n))] [] := by
  refine Spec.small 0 rfl fun hx => ?_
  rw [List.length_map] at hx
  refine Spec.body Try.func43 rfl Try.ntmps43 (by simp) rfl ?_; intro S0 own0 v0 w0
  (refine AW.seq_k ?_; intro K hK)
  refine AW.region ?_
  refine awP (op_assign rfl rfl) ?_
  refine AWL.nil ?_
  (refine hK _ ?_; clear hK K; (try simp only [nA, Nat.reduceBEq, Nat.reduceEqDiff, ↓reduceIte, Nat.reduceAdd, Nat.reduceSub]))
  (refine AW.seq_k ?_; intro K hK)
  (refine AW.seq_k ?_; intro K hK)
  refine AW.region ?_
  refine awP (op_assign rfl rfl) ?_
  refine AWL.nil ?_
  (refine hK _ ?_; clear hK K; (try simp only [nA, Nat.reduceBEq, Nat.reduceEqDiff, ↓reduceIte, Nat.reduceAdd, Nat.reduceSub]))
  refine AW.block ?_
  refine AW.loopI (fun (i : Nat) => [(0, .ro (xs.map Pr.av)), (1, .v (.string n)), (5, .v (.int .i64 (i : Nat)))]) (fun _ => ⟨[], 1⟩) (fun i => i ≤ xs.length ∧ ∀ k (hk : k < xs.length), k < i → isN n xs[k] = false) (fun i => xs.length - i) 0 ⟨by simp, by simp⟩ ⟨rfl, rfl, rfl, trivial⟩ rfl ?_; intro i ρ hI; simp only [updL]; (try simp only [nA, Nat.reduceBEq, Nat.reduceEqDiff, ↓reduceIte, Nat.reduceAdd, Nat.reduceSub])
  (refine AW.seq_k ?_; intro K hK)
  (refine AW.seq_k ?_; intro K hK)
  refine AW.region ?_
  refine awP (op_move rfl rfl) ?_
  refine awP (op_move rfl rfl) ?_
  (first | refine awP (op_len_ro rfl rfl Try.underlying34 (by first | exact .inr (.inl ⟨_, rfl, rfl⟩) | exact .inl rfl | exact .inr (.inr (.inl ⟨_, rfl, rfl⟩)) | exact .inr (.inr (.inr ⟨rfl, rfl⟩)))) ?_ | refine awP (op_len_sl rfl rfl rfl Try.underlying34) ?_ | refine awP (op_len_str rfl rfl Try.underlying34) ?_)
  refine awP (op_lss rfl rfl rfl) ?_
  refine AWL.nil ?_
  (refine hK _ ?_; clear hK K; (try simp only [nA, Nat.reduceBEq, Nat.reduceEqDiff, ↓reduceIte, Nat.reduceAdd, Nat.reduceSub]))
  refine AW.cond rfl rfl rfl (fun hc => ?_) (fun hc => ?_)
  ·
   (try simp only [hcS] at hc); have hc1 := hc; have hlt : i < xs.length := (by simpa using hc1); obtain ⟨q, hqi⟩ : ∃ q, xs[i]? = some q := ⟨xs[i], List.getElem?_eq_getElem hlt⟩; have hqe := (List.getElem?_eq_some_iff.1 hqi).2
   refine AW.skip ?_
   (refine hK _ ?_; clear hK K; (try simp only [nA, Nat.reduceBEq, Nat.reduceEqDiff, ↓reduceIte, Nat.reduceAdd, Nat.reduceSub]))
   (refine AW.seq_k ?_; intro K hK)
   refine AW.block ?_
   (refine AW.seq_k ?_; intro K hK)
   refine AW.region ?_
   refine awP (op_move rfl rfl) ?_
   refine awP (op_move rfl rfl) ?_
   (first | refine awP (op_ia_ro i rfl (.inl rfl) rfl Try.underlying34 rfl (get_of hqi) (by exact sz43) (Nat.le_of_ble_eq_true rfl)) ?_ | refine awP (op_ia_sl _ _ rfl rfl rfl rfl Try.underlying34 rfl (by omega) (by exact sz43) rfl) ?_)
   (first | refine awP (op_fa_ptr rfl rfl rfl fl43_0 (by exact sz9) (by decide) rfl) ?_ | refine awP (op_fa_rop rfl rfl fl43_0 (by exact sz9) (by decide) (Nat.le_of_ble_eq_true rfl) rfl) ?_)
   (first | refine awR (op_load_ptr1 rfl rfl rfl rfl ag9 rfl rfl) ?_ | refine awR (op_load_rop1 rfl rfl ag9) ?_)
   refine awP (op_move rfl rfl) ?_
   (first | refine awP (op_eql rfl rfl rfl) ?_ | refine awP (op_seql rfl rfl rfl) ?_)
   refine AWL.nil ?_
   (refine hK _ ?_; clear hK K; (try simp only [nA, Nat.reduceBEq, Nat.reduceEqDiff, ↓reduceIte, Nat.reduceAdd, Nat.reduceSub]))
   refine AW.cond rfl rfl rfl (fun hc => ?_) (fun hc => ?_)
   ·
    (try simp only [hcS] at hc); have hc2 := hc; skip
    (refine AW.seq_k ?_; intro K hK)
    refine AW.region ?_
    refine awP (op_move rfl rfl) ?_
    refine awP (op_assign rfl rfl) ?_
    refine AWL.nil ?_
    (refine hK _ ?_; clear hK K; (try simp only [nA, Nat.reduceBEq, Nat.reduceEqDiff, ↓reduceIte, Nat.reduceAdd, Nat.reduceSub]))
    skip
    refine AW.ret ?_; (try simp only [thenE, inBlk, Nat.reduceEqDiff, ↓reduceIte]); rw [show posI xs n = (i : Nat) by have h1 : posL xs n = i := first_at hqi (by simpa [tl_eq] using hc2) hI.2; unfold posI; rw [h1, if_pos hlt]]; exact RQ.of0 rfl (.tmp (Nat.le_of_ble_eq_true rfl) rfl rfl .nil)
   ·
    (try simp only [hcS] at hc); have hc2 := hc; skip
    refine AW.skip ?_
    (try simp only [thenE, inBlk, Nat.reduceEqDiff, ↓reduceIte])
    (refine hK _ ?_; clear hK K; (try simp only [nA, Nat.reduceBEq, Nat.reduceEqDiff, ↓reduceIte, Nat.reduceAdd, Nat.reduceSub]))
    refine AW.region ?_
    refine awP (op_move rfl rfl) ?_
    (first | refine awP (op_addi rfl rfl rfl (by omega)) ?_ | refine awP (op_add rfl rfl rfl rfl) ?_)
    refine awP (op_assign rfl rfl) ?_
    skip
    refine AWL.nil ?_
    refine ⟨i + 1, ⟨by omega, fun k hk hki => by rcases Nat.lt_or_ge k i with h' | h'; exact hI.2 k hk h'; (obtain rfl : k = i := by omega); (rw [hqe]; simpa using fun h => hc2 (tl_eq.2 h))⟩, by omega, ⟨rfl, rfl, rfl, trivial⟩, (by first | rfl | trivial), (by first | rfl | trivial)⟩
  ·
   (try simp only [hcS] at hc); have hc1 := hc; skip
   refine AW.exit ?_; (try simp only [thenE, inBlk, Nat.reduceEqDiff, ↓reduceIte])
   clear hK K
   (refine hK _ ?_; clear hK K; (try simp only [nA, Nat.reduceBEq, Nat.reduceEqDiff, ↓reduceIte, Nat.reduceAdd, Nat.reduceSub]))
   (refine AW.seq_k ?_; intro K hK)
   refine AW.region ?_
   refine awP (op_assign rfl rfl) ?_
   refine AWL.nil ?_
   (refine hK _ ?_; clear hK K; (try simp only [nA, Nat.reduceBEq, Nat.reduceEqDiff, ↓reduceIte, Nat.reduceAdd, Nat.reduceSub]))
   skip
   refine AW.ret ?_; (try simp only [thenE, inBlk, Nat.reduceEqDiff, ↓reduceIte]); rw [show posI xs n = -1 by have h1 : posL xs n = xs.length := first_no (fun k hk => hI.2 k hk (by simp at hc1; omega)); unfold posI; rw [h1, if_neg (by omega)]]; exact RQ.of0 rfl (.tmp (Nat.le_of_ble_eq_true rfl) rfl rfl .nil)
end Go.Proofs.Ytnflkbgappgdiaa
