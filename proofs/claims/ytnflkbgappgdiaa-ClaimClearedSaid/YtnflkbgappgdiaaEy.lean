import Derived.Test.YtnflkbgappgdiaaEi
namespace Go.Proofs.Ytnflkbgappgdiaa
open Go.RowKit
set_option linter.unusedSimpArgs false
set_option linter.unusedVariables false
def textV (l : List Int) (k : Nat) (xs : List ByteArray) : ByteArray := xs.getD (gmod (rawV l k) (xs.length : Nat)).toNat default
theorem C12 {l : List Int} {k : Nat} {xs : List ByteArray} (hl : l.length ≤ 2000) (h1 : 1 ≤ xs.length) (h2 : xs.length ≤ 1000) : Fn Try.prog 12 [.own 63 [srcRow l k]] [.ptr 0 0 0 0, .ro (xs.map sv)] [.v (.string (textV l k xs))] [.own 63 [srcRow l (rawN l k)]] := by
  have hg := gmod_bd (x := rawV l k) (n := (xs.length : Nat)) (by omega)
  refine Spec.body Try.func12 rfl Try.ntmps12 (by simp) rfl ?_; intro S0 own0 v0 w0
  (refine AW.seq_k ?_; intro K hK)
  refine AW.region ?_
  refine awP (op_assign rfl rfl) ?_; (try simp only [nA, Nat.reduceBEq, Nat.reduceEqDiff, ↓reduceIte, Nat.reduceAdd, Nat.reduceSub])
  refine AWL.nil ?_
  (refine hK _ ?_; clear hK K; (try simp only [nA, Nat.reduceBEq, Nat.reduceEqDiff, ↓reduceIte, Nat.reduceAdd, Nat.reduceSub]))
  (refine AW.seq_k ?_; intro K hK)
  refine AW.region ?_
  refine awP (op_move rfl rfl) ?_; (try simp only [nA, Nat.reduceBEq, Nat.reduceEqDiff, ↓reduceIte, Nat.reduceAdd, Nat.reduceSub])
  refine awP (op_move rfl rfl) ?_; (try simp only [nA, Nat.reduceBEq, Nat.reduceEqDiff, ↓reduceIte, Nat.reduceAdd, Nat.reduceSub])
  refine awP (op_move rfl rfl) ?_; (try simp only [nA, Nat.reduceBEq, Nat.reduceEqDiff, ↓reduceIte, Nat.reduceAdd, Nat.reduceSub])
  (first | refine awP (op_len_ro rfl rfl Try.underlying31 (by first | exact .inr (.inl ⟨_, rfl, rfl⟩) | exact .inl rfl | exact .inr (.inr (.inl ⟨_, rfl, rfl⟩)) | exact .inr (.inr (.inr ⟨rfl, rfl⟩)))) ?_ | refine awP (op_len_sl rfl rfl rfl Try.underlying31) ?_ | refine awP (op_len_str rfl rfl Try.underlying31) ?_); (try simp only [nA, Nat.reduceBEq, Nat.reduceEqDiff, ↓reduceIte, Nat.reduceAdd, Nat.reduceSub])
  refine awJ (op_call1 rfl en11 (C11 hl (n := (xs.length : Nat)) (by omega)) (by exact rfl) (RL.cons .ptr (RL.cons (.base (by first | exact View.same rfl | exact View.nil | exact View.rof | exact View.src .ro | exact View.src .rof | exact View.src (.sl rfl rfl) | exact View.ptr rfl rfl rfl)) (RL.nil))) (by exact ⟨_, _, _, rfl, rfl, rfl⟩) (by exact rfl) (by exact rfl) (by exact rfl)) ?_; (try simp only [nA, Nat.reduceBEq, Nat.reduceEqDiff, ↓reduceIte, Nat.reduceAdd, Nat.reduceSub])
  (first | refine awP (op_ia_ro (gmod (rawV l k) (xs.length : Nat)).toNat rfl (.inl rfl) rfl Try.underlying31 (by omega) (get_mapD (by omega)) (by exact sz9) (Nat.le_of_ble_eq_true rfl)) ?_ | refine awP (op_ia_sl _ _ rfl rfl rfl rfl Try.underlying31 rfl (by omega) (by exact sz9) rfl) ?_); (try simp only [nA, Nat.reduceBEq, Nat.reduceEqDiff, ↓reduceIte, Nat.reduceAdd, Nat.reduceSub])
  (first | refine awR (op_load_ptr1 rfl rfl rfl rfl ag9 rfl rfl) ?_ | refine awR (op_load_rop1 rfl rfl ag9) ?_); (try simp only [nA, Nat.reduceBEq, Nat.reduceEqDiff, ↓reduceIte, Nat.reduceAdd, Nat.reduceSub])
  refine awP (op_assign rfl rfl) ?_; (try simp only [nA, Nat.reduceBEq, Nat.reduceEqDiff, ↓reduceIte, Nat.reduceAdd, Nat.reduceSub])
  refine AWL.nil ?_
  (refine hK _ ?_; clear hK K; (try simp only [nA, Nat.reduceBEq, Nat.reduceEqDiff, ↓reduceIte, Nat.reduceAdd, Nat.reduceSub]))
  skip
  refine AW.ret ?_; (try simp only [thenE, inBlk, Nat.reduceEqDiff, ↓reduceIte]); exact RQ.of (.inl rfl) rfl (.tmp (Nat.le_of_ble_eq_true rfl) rfl rfl .nil) (by simp) rfl (one_out rfl)
theorem partsF_len (l : List Int) (st : Int) : ∀ (f k : Nat) (ps : List Pr), (partsF l st f k ps).1.length = ps.length + f := by
  intro f
  induction f with
  | zero => intro k ps; rw [partsF_0]; rfl
  | succ f ih => intro k ps; rw [partsF_s, ih]; simp; omega
theorem partsV_len {l : List Int} {k n : Nat} (hn : 1 ≤ n) : 1 ≤ (partsV l k n).1.length ∧ (partsV l k n).1.length ≤ n := by
  have hg := gmod_bd (x := rawV l (rawN l k)) (n := (n : Nat)) (by omega)
  have h1 := partsF_len l (gmod (rawV l k) 8) (1 + gmod (rawV l (rawN l k)) (n : Nat)).toNat (rawN l (rawN l k)) []
  have h2 : (partsV l k n).1.length = (partsF l (gmod (rawV l k) 8) (1 + gmod (rawV l (rawN l k)) (n : Nat)).toNat (rawN l (rawN l k)) []).1.length := by
    unfold partsV
    dsimp only
    generalize partsF l (gmod (rawV l k) 8) (1 + gmod (rawV l (rawN l k)) (n : Nat)).toNat (rawN l (rawN l k)) [] = r
    obtain ⟨ps, k'⟩ := r
    cases ps <;> rfl
  rw [h2, h1]
  simp
  omega
theorem balsF_len (l : List Int) (st : Int) : ∀ (f k : Nat) (tot : Int) (ps : List Pr), (balsF l st f k tot ps).1.length = ps.length + f := by
  intro f
  induction f with
  | zero => intro k tot ps; rw [balsF_0]; rfl
  | succ f ih => intro k tot ps; rw [balsF_s, ih]; simp; omega
theorem balsV_len (l : List Int) (k n : Nat) : (balsV l k n).1.length ≤ n := by
  have hg := gmod_bd (x := rawV l (rawN l k)) (n := (n : Int) + 1) (by omega)
  unfold balsV
  rw [balsF_len]
  simp
  omega
end Go.Proofs.Ytnflkbgappgdiaa
