import Derived.Test.YtngfknoddphhaaaLz
namespace Go.Proofs.Ytngfknoddphhaaa
open Go.RowKit
set_option linter.unusedSimpArgs false
set_option linter.unusedVariables false

abbrev flightN (x : Int) : Flight := ⟨⟨#[66, 65]⟩, 1, ⟨#[]⟩, 1 + x⟩
theorem C15n (x : Int) (h : 0 ≤ x ∧ x < 27) : Fn Try.prog 15 [] [.v (.int .i64 x), .v (.int .i64 27)] [.v (.int .i64 x)] [] := by
  have h1 := C15 (x := x) (n := 27) (by decide)
  rwa [show gmod x 27 = x by unfold gmod; rw [if_neg (by decide), Int.tmod_eq_emod_of_nonneg (by omega), Int.emod_eq_of_lt (by omega) (by omega), if_neg (by omega)]] at h1
theorem C42_0 : Fn Try.prog 42 [] [.v (.int .i64 0)] [.agg (flightN 0).av] [] := by
  refine Spec.body Try.func42 rfl Try.ntmps42 (by simp) rfl ?_; intro S0 own0 v0 w0
  (refine AW.seq_k ?_; intro K hK)
  refine AW.region ?_
  refine awJ (op_alloc rfl ze26 rfl) ?_; (try simp only [evS, lcS, nzR, nzA, nzL, Nat.reduceBEq, Nat.reduceEqDiff, ↓reduceIte, Nat.reduceAdd, Nat.reduceSub])
  refine AWL.nil ?_
  (refine hK _ ?_; clear hK K; (try simp only [evS, lcS, nzR, nzA, nzL, Nat.reduceBEq, Nat.reduceEqDiff, ↓reduceIte, Nat.reduceAdd, Nat.reduceSub]))
  (refine AW.seq_k ?_; intro K hK)
  refine AW.region ?_
  refine awP (op_move rfl rfl) ?_
  refine awJ (OpQ.j (op_callQ (b := true) rfl en15 (C15n 0 (by decide)) (RL.cons (by first | exact View.same rfl | exact View.nil | exact View.rof | exact View.src .ro | exact View.src .rof | exact View.src (.sl rfl rfl) | exact View.ptr rfl rfl rfl) (RL.cons (by first | exact View.same rfl | exact View.nil | exact View.rof | exact View.src .ro | exact View.src .rof | exact View.src (.sl rfl rfl) | exact View.ptr rfl rfl rfl) (RL.nil))) rfl)) ?_; (try simp only [evS, lcS, nzR, nzA, nzL, Nat.reduceBEq, Nat.reduceEqDiff, ↓reduceIte, Nat.reduceAdd, Nat.reduceSub])
  refine awP (op_assign rfl rfl) ?_
  refine AWL.nil ?_
  (refine hK _ ?_; clear hK K; (try simp only [evS, lcS, nzR, nzA, nzL, Nat.reduceBEq, Nat.reduceEqDiff, ↓reduceIte, Nat.reduceAdd, Nat.reduceSub]))
  (refine AW.seq_k ?_; intro K hK)
  refine AW.region ?_
  refine awJ (op_buildSlice rfl [(0, [_]), (1, [_]), (2, [_])] [[_], [_], [_]] Try.underlying81 ze9 rfl (by simp) rfl (by simp) rfl (Nat.le_of_ble_eq_true rfl) (by simp [maxLen])) ?_; (try simp only [evS, lcS, nzR, nzA, nzL, Nat.reduceBEq, Nat.reduceEqDiff, ↓reduceIte, Nat.reduceAdd, Nat.reduceSub]); skip; (try simp only [evS, lcS, nzR, nzA, nzL, Nat.reduceBEq, Nat.reduceEqDiff, ↓reduceIte, Nat.reduceAdd, Nat.reduceSub])
  refine awP (op_move rfl rfl) ?_
  (first | refine awP (op_quoi rfl rfl rfl (by omega)) ?_ | refine awP (op_quo rfl rfl rfl (by omega) rfl) ?_)
  (first | refine awP (op_ia_ro _ rfl (.inl rfl) rfl Try.underlying81 rfl (get_map (by omega)) (by exact sz9) (Nat.le_of_ble_eq_true rfl)) ?_ | refine awP (op_ia_sl 0 _ rfl rfl rfl rfl Try.underlying81 (by decide) (by decide) sz9 rfl) ?_)
  (first | refine awR (op_load_ptr1 rfl rfl rfl rfl ag9 rfl rfl) ?_ | refine awR (op_load_rop1 rfl rfl ag9) ?_)
  refine awP (op_move rfl rfl) ?_
  (first | refine awP (op_quoi rfl rfl rfl (by omega)) ?_ | refine awP (op_quo rfl rfl rfl (by omega) rfl) ?_)
  (first | refine awP (op_remi rfl rfl rfl (by omega)) ?_ | refine awP (op_rem rfl rfl rfl (by omega) rfl) ?_)
  (first | refine awP (op_addi rfl rfl rfl (by omega)) ?_ | refine awP (op_add rfl rfl rfl rfl) ?_)
  refine awP (op_move rfl rfl) ?_
  (first | refine awP (op_remi rfl rfl rfl (by omega)) ?_ | refine awP (op_rem rfl rfl rfl (by omega) rfl) ?_)
  (first | refine awP (op_addi rfl rfl rfl (by omega)) ?_ | refine awP (op_add rfl rfl rfl rfl) ?_)
  refine awP (op_build2 (xs := [_, _, .v (.string ⟨#[]⟩), _]) rfl pl26 ze26 [(0, [_]), (1, [_]), (3, [_])] rfl rfl rfl) ?_
  refine awJ (op_store rfl rfl rfl rfl rfl rfl sz26 rfl (Nat.le_of_ble_eq_true rfl) rfl) ?_; (try simp only [evS, lcS, nzR, nzA, nzL, Nat.reduceBEq, Nat.reduceEqDiff, ↓reduceIte, Nat.reduceAdd, Nat.reduceSub])
  refine AWL.nil ?_
  (refine hK _ ?_; clear hK K; (try simp only [evS, lcS, nzR, nzA, nzL, Nat.reduceBEq, Nat.reduceEqDiff, ↓reduceIte, Nat.reduceAdd, Nat.reduceSub]))
  skip
  refine AW.ret ?_; (try simp only [thenE, inBlk, Nat.reduceEqDiff, ↓reduceIte]); exact RQ.of0 rfl (.cell (Nat.le_of_ble_eq_true rfl) rfl rfl rfl ag26 sz26 (Nat.le_of_ble_eq_true rfl) rfl rfl .nil)
theorem C42_1 : Fn Try.prog 42 [] [.v (.int .i64 1)] [.agg (flightN 1).av] [] := by
  refine Spec.body Try.func42 rfl Try.ntmps42 (by simp) rfl ?_; intro S0 own0 v0 w0
  (refine AW.seq_k ?_; intro K hK)
  refine AW.region ?_
  refine awJ (op_alloc rfl ze26 rfl) ?_; (try simp only [evS, lcS, nzR, nzA, nzL, Nat.reduceBEq, Nat.reduceEqDiff, ↓reduceIte, Nat.reduceAdd, Nat.reduceSub])
  refine AWL.nil ?_
  (refine hK _ ?_; clear hK K; (try simp only [evS, lcS, nzR, nzA, nzL, Nat.reduceBEq, Nat.reduceEqDiff, ↓reduceIte, Nat.reduceAdd, Nat.reduceSub]))
  (refine AW.seq_k ?_; intro K hK)
  refine AW.region ?_
  refine awP (op_move rfl rfl) ?_
  refine awJ (OpQ.j (op_callQ (b := true) rfl en15 (C15n 1 (by decide)) (RL.cons (by first | exact View.same rfl | exact View.nil | exact View.rof | exact View.src .ro | exact View.src .rof | exact View.src (.sl rfl rfl) | exact View.ptr rfl rfl rfl) (RL.cons (by first | exact View.same rfl | exact View.nil | exact View.rof | exact View.src .ro | exact View.src .rof | exact View.src (.sl rfl rfl) | exact View.ptr rfl rfl rfl) (RL.nil))) rfl)) ?_; (try simp only [evS, lcS, nzR, nzA, nzL, Nat.reduceBEq, Nat.reduceEqDiff, ↓reduceIte, Nat.reduceAdd, Nat.reduceSub])
  refine awP (op_assign rfl rfl) ?_
  refine AWL.nil ?_
  (refine hK _ ?_; clear hK K; (try simp only [evS, lcS, nzR, nzA, nzL, Nat.reduceBEq, Nat.reduceEqDiff, ↓reduceIte, Nat.reduceAdd, Nat.reduceSub]))
  (refine AW.seq_k ?_; intro K hK)
  refine AW.region ?_
  refine awJ (op_buildSlice rfl [(0, [_]), (1, [_]), (2, [_])] [[_], [_], [_]] Try.underlying81 ze9 rfl (by simp) rfl (by simp) rfl (Nat.le_of_ble_eq_true rfl) (by simp [maxLen])) ?_; (try simp only [evS, lcS, nzR, nzA, nzL, Nat.reduceBEq, Nat.reduceEqDiff, ↓reduceIte, Nat.reduceAdd, Nat.reduceSub]); skip; (try simp only [evS, lcS, nzR, nzA, nzL, Nat.reduceBEq, Nat.reduceEqDiff, ↓reduceIte, Nat.reduceAdd, Nat.reduceSub])
  refine awP (op_move rfl rfl) ?_
  (first | refine awP (op_quoi rfl rfl rfl (by omega)) ?_ | refine awP (op_quo rfl rfl rfl (by omega) rfl) ?_)
  (first | refine awP (op_ia_ro _ rfl (.inl rfl) rfl Try.underlying81 rfl (get_map (by omega)) (by exact sz9) (Nat.le_of_ble_eq_true rfl)) ?_ | refine awP (op_ia_sl 0 _ rfl rfl rfl rfl Try.underlying81 (by decide) (by decide) sz9 rfl) ?_)
  (first | refine awR (op_load_ptr1 rfl rfl rfl rfl ag9 rfl rfl) ?_ | refine awR (op_load_rop1 rfl rfl ag9) ?_)
  refine awP (op_move rfl rfl) ?_
  (first | refine awP (op_quoi rfl rfl rfl (by omega)) ?_ | refine awP (op_quo rfl rfl rfl (by omega) rfl) ?_)
  (first | refine awP (op_remi rfl rfl rfl (by omega)) ?_ | refine awP (op_rem rfl rfl rfl (by omega) rfl) ?_)
  (first | refine awP (op_addi rfl rfl rfl (by omega)) ?_ | refine awP (op_add rfl rfl rfl rfl) ?_)
  refine awP (op_move rfl rfl) ?_
  (first | refine awP (op_remi rfl rfl rfl (by omega)) ?_ | refine awP (op_rem rfl rfl rfl (by omega) rfl) ?_)
  (first | refine awP (op_addi rfl rfl rfl (by omega)) ?_ | refine awP (op_add rfl rfl rfl rfl) ?_)
  refine awP (op_build2 (xs := [_, _, .v (.string ⟨#[]⟩), _]) rfl pl26 ze26 [(0, [_]), (1, [_]), (3, [_])] rfl rfl rfl) ?_
  refine awJ (op_store rfl rfl rfl rfl rfl rfl sz26 rfl (Nat.le_of_ble_eq_true rfl) rfl) ?_; (try simp only [evS, lcS, nzR, nzA, nzL, Nat.reduceBEq, Nat.reduceEqDiff, ↓reduceIte, Nat.reduceAdd, Nat.reduceSub])
  refine AWL.nil ?_
  (refine hK _ ?_; clear hK K; (try simp only [evS, lcS, nzR, nzA, nzL, Nat.reduceBEq, Nat.reduceEqDiff, ↓reduceIte, Nat.reduceAdd, Nat.reduceSub]))
  skip
  refine AW.ret ?_; (try simp only [thenE, inBlk, Nat.reduceEqDiff, ↓reduceIte]); exact RQ.of0 rfl (.cell (Nat.le_of_ble_eq_true rfl) rfl rfl rfl ag26 sz26 (Nat.le_of_ble_eq_true rfl) rfl rfl .nil)
theorem C42_2 : Fn Try.prog 42 [] [.v (.int .i64 2)] [.agg (flightN 2).av] [] := by
  refine Spec.body Try.func42 rfl Try.ntmps42 (by simp) rfl ?_; intro S0 own0 v0 w0
  (refine AW.seq_k ?_; intro K hK)
  refine AW.region ?_
  refine awJ (op_alloc rfl ze26 rfl) ?_; (try simp only [evS, lcS, nzR, nzA, nzL, Nat.reduceBEq, Nat.reduceEqDiff, ↓reduceIte, Nat.reduceAdd, Nat.reduceSub])
  refine AWL.nil ?_
  (refine hK _ ?_; clear hK K; (try simp only [evS, lcS, nzR, nzA, nzL, Nat.reduceBEq, Nat.reduceEqDiff, ↓reduceIte, Nat.reduceAdd, Nat.reduceSub]))
  (refine AW.seq_k ?_; intro K hK)
  refine AW.region ?_
  refine awP (op_move rfl rfl) ?_
  refine awJ (OpQ.j (op_callQ (b := true) rfl en15 (C15n 2 (by decide)) (RL.cons (by first | exact View.same rfl | exact View.nil | exact View.rof | exact View.src .ro | exact View.src .rof | exact View.src (.sl rfl rfl) | exact View.ptr rfl rfl rfl) (RL.cons (by first | exact View.same rfl | exact View.nil | exact View.rof | exact View.src .ro | exact View.src .rof | exact View.src (.sl rfl rfl) | exact View.ptr rfl rfl rfl) (RL.nil))) rfl)) ?_; (try simp only [evS, lcS, nzR, nzA, nzL, Nat.reduceBEq, Nat.reduceEqDiff, ↓reduceIte, Nat.reduceAdd, Nat.reduceSub])
  refine awP (op_assign rfl rfl) ?_
  refine AWL.nil ?_
  (refine hK _ ?_; clear hK K; (try simp only [evS, lcS, nzR, nzA, nzL, Nat.reduceBEq, Nat.reduceEqDiff, ↓reduceIte, Nat.reduceAdd, Nat.reduceSub]))
  (refine AW.seq_k ?_; intro K hK)
  refine AW.region ?_
  refine awJ (op_buildSlice rfl [(0, [_]), (1, [_]), (2, [_])] [[_], [_], [_]] Try.underlying81 ze9 rfl (by simp) rfl (by simp) rfl (Nat.le_of_ble_eq_true rfl) (by simp [maxLen])) ?_; (try simp only [evS, lcS, nzR, nzA, nzL, Nat.reduceBEq, Nat.reduceEqDiff, ↓reduceIte, Nat.reduceAdd, Nat.reduceSub]); skip; (try simp only [evS, lcS, nzR, nzA, nzL, Nat.reduceBEq, Nat.reduceEqDiff, ↓reduceIte, Nat.reduceAdd, Nat.reduceSub])
  refine awP (op_move rfl rfl) ?_
  (first | refine awP (op_quoi rfl rfl rfl (by omega)) ?_ | refine awP (op_quo rfl rfl rfl (by omega) rfl) ?_)
  (first | refine awP (op_ia_ro _ rfl (.inl rfl) rfl Try.underlying81 rfl (get_map (by omega)) (by exact sz9) (Nat.le_of_ble_eq_true rfl)) ?_ | refine awP (op_ia_sl 0 _ rfl rfl rfl rfl Try.underlying81 (by decide) (by decide) sz9 rfl) ?_)
  (first | refine awR (op_load_ptr1 rfl rfl rfl rfl ag9 rfl rfl) ?_ | refine awR (op_load_rop1 rfl rfl ag9) ?_)
  refine awP (op_move rfl rfl) ?_
  (first | refine awP (op_quoi rfl rfl rfl (by omega)) ?_ | refine awP (op_quo rfl rfl rfl (by omega) rfl) ?_)
  (first | refine awP (op_remi rfl rfl rfl (by omega)) ?_ | refine awP (op_rem rfl rfl rfl (by omega) rfl) ?_)
  (first | refine awP (op_addi rfl rfl rfl (by omega)) ?_ | refine awP (op_add rfl rfl rfl rfl) ?_)
  refine awP (op_move rfl rfl) ?_
  (first | refine awP (op_remi rfl rfl rfl (by omega)) ?_ | refine awP (op_rem rfl rfl rfl (by omega) rfl) ?_)
  (first | refine awP (op_addi rfl rfl rfl (by omega)) ?_ | refine awP (op_add rfl rfl rfl rfl) ?_)
  refine awP (op_build2 (xs := [_, _, .v (.string ⟨#[]⟩), _]) rfl pl26 ze26 [(0, [_]), (1, [_]), (3, [_])] rfl rfl rfl) ?_
  refine awJ (op_store rfl rfl rfl rfl rfl rfl sz26 rfl (Nat.le_of_ble_eq_true rfl) rfl) ?_; (try simp only [evS, lcS, nzR, nzA, nzL, Nat.reduceBEq, Nat.reduceEqDiff, ↓reduceIte, Nat.reduceAdd, Nat.reduceSub])
  refine AWL.nil ?_
  (refine hK _ ?_; clear hK K; (try simp only [evS, lcS, nzR, nzA, nzL, Nat.reduceBEq, Nat.reduceEqDiff, ↓reduceIte, Nat.reduceAdd, Nat.reduceSub]))
  skip
  refine AW.ret ?_; (try simp only [thenE, inBlk, Nat.reduceEqDiff, ↓reduceIte]); exact RQ.of0 rfl (.cell (Nat.le_of_ble_eq_true rfl) rfl rfl rfl ag26 sz26 (Nat.le_of_ble_eq_true rfl) rfl rfl .nil)
theorem C42 (x : Int) (h : 0 ≤ x ∧ x < 3) : Fn Try.prog 42 [] [.v (.int .i64 x)] [.agg (flightN x).av] [] := by
  rcases (by omega : x = 0 ∨ x = 1 ∨ x = 2) with rfl | rfl | rfl
  · exact C42_0
  · exact C42_1
  · exact C42_2
end Go.Proofs.Ytngfknoddphhaaa
