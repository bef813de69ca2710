import Derived.Test.YtngfknoddphhaaaMk
namespace Go.Proofs.Ytngfknoddphhaaa
open Go.RowKit
set_option linter.unusedSimpArgs false
set_option linter.unusedVariables false

theorem cav_flat (l : List Container) : ∀ r ∈ l.map Container.av, ∀ c ∈ r, flatA c = true := fun r hr c hc => by
  obtain ⟨x, _, rfl⟩ := List.mem_map.1 hr
  simp only [Container.av, List.mem_cons, List.not_mem_nil, or_false] at hc
  rcases hc with rfl | rfl | rfl | rfl | rfl | rfl | rfl | rfl | rfl | rfl | rfl <;> rfl
theorem C13p {i : Int} {p : Plate} (h : p = platesP i) : Fn Try.prog 13 [] [.v (.int .i64 i)] [.agg p.av] [] := by rw [h]; exact C13
def yF (xs : List Container) (q : Nat) (d : Container) (k : Nat) : List Container := if k ≤ q then xs else xs.set q d
def mF (q : Nat) (m : Piece) (k : Nat) : Piece := if k ≤ q then zeroP else m
theorem yF_le {xs : List Container} {q : Nat} {d : Container} {k : Nat} (h : k ≤ q) : yF xs q d k = xs := if_pos h
theorem yF_gt {xs : List Container} {q : Nat} {d : Container} {k : Nat} (h : q < k) : yF xs q d k = xs.set q d := if_neg (by omega)
theorem mF_le {q : Nat} {m : Piece} {k : Nat} (h : k ≤ q) : mF q m k = zeroP := if_pos h
theorem mF_gt {q : Nat} {m : Piece} {k : Nat} (h : q < k) : mF q m k = m := if_neg (by omega)
theorem yF_len (xs : List Container) (q : Nat) (d : Container) (k : Nat) : (yF xs q d k).length = xs.length := by unfold yF; split <;> simp
theorem yF_num {xs : List Container} {q : Nat} {c d : Container} {k : Nat} (hq : xs[q]? = some c) (hn : d.number = c.number) (hk : k < xs.length) {ck : Container} (h : (yF xs q d k)[k]? = some ck) : ck.number = (xs[k]'hk).number := by
  unfold yF at h
  split at h
  · obtain ⟨_, rfl⟩ := List.getElem?_eq_some_iff.1 h; rfl
  · rw [List.getElem?_set_ne (by omega)] at h
    obtain ⟨_, rfl⟩ := List.getElem?_eq_some_iff.1 h; rfl
theorem set_av {xs : List Container} {q : Nat} {c d : Container} : (xs.map Container.av).set q (splice c.av 0 d.av) = (xs.set q d).map Container.av := by
  rw [List.map_set]; rfl
set_option maxHeartbeats 8000000 in
theorem C9 {l : List Int} : Fn Try.prog 9 [] [.ro (l.map iv)] [.v (.bool true)] [] := by
  obtain ⟨k0, xs, hC21, hinv, hcl⟩ := conts21 (l.take 2000) 0 6 12 (by simp; omega) (by omega) (by omega)
  have hg := hinv.good
  have hlen := hinv.len
  refine Spec.body Try.func9 rfl Try.ntmps9 (by simp) rfl ?_; intro S0 own0 v0 w0
  (refine AW.seq_k ?_; intro K hK)
  refine AW.region ?_
  refine awP (op_assign rfl rfl) ?_; (try simp only [evS, lcS, nzR, nzA, nzL, Nat.reduceBEq, Nat.reduceEqDiff, ↓reduceIte, Nat.reduceAdd, Nat.reduceSub])
  refine AWL.nil ?_
  (refine hK _ ?_; clear hK K; (try simp only [evS, lcS, nzR, nzA, nzL, Nat.reduceBEq, Nat.reduceEqDiff, ↓reduceIte, Nat.reduceAdd, Nat.reduceSub]))
  (refine AW.seq_k ?_; intro K hK)
  refine AW.region ?_
  refine awP (op_move rfl rfl) ?_; (try simp only [evS, lcS, nzR, nzA, nzL, Nat.reduceBEq, Nat.reduceEqDiff, ↓reduceIte, Nat.reduceAdd, Nat.reduceSub])
  refine awJ (op_callB rfl en10 (C10) (RL.cons (by first | exact View.same rfl | exact View.nil | exact View.rof | exact View.src .ro | exact View.src .rof | exact View.src (.sl rfl rfl) | exact View.ptr rfl rfl rfl) (RL.nil))) ?_; (try simp only [evS, lcS, nzR, nzA, nzL, Nat.reduceBEq, Nat.reduceEqDiff, ↓reduceIte, Nat.reduceAdd, Nat.reduceSub])
  refine awP (op_assign rfl rfl) ?_; (try simp only [evS, lcS, nzR, nzA, nzL, Nat.reduceBEq, Nat.reduceEqDiff, ↓reduceIte, Nat.reduceAdd, Nat.reduceSub])
  refine AWL.nil ?_
  (refine hK _ ?_; clear hK K; (try simp only [evS, lcS, nzR, nzA, nzL, Nat.reduceBEq, Nat.reduceEqDiff, ↓reduceIte, Nat.reduceAdd, Nat.reduceSub]))
  (refine AW.seq_k ?_; intro K hK)
  refine AW.region ?_
  refine awP (op_move rfl rfl) ?_; (try simp only [evS, lcS, nzR, nzA, nzL, Nat.reduceBEq, Nat.reduceEqDiff, ↓reduceIte, Nat.reduceAdd, Nat.reduceSub])
  refine awJ (op_call1 rfl en21 (hC21) (by exact rfl) (RL.cons .ptr (RL.cons (.base (by first | exact View.same rfl | exact View.nil | exact View.rof | exact View.src .ro | exact View.src .rof | exact View.src (.sl rfl rfl) | exact View.ptr rfl rfl rfl)) (RL.cons (.base (by first | exact View.same rfl | exact View.nil | exact View.rof | exact View.src .ro | exact View.src .rof | exact View.src (.sl rfl rfl) | exact View.ptr rfl rfl rfl)) (RL.nil)))) (by exact ⟨_, _, _, rfl, rfl, rfl⟩) (by exact rfl) (by exact rfl) (by exact rfl)) ?_; (try simp only [evS, lcS, nzR, nzA, nzL, Nat.reduceBEq, Nat.reduceEqDiff, ↓reduceIte, Nat.reduceAdd, Nat.reduceSub]); refine AWL.gh (Gh.freezeN 26 (Nat.le_of_ble_eq_true rfl) rfl rfl (by simpa using flat2_cons xs []) (es' := xs.map Container.av) (by rw [List.take_of_length_le (by simp)]; simpa using fz_cons xs [])) ?_; (try simp only [evS, lcS, nzR, nzA, nzL, Nat.reduceBEq, Nat.reduceEqDiff, ↓reduceIte, Nat.reduceAdd, Nat.reduceSub])
  refine awP (op_assign rfl rfl) ?_; (try simp only [evS, lcS, nzR, nzA, nzL, Nat.reduceBEq, Nat.reduceEqDiff, ↓reduceIte, Nat.reduceAdd, Nat.reduceSub])
  refine AWL.nil ?_
  (refine hK _ ?_; clear hK K; (try simp only [evS, lcS, nzR, nzA, nzL, Nat.reduceBEq, Nat.reduceEqDiff, ↓reduceIte, Nat.reduceAdd, Nat.reduceSub]))
  (refine AW.seq_k ?_; intro K hK)
  (refine AW.seq_k ?_; intro K hK)
  refine AW.region ?_
  refine awP (op_move rfl rfl) ?_; (try simp only [evS, lcS, nzR, nzA, nzL, Nat.reduceBEq, Nat.reduceEqDiff, ↓reduceIte, Nat.reduceAdd, Nat.reduceSub])
  refine awJ (OpQ.j (op_callQ (b := true) rfl en33 (C33 (xs := xs) (by omega)) (RL.cons (by first | exact View.same rfl | exact View.nil | exact View.rof | exact View.src .ro | exact View.src .rof | exact View.src (.sl rfl rfl) | exact View.ptr rfl rfl rfl) (RL.nil)) rfl)) ?_; (try simp only [evS, lcS, nzR, nzA, nzL, Nat.reduceBEq, Nat.reduceEqDiff, ↓reduceIte, Nat.reduceAdd, Nat.reduceSub])
  (first | refine awP (op_neq rfl rfl rfl) ?_ | refine awP (op_sneq rfl rfl rfl) ?_); (try simp only [evS, lcS, nzR, nzA, nzL, Nat.reduceBEq, Nat.reduceEqDiff, ↓reduceIte, Nat.reduceAdd, Nat.reduceSub])
  refine AWL.nil ?_
  (refine hK _ ?_; clear hK K; (try simp only [evS, lcS, nzR, nzA, nzL, Nat.reduceBEq, Nat.reduceEqDiff, ↓reduceIte, Nat.reduceAdd, Nat.reduceSub]))
  refine AW.cond rfl rfl rfl (fun hc => ?_) (fun hc => ?_)   -- cond 1
  · -- true
    (try simp only [Bool.and_eq_true, Bool.or_eq_true, Bool.or_eq_false_iff, Bool.and_eq_false_iff, decide_eq_true_eq, decide_eq_false_iff_not, Int.not_le, Int.not_lt, ge_iff_le, gt_iff_lt, Bool.not_eq_true', Bool.not_eq_false', bne_iff_ne, beq_iff_eq, bne_eq_false_iff_eq, beq_eq_false_iff_ne, ne_eq] at hc); have hc1 := hc; skip
    (refine AW.seq_k ?_; intro K hK)
    refine AW.region ?_
    refine awP (op_assign rfl rfl) ?_; (try simp only [evS, lcS, nzR, nzA, nzL, Nat.reduceBEq, Nat.reduceEqDiff, ↓reduceIte, Nat.reduceAdd, Nat.reduceSub])
    refine AWL.nil ?_
    (refine hK _ ?_; clear hK K; (try simp only [evS, lcS, nzR, nzA, nzL, Nat.reduceBEq, Nat.reduceEqDiff, ↓reduceIte, Nat.reduceAdd, Nat.reduceSub]))
    skip
    refine AW.ret ?_; (try simp only [thenE, inBlk, Nat.reduceEqDiff, ↓reduceIte]); exact absurd (hg.chk (by omega)) hc
  · -- false
    (try simp only [Bool.and_eq_true, Bool.or_eq_true, Bool.or_eq_false_iff, Bool.and_eq_false_iff, decide_eq_true_eq, decide_eq_false_iff_not, Int.not_le, Int.not_lt, ge_iff_le, gt_iff_lt, Bool.not_eq_true', Bool.not_eq_false', bne_iff_ne, beq_iff_eq, bne_eq_false_iff_eq, beq_eq_false_iff_ne, ne_eq] at hc); have hc1 := hc; skip
    refine AW.skip ?_
    (refine hK _ ?_; clear hK K; (try simp only [evS, lcS, nzR, nzA, nzL, Nat.reduceBEq, Nat.reduceEqDiff, ↓reduceIte, Nat.reduceAdd, Nat.reduceSub]))
    (refine AW.seq_k ?_; intro K hK)
    (refine AW.seq_k ?_; intro K hK)
    refine AW.region ?_
    refine awP (op_assign rfl rfl) ?_; (try simp only [evS, lcS, nzR, nzA, nzL, Nat.reduceBEq, Nat.reduceEqDiff, ↓reduceIte, Nat.reduceAdd, Nat.reduceSub])
    refine AWL.nil ?_
    (refine hK _ ?_; clear hK K; (try simp only [evS, lcS, nzR, nzA, nzL, Nat.reduceBEq, Nat.reduceEqDiff, ↓reduceIte, Nat.reduceAdd, Nat.reduceSub]))
    refine AW.block ?_   -- block 0
    refine AW.gh (Gh.drop 1) ?_; (try simp only [evS, lcS, nzR, nzA, nzL, Nat.reduceBEq, Nat.reduceEqDiff, ↓reduceIte, Nat.reduceAdd, Nat.reduceSub]); refine AW.loopI (fun (q : Nat × Nat × Nat) => [(3, .ptr 0 1 0 0), (4, .ro (xs.map Container.av)), (5, .v (.int .i64 (q.1 : Nat)))]) (fun q => ⟨[(1, .own 64 [srcRow (l.take 2000) q.2.1])], q.2.2⟩) (fun q => q.1 ≤ 12) (fun q => 12 - q.1) (0, k0, _) (by simp) ⟨rfl, rfl, rfl, trivial⟩ rfl ?_; rintro ⟨i, k, e⟩ ρ hi; simp only at hi; simp only [updL]; (try simp only [evS, lcS, nzR, nzA, nzL, Nat.reduceBEq, Nat.reduceEqDiff, ↓reduceIte, Nat.reduceAdd, Nat.reduceSub])
    (refine AW.seq_k ?_; intro K hK)
    (refine AW.seq_k ?_; intro K hK)
    refine AW.region ?_
    refine awP (op_move rfl rfl) ?_; (try simp only [evS, lcS, nzR, nzA, nzL, Nat.reduceBEq, Nat.reduceEqDiff, ↓reduceIte, Nat.reduceAdd, Nat.reduceSub])
    refine awP (op_lss rfl rfl rfl) ?_; (try simp only [evS, lcS, nzR, nzA, nzL, Nat.reduceBEq, Nat.reduceEqDiff, ↓reduceIte, Nat.reduceAdd, Nat.reduceSub])
    refine AWL.nil ?_
    (refine hK _ ?_; clear hK K; (try simp only [evS, lcS, nzR, nzA, nzL, Nat.reduceBEq, Nat.reduceEqDiff, ↓reduceIte, Nat.reduceAdd, Nat.reduceSub]))
    refine AW.cond rfl rfl rfl (fun hc => ?_) (fun hc => ?_)   -- cond 2
    · -- true
      (try simp only [Bool.and_eq_true, Bool.or_eq_true, Bool.or_eq_false_iff, Bool.and_eq_false_iff, decide_eq_true_eq, decide_eq_false_iff_not, Int.not_le, Int.not_lt, ge_iff_le, gt_iff_lt, Bool.not_eq_true', Bool.not_eq_false', bne_iff_ne, beq_iff_eq, bne_eq_false_iff_eq, beq_eq_false_iff_ne, ne_eq] at hc); have hc2 := hc; have hi12 : i < 12 := (by omega); obtain ⟨p, hpl⟩ : ∃ p, p = platesP ((i : Nat) : Int) := ⟨_, rfl⟩
      refine AW.skip ?_
      (refine hK _ ?_; clear hK K; (try simp only [evS, lcS, nzR, nzA, nzL, Nat.reduceBEq, Nat.reduceEqDiff, ↓reduceIte, Nat.reduceAdd, Nat.reduceSub]))
      (refine AW.seq_k ?_; intro K hK)
      refine AW.block ?_   -- block 1
      (refine AW.seq_k ?_; intro K hK)
      refine AW.region ?_
      refine awP (op_move rfl rfl) ?_; (try simp only [evS, lcS, nzR, nzA, nzL, Nat.reduceBEq, Nat.reduceEqDiff, ↓reduceIte, Nat.reduceAdd, Nat.reduceSub])
      refine awJ (op_call (b := false) rfl en13 (C13p hpl) (RL.cons (by first | exact View.same rfl | exact View.nil | exact View.rof | exact View.src .ro | exact View.src .rof | exact View.src (.sl rfl rfl) | exact View.ptr rfl rfl rfl) (RL.nil)) rfl (fun h => by cases h) rfl rfl) ?_; (try simp only [evS, lcS, nzR, nzA, nzL, Nat.reduceBEq, Nat.reduceEqDiff, ↓reduceIte, Nat.reduceAdd, Nat.reduceSub])
      refine awJ (op_alloc rfl ze33 rfl) ?_; (try simp only [evS, lcS, nzR, nzA, nzL, Nat.reduceBEq, Nat.reduceEqDiff, ↓reduceIte, Nat.reduceAdd, Nat.reduceSub])
      refine awJ (op_store rfl rfl rfl rfl rfl rfl sz33 rfl (Nat.le_of_ble_eq_true rfl) rfl) ?_; (try simp only [evS, lcS, nzR, nzA, nzL, Nat.reduceBEq, Nat.reduceEqDiff, ↓reduceIte, Nat.reduceAdd, Nat.reduceSub])
      refine AWL.nil ?_
      (refine hK _ ?_; clear hK K; (try simp only [evS, lcS, nzR, nzA, nzL, Nat.reduceBEq, Nat.reduceEqDiff, ↓reduceIte, Nat.reduceAdd, Nat.reduceSub]))
      (refine AW.seq_k ?_; intro K hK)
      refine AW.region ?_
      refine awP (op_assign rfl rfl) ?_; (try simp only [evS, lcS, nzR, nzA, nzL, Nat.reduceBEq, Nat.reduceEqDiff, ↓reduceIte, Nat.reduceAdd, Nat.reduceSub])
      refine AWL.nil ?_
      (refine hK _ ?_; clear hK K; (try simp only [evS, lcS, nzR, nzA, nzL, Nat.reduceBEq, Nat.reduceEqDiff, ↓reduceIte, Nat.reduceAdd, Nat.reduceSub]))
      (refine AW.seq_k ?_; intro K hK)
      (refine AW.seq_k ?_; intro K hK)
      refine AW.region ?_
      refine awP (op_move rfl rfl) ?_; (try simp only [evS, lcS, nzR, nzA, nzL, Nat.reduceBEq, Nat.reduceEqDiff, ↓reduceIte, Nat.reduceAdd, Nat.reduceSub])
      (first | refine awP (op_len_ro rfl rfl Try.underlying48 (by first | exact .inr (.inl ⟨_, rfl, rfl⟩) | exact .inl rfl | exact .inr (.inr (.inl ⟨_, rfl, rfl⟩)) | exact .inr (.inr (.inr ⟨rfl, rfl⟩)))) ?_ | refine awP (op_len_sl rfl rfl rfl Try.underlying48) ?_ | refine awP (op_len_str rfl rfl Try.underlying48) ?_); (try simp only [evS, lcS, nzR, nzA, nzL, Nat.reduceBEq, Nat.reduceEqDiff, ↓reduceIte, Nat.reduceAdd, Nat.reduceSub])
      refine awP (op_move rfl rfl) ?_; (try simp only [evS, lcS, nzR, nzA, nzL, Nat.reduceBEq, Nat.reduceEqDiff, ↓reduceIte, Nat.reduceAdd, Nat.reduceSub])
      refine AWL.nil ?_
      (refine hK _ ?_; clear hK K; (try simp only [evS, lcS, nzR, nzA, nzL, Nat.reduceBEq, Nat.reduceEqDiff, ↓reduceIte, Nat.reduceAdd, Nat.reduceSub]))
      refine AW.block ?_   -- block 2
      refine AW.loopI (fun (j : Nat) => [(3, .ptr 0 1 0 0), (4, .ro (xs.map Container.av)), (5, .v (.int .i64 (i : Nat))), (6, .ptr 1 e 0 0), (7, .v (.int .i64 (cntL (xs.take j) p))), (37, .v (.int .i64 (xs.length : Nat))), (38, .v (.int .i64 (j : Nat)))]) (fun j => ⟨[(1, .own 64 [srcRow (l.take 2000) k]), (e, .own 33 [p.av])], e + 1⟩) (fun j => j ≤ xs.length) (fun j => xs.length - j) 0 (by simp) ⟨rfl, rfl, rfl, rfl, rfl, rfl, rfl, trivial⟩ rfl ?_; intro j ρ hj; simp only [updL]; (try simp only [evS, lcS, nzR, nzA, nzL, Nat.reduceBEq, Nat.reduceEqDiff, ↓reduceIte, Nat.reduceAdd, Nat.reduceSub]); have hcb := cnt_bd (xs.take j) p; have htl : ((xs.take j).length : Int) ≤ 100 := (by simp; omega)
      (refine AW.seq_k ?_; intro K hK)
      refine AW.region ?_
      refine awP (op_lss rfl rfl rfl) ?_; (try simp only [evS, lcS, nzR, nzA, nzL, Nat.reduceBEq, Nat.reduceEqDiff, ↓reduceIte, Nat.reduceAdd, Nat.reduceSub])
      refine AWL.nil ?_
      (refine hK _ ?_; clear hK K; (try simp only [evS, lcS, nzR, nzA, nzL, Nat.reduceBEq, Nat.reduceEqDiff, ↓reduceIte, Nat.reduceAdd, Nat.reduceSub]))
      (refine AW.seq_k ?_; intro K hK)
      refine AW.cond rfl rfl rfl (fun hc => ?_) (fun hc => ?_)   -- cond 3
      · -- true
        (try simp only [Bool.and_eq_true, Bool.or_eq_true, Bool.or_eq_false_iff, Bool.and_eq_false_iff, decide_eq_true_eq, decide_eq_false_iff_not, Int.not_le, Int.not_lt, ge_iff_le, gt_iff_lt, Bool.not_eq_true', Bool.not_eq_false', bne_iff_ne, beq_iff_eq, bne_eq_false_iff_eq, beq_eq_false_iff_ne, ne_eq] at hc); have hc3 := hc; have hjl : j < xs.length := (by simpa using hc3); obtain ⟨cj, hcj⟩ : ∃ c, xs[j]? = some c := ⟨xs[j], List.getElem?_eq_getElem hjl⟩; have hcjl := hlen cj (List.mem_of_getElem? hcj)
        refine AW.skip ?_
        (refine hK _ ?_; clear hK K; (try simp only [evS, lcS, nzR, nzA, nzL, Nat.reduceBEq, Nat.reduceEqDiff, ↓reduceIte, Nat.reduceAdd, Nat.reduceSub]))
        (refine AW.seq_k ?_; intro K hK)
        refine AW.block ?_   -- block 3
        (refine AW.seq_k ?_; intro K hK)
        refine AW.region ?_
        refine awP (op_move rfl rfl) ?_; (try simp only [evS, lcS, nzR, nzA, nzL, Nat.reduceBEq, Nat.reduceEqDiff, ↓reduceIte, Nat.reduceAdd, Nat.reduceSub])
        refine awP (op_assign rfl rfl) ?_; (try simp only [evS, lcS, nzR, nzA, nzL, Nat.reduceBEq, Nat.reduceEqDiff, ↓reduceIte, Nat.reduceAdd, Nat.reduceSub])
        refine AWL.nil ?_
        (refine hK _ ?_; clear hK K; (try simp only [evS, lcS, nzR, nzA, nzL, Nat.reduceBEq, Nat.reduceEqDiff, ↓reduceIte, Nat.reduceAdd, Nat.reduceSub]))
        (refine AW.seq_k ?_; intro K hK)
        refine AW.quiet mix (by kernel_rfl) ?_   -- DRAWS
        refine aqP (op_move rfl rfl) ?_; (try simp only [evS, lcS, nzR, nzA, nzL, Nat.reduceBEq, Nat.reduceEqDiff, ↓reduceIte, Nat.reduceAdd, Nat.reduceSub])
        refine aqP (op_move rfl rfl) ?_; (try simp only [evS, lcS, nzR, nzA, nzL, Nat.reduceBEq, Nat.reduceEqDiff, ↓reduceIte, Nat.reduceAdd, Nat.reduceSub])
        (first | refine aqP (op_ia_ro j rfl (.inl rfl) rfl Try.underlying48 rfl (get_of hcj) (by exact sz29) (Nat.le_of_ble_eq_true rfl)) ?_ | refine aqP (op_ia_sl _ _ rfl rfl rfl rfl Try.underlying48 rfl (by omega) (by exact sz29) rfl) ?_); (try simp only [evS, lcS, nzR, nzA, nzL, Nat.reduceBEq, Nat.reduceEqDiff, ↓reduceIte, Nat.reduceAdd, Nat.reduceSub])
        (first | refine aqR (op_load_ptr rfl rfl rfl rfl ag29 sz29 (Nat.le_of_ble_eq_true rfl) rfl) ?_ | refine aqR (op_load_rop rfl rfl ag29 sz29 (Nat.le_of_ble_eq_true rfl) (by decide) rfl) ?_); (try simp only [evS, lcS, nzR, nzA, nzL, Nat.reduceBEq, Nat.reduceEqDiff, ↓reduceIte, Nat.reduceAdd, Nat.reduceSub])
        (first | refine aqR (op_load_ptr rfl rfl rfl rfl ag33 sz33 (Nat.le_of_ble_eq_true rfl) rfl) ?_ | refine aqR (op_load_rop rfl rfl ag33 sz33 (Nat.le_of_ble_eq_true rfl) (by decide) rfl) ?_); (try simp only [evS, lcS, nzR, nzA, nzL, Nat.reduceBEq, Nat.reduceEqDiff, ↓reduceIte, Nat.reduceAdd, Nat.reduceSub])
        refine aqQ (op_callQ (b := true) rfl en29 (C29 (c := cj) (p := p) (by omega)) (RL.cons (by first | exact View.same rfl | exact View.nil | exact View.rof | exact View.src .ro | exact View.src .rof | exact View.src (.sl rfl rfl) | exact View.ptr rfl rfl rfl) (RL.cons (by first | exact View.same rfl | exact View.nil | exact View.rof | exact View.src .ro | exact View.src .rof | exact View.src (.sl rfl rfl) | exact View.ptr rfl rfl rfl) (RL.nil))) rfl) ?_; (try simp only [evS, lcS, nzR, nzA, nzL, Nat.reduceBEq, Nat.reduceEqDiff, ↓reduceIte, Nat.reduceAdd, Nat.reduceSub])
        refine AQ.nil ?_
        (refine hK _ ?_; clear hK K; (try simp only [evS, lcS, nzR, nzA, nzL, Nat.reduceBEq, Nat.reduceEqDiff, ↓reduceIte, Nat.reduceAdd, Nat.reduceSub]))
        refine AW.cond rfl rfl rfl (fun hc => ?_) (fun hc => ?_)   -- cond 4
        · -- true
          (try simp only [Bool.and_eq_true, Bool.or_eq_true, Bool.or_eq_false_iff, Bool.and_eq_false_iff, decide_eq_true_eq, decide_eq_false_iff_not, Int.not_le, Int.not_lt, ge_iff_le, gt_iff_lt, Bool.not_eq_true', Bool.not_eq_false', bne_iff_ne, beq_iff_eq, bne_eq_false_iff_eq, beq_eq_false_iff_ne, ne_eq] at hc); have hc4 := hc; skip
          refine AW.region ?_
          refine awP (op_move rfl rfl) ?_; (try simp only [evS, lcS, nzR, nzA, nzL, Nat.reduceBEq, Nat.reduceEqDiff, ↓reduceIte, Nat.reduceAdd, Nat.reduceSub])
          (first | refine awP (op_addi rfl rfl rfl (by omega)) ?_ | refine awP (op_add rfl rfl rfl rfl) ?_); (try simp only [evS, lcS, nzR, nzA, nzL, Nat.reduceBEq, Nat.reduceEqDiff, ↓reduceIte, Nat.reduceAdd, Nat.reduceSub])
          refine awP (op_assign rfl rfl) ?_; (try simp only [evS, lcS, nzR, nzA, nzL, Nat.reduceBEq, Nat.reduceEqDiff, ↓reduceIte, Nat.reduceAdd, Nat.reduceSub])
          refine AWL.nil ?_
          (try simp only [thenE, inBlk, Nat.reduceEqDiff, ↓reduceIte])
          (refine hK _ ?_; clear hK K; (try simp only [evS, lcS, nzR, nzA, nzL, Nat.reduceBEq, Nat.reduceEqDiff, ↓reduceIte, Nat.reduceAdd, Nat.reduceSub]))
          refine AW.region ?_
          (first | refine awP (op_addi rfl rfl rfl (by omega)) ?_ | refine awP (op_add rfl rfl rfl rfl) ?_); (try simp only [evS, lcS, nzR, nzA, nzL, Nat.reduceBEq, Nat.reduceEqDiff, ↓reduceIte, Nat.reduceAdd, Nat.reduceSub])
          refine awP (op_move rfl rfl) ?_; (try simp only [evS, lcS, nzR, nzA, nzL, Nat.reduceBEq, Nat.reduceEqDiff, ↓reduceIte, Nat.reduceAdd, Nat.reduceSub])
          skip
          refine AWL.nil ?_
          refine ⟨j + 1, by omega, by omega, ⟨rfl, rfl, rfl, rfl, (by rw [cnt_step hcj, if_pos hc4]; rfl), rfl, rfl, trivial⟩, (by first | rfl | trivial), (by first | rfl | trivial)⟩
        · -- false
          (try simp only [Bool.and_eq_true, Bool.or_eq_true, Bool.or_eq_false_iff, Bool.and_eq_false_iff, decide_eq_true_eq, decide_eq_false_iff_not, Int.not_le, Int.not_lt, ge_iff_le, gt_iff_lt, Bool.not_eq_true', Bool.not_eq_false', bne_iff_ne, beq_iff_eq, bne_eq_false_iff_eq, beq_eq_false_iff_ne, ne_eq] at hc); have hc4 := hc; skip
          refine AW.skip ?_
          (try simp only [thenE, inBlk, Nat.reduceEqDiff, ↓reduceIte])
          (refine hK _ ?_; clear hK K; (try simp only [evS, lcS, nzR, nzA, nzL, Nat.reduceBEq, Nat.reduceEqDiff, ↓reduceIte, Nat.reduceAdd, Nat.reduceSub]))
          refine AW.region ?_
          (first | refine awP (op_addi rfl rfl rfl (by omega)) ?_ | refine awP (op_add rfl rfl rfl rfl) ?_); (try simp only [evS, lcS, nzR, nzA, nzL, Nat.reduceBEq, Nat.reduceEqDiff, ↓reduceIte, Nat.reduceAdd, Nat.reduceSub])
          refine awP (op_move rfl rfl) ?_; (try simp only [evS, lcS, nzR, nzA, nzL, Nat.reduceBEq, Nat.reduceEqDiff, ↓reduceIte, Nat.reduceAdd, Nat.reduceSub])
          skip
          refine AWL.nil ?_
          refine ⟨j + 1, by omega, by omega, ⟨rfl, rfl, rfl, rfl, (by rw [cnt_step hcj, if_neg (by simp [hc4]), Int.add_zero]; rfl), rfl, rfl, trivial⟩, (by first | rfl | trivial), (by first | rfl | trivial)⟩
      · -- false
        (try simp only [Bool.and_eq_true, Bool.or_eq_true, Bool.or_eq_false_iff, Bool.and_eq_false_iff, decide_eq_true_eq, decide_eq_false_iff_not, Int.not_le, Int.not_lt, ge_iff_le, gt_iff_lt, Bool.not_eq_true', Bool.not_eq_false', bne_iff_ne, beq_iff_eq, bne_eq_false_iff_eq, beq_eq_false_iff_ne, ne_eq] at hc); have hc3 := hc; obtain rfl : j = xs.length := (by omega); simp only [List.take_length]; have hfind := hg.find p
        refine AW.exit ?_; (try simp only [thenE, inBlk, Nat.reduceEqDiff, ↓reduceIte])   -- to 2
        clear hK K
        (refine hK _ ?_; clear hK K; (try simp only [evS, lcS, nzR, nzA, nzL, Nat.reduceBEq, Nat.reduceEqDiff, ↓reduceIte, Nat.reduceAdd, Nat.reduceSub]))
        (refine AW.seq_k ?_; intro K hK)
        refine AW.region ?_
        refine awP (op_move rfl rfl) ?_; (try simp only [evS, lcS, nzR, nzA, nzL, Nat.reduceBEq, Nat.reduceEqDiff, ↓reduceIte, Nat.reduceAdd, Nat.reduceSub])
        (first | refine awR (op_load_ptr rfl rfl rfl rfl ag33 sz33 (Nat.le_of_ble_eq_true rfl) rfl) ?_ | refine awR (op_load_rop rfl rfl ag33 sz33 (Nat.le_of_ble_eq_true rfl) (by decide) rfl) ?_); (try simp only [evS, lcS, nzR, nzA, nzL, Nat.reduceBEq, Nat.reduceEqDiff, ↓reduceIte, Nat.reduceAdd, Nat.reduceSub])
        refine awJ (op_call (b := false) rfl en36 (C36 (xs := xs) (p := p) (by omega) (fun c hc => by have := hlen c hc; omega)) (RL.cons (by first | exact View.same rfl | exact View.nil | exact View.rof | exact View.src .ro | exact View.src .rof | exact View.src (.sl rfl rfl) | exact View.ptr rfl rfl rfl) (RL.cons (by first | exact View.same rfl | exact View.nil | exact View.rof | exact View.src .ro | exact View.src .rof | exact View.src (.sl rfl rfl) | exact View.ptr rfl rfl rfl) (RL.nil))) rfl (fun h => by cases h) rfl rfl) ?_; (try simp only [evS, lcS, nzR, nzA, nzL, Nat.reduceBEq, Nat.reduceEqDiff, ↓reduceIte, Nat.reduceAdd, Nat.reduceSub])
        refine awP (op_move rfl rfl) ?_; (try simp only [evS, lcS, nzR, nzA, nzL, Nat.reduceBEq, Nat.reduceEqDiff, ↓reduceIte, Nat.reduceAdd, Nat.reduceSub])
        refine awP (op_extract rfl rfl rfl) ?_; (try simp only [evS, lcS, nzR, nzA, nzL, Nat.reduceBEq, Nat.reduceEqDiff, ↓reduceIte, Nat.reduceAdd, Nat.reduceSub])
        refine awP (op_extract rfl rfl rfl) ?_; (try simp only [evS, lcS, nzR, nzA, nzL, Nat.reduceBEq, Nat.reduceEqDiff, ↓reduceIte, Nat.reduceAdd, Nat.reduceSub])
        refine awP (op_assign rfl rfl) ?_; (try simp only [evS, lcS, nzR, nzA, nzL, Nat.reduceBEq, Nat.reduceEqDiff, ↓reduceIte, Nat.reduceAdd, Nat.reduceSub])
        refine awP (op_assign rfl rfl) ?_; (try simp only [evS, lcS, nzR, nzA, nzL, Nat.reduceBEq, Nat.reduceEqDiff, ↓reduceIte, Nat.reduceAdd, Nat.reduceSub])
        refine AWL.nil ?_
        (refine hK _ ?_; clear hK K; (try simp only [evS, lcS, nzR, nzA, nzL, Nat.reduceBEq, Nat.reduceEqDiff, ↓reduceIte, Nat.reduceAdd, Nat.reduceSub]))
        (refine AW.seq_k ?_; intro K hK)
        (refine AW.seq_k ?_; intro K hK)
        refine AW.region (AWL.quiet ?_)
        refine aqP (op_move rfl rfl) ?_; (try simp only [evS, lcS, nzR, nzA, nzL, Nat.reduceBEq, Nat.reduceEqDiff, ↓reduceIte, Nat.reduceAdd, Nat.reduceSub])
        refine aqP (op_gtr rfl rfl rfl) ?_; (try simp only [evS, lcS, nzR, nzA, nzL, Nat.reduceBEq, Nat.reduceEqDiff, ↓reduceIte, Nat.reduceAdd, Nat.reduceSub])
        refine aqP (op_move rfl rfl) ?_; (try simp only [evS, lcS, nzR, nzA, nzL, Nat.reduceBEq, Nat.reduceEqDiff, ↓reduceIte, Nat.reduceAdd, Nat.reduceSub])
        refine' aqOr' [_, _, _, _] [59,60,61,62] rfl rfl rfl rfl rfl rfl rfl rfl rfl rfl rfl rfl (fun hb => ?_) ?_; rotate_left
        · -- segment
          (try simp only [Bool.and_eq_true, Bool.or_eq_true, Bool.or_eq_false_iff, Bool.and_eq_false_iff, decide_eq_true_eq, decide_eq_false_iff_not, Int.not_le, Int.not_lt, ge_iff_le, gt_iff_lt, Bool.not_eq_true', Bool.not_eq_false', bne_iff_ne, beq_iff_eq, bne_eq_false_iff_eq, beq_eq_false_iff_ne, ne_eq] at hb)
          refine aqP (op_move rfl rfl) ?_; (try simp only [evS, lcS, nzR, nzA, nzL, Nat.reduceBEq, Nat.reduceEqDiff, ↓reduceIte, Nat.reduceAdd, Nat.reduceSub])
          refine aqP (op_move rfl rfl) ?_; (try simp only [evS, lcS, nzR, nzA, nzL, Nat.reduceBEq, Nat.reduceEqDiff, ↓reduceIte, Nat.reduceAdd, Nat.reduceSub])
          (first | refine aqP (op_eql rfl rfl rfl) ?_ | refine aqP (op_seql rfl rfl rfl) ?_); (try simp only [evS, lcS, nzR, nzA, nzL, Nat.reduceBEq, Nat.reduceEqDiff, ↓reduceIte, Nat.reduceAdd, Nat.reduceSub])
          (first | refine aqP (op_neq rfl rfl rfl) ?_ | refine aqP (op_sneq rfl rfl rfl) ?_ | refine aqP (op_bneq rfl rfl rfl Try.underlying4) ?_); (try simp only [evS, lcS, nzR, nzA, nzL, Nat.reduceBEq, Nat.reduceEqDiff, ↓reduceIte, Nat.reduceAdd, Nat.reduceSub])
          (refine aqSeg rfl rfl rfl ?_; repeat (first | exact fun _ _ => rfl | refine upd_out rfl ?_ | refine era_out rfl ?_))
        (try simp only [evS, lcS, nzR, nzA, nzL, Nat.reduceBEq, Nat.reduceEqDiff, ↓reduceIte, Nat.reduceAdd, Nat.reduceSub])
        refine aqP (op_move rfl rfl) ?_; (try simp only [evS, lcS, nzR, nzA, nzL, Nat.reduceBEq, Nat.reduceEqDiff, ↓reduceIte, Nat.reduceAdd, Nat.reduceSub])
        refine' aqOrN' [_, _, _, _, _, _] [65,66,67,68,69,70] rfl rfl rfl rfl rfl rfl rfl rfl rfl rfl rfl rfl (fun hb => ?_) ?_; rotate_left
        · -- segment
          (try simp only [Bool.and_eq_true, Bool.or_eq_true, Bool.or_eq_false_iff, Bool.and_eq_false_iff, decide_eq_true_eq, decide_eq_false_iff_not, Int.not_le, Int.not_lt, ge_iff_le, gt_iff_lt, Bool.not_eq_true', Bool.not_eq_false', bne_iff_ne, beq_iff_eq, bne_eq_false_iff_eq, beq_eq_false_iff_ne, ne_eq] at hb)
          refine aqP (op_move rfl rfl) ?_; (try simp only [evS, lcS, nzR, nzA, nzL, Nat.reduceBEq, Nat.reduceEqDiff, ↓reduceIte, Nat.reduceAdd, Nat.reduceSub])
          refine aqP (op_not rfl rfl rfl) ?_; (try simp only [evS, lcS, nzR, nzA, nzL, Nat.reduceBEq, Nat.reduceEqDiff, ↓reduceIte, Nat.reduceAdd, Nat.reduceSub])
          refine aqP (op_move rfl rfl) ?_; (try simp only [evS, lcS, nzR, nzA, nzL, Nat.reduceBEq, Nat.reduceEqDiff, ↓reduceIte, Nat.reduceAdd, Nat.reduceSub])
          refine' aqAnd' [_, _] [68,69] rfl rfl rfl rfl rfl rfl rfl rfl rfl rfl rfl rfl (fun hb => ?_) ?_; rotate_left
          · -- segment
            (try simp only [Bool.and_eq_true, Bool.or_eq_true, Bool.or_eq_false_iff, Bool.and_eq_false_iff, decide_eq_true_eq, decide_eq_false_iff_not, Int.not_le, Int.not_lt, ge_iff_le, gt_iff_lt, Bool.not_eq_true', Bool.not_eq_false', bne_iff_ne, beq_iff_eq, bne_eq_false_iff_eq, beq_eq_false_iff_ne, ne_eq] at hb)
            refine aqP (op_move rfl rfl) ?_; (try simp only [evS, lcS, nzR, nzA, nzL, Nat.reduceBEq, Nat.reduceEqDiff, ↓reduceIte, Nat.reduceAdd, Nat.reduceSub])
            (first | refine aqP (op_neq rfl rfl rfl) ?_ | refine aqP (op_sneq rfl rfl rfl) ?_); (try simp only [evS, lcS, nzR, nzA, nzL, Nat.reduceBEq, Nat.reduceEqDiff, ↓reduceIte, Nat.reduceAdd, Nat.reduceSub])
            (refine aqSeg rfl rfl rfl ?_; repeat (first | exact fun _ _ => rfl | refine upd_out rfl ?_ | refine era_out rfl ?_))
          (try simp only [evS, lcS, nzR, nzA, nzL, Nat.reduceBEq, Nat.reduceEqDiff, ↓reduceIte, Nat.reduceAdd, Nat.reduceSub])
          (refine aqSeg rfl rfl rfl ?_; repeat (first | exact fun _ _ => rfl | refine upd_out rfl ?_ | refine era_out rfl ?_))
        (try simp only [evS, lcS, nzR, nzA, nzL, Nat.reduceBEq, Nat.reduceEqDiff, ↓reduceIte, Nat.reduceAdd, Nat.reduceSub])
        refine AQ.nil ?_
        (refine hK _ ?_; clear hK K; (try simp only [evS, lcS, nzR, nzA, nzL, Nat.reduceBEq, Nat.reduceEqDiff, ↓reduceIte, Nat.reduceAdd, Nat.reduceSub]))
        refine AW.cond rfl rfl rfl (fun hc => ?_) (fun hc => ?_)   -- cond 5
        · -- true
          (try simp only [Bool.and_eq_true, Bool.or_eq_true, Bool.or_eq_false_iff, Bool.and_eq_false_iff, decide_eq_true_eq, decide_eq_false_iff_not, Int.not_le, Int.not_lt, ge_iff_le, gt_iff_lt, Bool.not_eq_true', Bool.not_eq_false', bne_iff_ne, beq_iff_eq, bne_eq_false_iff_eq, beq_eq_false_iff_ne, ne_eq] at hc); have hc5 := hc; skip
          (refine AW.seq_k ?_; intro K hK)
          refine AW.region ?_
          refine awP (op_assign rfl rfl) ?_; (try simp only [evS, lcS, nzR, nzA, nzL, Nat.reduceBEq, Nat.reduceEqDiff, ↓reduceIte, Nat.reduceAdd, Nat.reduceSub])
          refine AWL.nil ?_
          (refine hK _ ?_; clear hK K; (try simp only [evS, lcS, nzR, nzA, nzL, Nat.reduceBEq, Nat.reduceEqDiff, ↓reduceIte, Nat.reduceAdd, Nat.reduceSub]))
          skip
          refine AW.ret ?_; (try simp only [thenE, inBlk, Nat.reduceEqDiff, ↓reduceIte]); exfalso; rcases hfind with ⟨h1, h2⟩ | ⟨q, c, h1, h2, h3, h4⟩; (simp [h1, h2] at hc); (simp [h3, h4] at hc)
        · -- false
          (try simp only [Bool.and_eq_true, Bool.or_eq_true, Bool.or_eq_false_iff, Bool.and_eq_false_iff, decide_eq_true_eq, decide_eq_false_iff_not, Int.not_le, Int.not_lt, ge_iff_le, gt_iff_lt, Bool.not_eq_true', Bool.not_eq_false', bne_iff_ne, beq_iff_eq, bne_eq_false_iff_eq, beq_eq_false_iff_ne, ne_eq] at hc); have hc5 := hc; skip
          refine AW.skip ?_
          (refine hK _ ?_; clear hK K; (try simp only [evS, lcS, nzR, nzA, nzL, Nat.reduceBEq, Nat.reduceEqDiff, ↓reduceIte, Nat.reduceAdd, Nat.reduceSub]))
          (refine AW.seq_k ?_; intro K hK)
          (refine AW.seq_k ?_; intro K hK)
          refine AW.region ?_
          refine awP (op_move rfl rfl) ?_; (try simp only [evS, lcS, nzR, nzA, nzL, Nat.reduceBEq, Nat.reduceEqDiff, ↓reduceIte, Nat.reduceAdd, Nat.reduceSub])
          refine awP (op_not rfl rfl rfl) ?_; (try simp only [evS, lcS, nzR, nzA, nzL, Nat.reduceBEq, Nat.reduceEqDiff, ↓reduceIte, Nat.reduceAdd, Nat.reduceSub])
          refine AWL.nil ?_
          (refine hK _ ?_; clear hK K; (try simp only [evS, lcS, nzR, nzA, nzL, Nat.reduceBEq, Nat.reduceEqDiff, ↓reduceIte, Nat.reduceAdd, Nat.reduceSub]))
          refine AW.cond rfl rfl rfl (fun hc => ?_) (fun hc => ?_)   -- cond 6
          · -- true
            (try simp only [Bool.and_eq_true, Bool.or_eq_true, Bool.or_eq_false_iff, Bool.and_eq_false_iff, decide_eq_true_eq, decide_eq_false_iff_not, Int.not_le, Int.not_lt, ge_iff_le, gt_iff_lt, Bool.not_eq_true', Bool.not_eq_false', bne_iff_ne, beq_iff_eq, bne_eq_false_iff_eq, beq_eq_false_iff_ne, ne_eq] at hc); have hc6 := hc; skip
            refine AW.exit ?_; (try simp only [thenE, inBlk, Nat.reduceEqDiff, ↓reduceIte])   -- to 1
            clear hK K
            (refine hK _ ?_; clear hK K; (try simp only [evS, lcS, nzR, nzA, nzL, Nat.reduceBEq, Nat.reduceEqDiff, ↓reduceIte, Nat.reduceAdd, Nat.reduceSub]))
            refine AW.region ?_
            refine awP (op_move rfl rfl) ?_; (try simp only [evS, lcS, nzR, nzA, nzL, Nat.reduceBEq, Nat.reduceEqDiff, ↓reduceIte, Nat.reduceAdd, Nat.reduceSub])
            (first | refine awP (op_addi rfl rfl rfl (by omega)) ?_ | refine awP (op_add rfl rfl rfl rfl) ?_); (try simp only [evS, lcS, nzR, nzA, nzL, Nat.reduceBEq, Nat.reduceEqDiff, ↓reduceIte, Nat.reduceAdd, Nat.reduceSub])
            refine awP (op_assign rfl rfl) ?_; (try simp only [evS, lcS, nzR, nzA, nzL, Nat.reduceBEq, Nat.reduceEqDiff, ↓reduceIte, Nat.reduceAdd, Nat.reduceSub])
            refine AWL.gh (Gh.drop 1) ?_; (try simp only [evS, lcS, nzR, nzA, nzL, Nat.reduceBEq, Nat.reduceEqDiff, ↓reduceIte, Nat.reduceAdd, Nat.reduceSub])
            refine AWL.nil ?_
            refine ⟨(i + 1, k, _), by dsimp only; omega, by dsimp only; omega, ⟨rfl, rfl, rfl, trivial⟩, (by first | rfl | trivial), (by first | rfl | trivial)⟩
          · -- false
            (try simp only [Bool.and_eq_true, Bool.or_eq_true, Bool.or_eq_false_iff, Bool.and_eq_false_iff, decide_eq_true_eq, decide_eq_false_iff_not, Int.not_le, Int.not_lt, ge_iff_le, gt_iff_lt, Bool.not_eq_true', Bool.not_eq_false', bne_iff_ne, beq_iff_eq, bne_eq_false_iff_eq, beq_eq_false_iff_ne, ne_eq] at hc); have hc6 := hc; obtain ⟨q, c, hqc, hqh, hq3, hqf⟩ := hfind.resolve_left (fun h => by rw [h.2] at hc6; simp at hc6); have hql : q < xs.length := (List.getElem?_eq_some_iff.1 hqc).1; obtain ⟨hpc, hpp⟩ := mvF_spec (p := p) zeroP c.pieces hqh; have hto := idxV_lt (l.take 2000) k (n := xs.length) (by omega); have hmv := hg.moved hqc hpc hto hlen; rw [hpp] at hmv; obtain ⟨hrem, d, hd1, hd2, hd3, hd4, hd5⟩ := hmv; obtain ⟨ct, hct⟩ : ∃ ct, xs[(idxV (l.take 2000) k xs.length)]? = some ct := ⟨_, List.getElem?_eq_getElem hto⟩; rw [(List.getElem?_eq_some_iff.1 hct).2] at hd4; have hn1 : (findL xs p).1 = c.number := (by rw [hqf]); have hckn : xs[q].number = c.number := (by rw [(List.getElem?_eq_some_iff.1 hqc).2])
            refine AW.skip ?_
            (refine hK _ ?_; clear hK K; (try simp only [evS, lcS, nzR, nzA, nzL, Nat.reduceBEq, Nat.reduceEqDiff, ↓reduceIte, Nat.reduceAdd, Nat.reduceSub]))
            (refine AW.seq_k ?_; intro K hK)
            refine AW.region ?_
            refine awP (op_move rfl rfl) ?_; (try simp only [evS, lcS, nzR, nzA, nzL, Nat.reduceBEq, Nat.reduceEqDiff, ↓reduceIte, Nat.reduceAdd, Nat.reduceSub])
            refine awP (op_move rfl rfl) ?_; (try simp only [evS, lcS, nzR, nzA, nzL, Nat.reduceBEq, Nat.reduceEqDiff, ↓reduceIte, Nat.reduceAdd, Nat.reduceSub])
            (first | refine awP (op_len_ro rfl rfl Try.underlying48 (by first | exact .inr (.inl ⟨_, rfl, rfl⟩) | exact .inl rfl | exact .inr (.inr (.inl ⟨_, rfl, rfl⟩)) | exact .inr (.inr (.inr ⟨rfl, rfl⟩)))) ?_ | refine awP (op_len_sl rfl rfl rfl Try.underlying48) ?_ | refine awP (op_len_str rfl rfl Try.underlying48) ?_); (try simp only [evS, lcS, nzR, nzA, nzL, Nat.reduceBEq, Nat.reduceEqDiff, ↓reduceIte, Nat.reduceAdd, Nat.reduceSub])
            refine awJ (op_call1 rfl en12 (C12n (l := l.take 2000) (n := xs.length) (by simp; omega) (by omega) (by omega)) (by exact rfl) (RL.cons .ptr (RL.cons (.base (by first | exact View.same rfl | exact View.nil | exact View.rof | exact View.src .ro | exact View.src .rof | exact View.src (.sl rfl rfl) | exact View.ptr rfl rfl rfl)) (RL.nil))) (by exact ⟨_, _, _, rfl, rfl, rfl⟩) (by exact rfl) (by exact rfl) (by exact rfl)) ?_; (try simp only [evS, lcS, nzR, nzA, nzL, Nat.reduceBEq, Nat.reduceEqDiff, ↓reduceIte, Nat.reduceAdd, Nat.reduceSub])
            refine awP (op_assign rfl rfl) ?_; (try simp only [evS, lcS, nzR, nzA, nzL, Nat.reduceBEq, Nat.reduceEqDiff, ↓reduceIte, Nat.reduceAdd, Nat.reduceSub])
            refine AWL.nil ?_
            (refine hK _ ?_; clear hK K; (try simp only [evS, lcS, nzR, nzA, nzL, Nat.reduceBEq, Nat.reduceEqDiff, ↓reduceIte, Nat.reduceAdd, Nat.reduceSub]))
            (refine AW.seq_k ?_; intro K hK)
            refine AW.region ?_
            refine awJ (op_buildSlice rfl [] [] Try.underlying48 ze29 rfl (by simp) rfl (by simp) rfl (Nat.le_of_ble_eq_true rfl) (by simp [maxLen])) ?_; (try simp only [evS, lcS, nzR, nzA, nzL, Nat.reduceBEq, Nat.reduceEqDiff, ↓reduceIte, Nat.reduceAdd, Nat.reduceSub]); skip; (try simp only [evS, lcS, nzR, nzA, nzL, Nat.reduceBEq, Nat.reduceEqDiff, ↓reduceIte, Nat.reduceAdd, Nat.reduceSub])
            refine awP (op_move rfl rfl) ?_; (try simp only [evS, lcS, nzR, nzA, nzL, Nat.reduceBEq, Nat.reduceEqDiff, ↓reduceIte, Nat.reduceAdd, Nat.reduceSub])
            refine awJ (op_app rfl rfl rfl rfl rfl .ro Try.underlying48 ze29 (by decide) (cav_len _) (by simp; omega) (by decide) (List.nil_append _) rfl) ?_ -- BUILTIN append ['t78', 't79'] [48, 48]; (try simp only [evS, lcS, nzR, nzA, nzL, Nat.reduceBEq, Nat.reduceEqDiff, ↓reduceIte, Nat.reduceAdd, Nat.reduceSub])
            refine awP (op_assign rfl rfl) ?_; (try simp only [evS, lcS, nzR, nzA, nzL, Nat.reduceBEq, Nat.reduceEqDiff, ↓reduceIte, Nat.reduceAdd, Nat.reduceSub])
            refine AWL.nil ?_
            (refine hK _ ?_; clear hK K; (try simp only [evS, lcS, nzR, nzA, nzL, Nat.reduceBEq, Nat.reduceEqDiff, ↓reduceIte, Nat.reduceAdd, Nat.reduceSub]))
            (refine AW.seq_k ?_; intro K hK)
            refine AW.region ?_
            refine awJ (op_alloc rfl ze36 rfl) ?_; (try simp only [evS, lcS, nzR, nzA, nzL, Nat.reduceBEq, Nat.reduceEqDiff, ↓reduceIte, Nat.reduceAdd, Nat.reduceSub])
            refine AWL.nil ?_
            (refine hK _ ?_; clear hK K; (try simp only [evS, lcS, nzR, nzA, nzL, Nat.reduceBEq, Nat.reduceEqDiff, ↓reduceIte, Nat.reduceAdd, Nat.reduceSub]))
            (refine AW.seq_k ?_; intro K hK)
            (refine AW.seq_k ?_; intro K hK)
            refine AW.region ?_
            refine awP (op_move rfl rfl) ?_; (try simp only [evS, lcS, nzR, nzA, nzL, Nat.reduceBEq, Nat.reduceEqDiff, ↓reduceIte, Nat.reduceAdd, Nat.reduceSub])
            (first | refine awP (op_len_ro rfl rfl Try.underlying48 (by first | exact .inr (.inl ⟨_, rfl, rfl⟩) | exact .inl rfl | exact .inr (.inr (.inl ⟨_, rfl, rfl⟩)) | exact .inr (.inr (.inr ⟨rfl, rfl⟩)))) ?_ | refine awP (op_len_sl rfl rfl rfl Try.underlying48) ?_ | refine awP (op_len_str rfl rfl Try.underlying48) ?_); (try simp only [evS, lcS, nzR, nzA, nzL, Nat.reduceBEq, Nat.reduceEqDiff, ↓reduceIte, Nat.reduceAdd, Nat.reduceSub])
            refine awP (op_move rfl rfl) ?_; (try simp only [evS, lcS, nzR, nzA, nzL, Nat.reduceBEq, Nat.reduceEqDiff, ↓reduceIte, Nat.reduceAdd, Nat.reduceSub])
            refine AWL.nil ?_
            (refine hK _ ?_; clear hK K; (try simp only [evS, lcS, nzR, nzA, nzL, Nat.reduceBEq, Nat.reduceEqDiff, ↓reduceIte, Nat.reduceAdd, Nat.reduceSub]))
            refine AW.block ?_   -- block 4
            refine AW.loopI (fun (r : Nat × Nat) => [(3, .ptr 0 1 0 0), (4, .ro (xs.map Container.av)), (5, .v (.int .i64 (i : Nat))), (6, .ptr 1 e 0 0), (9, .v (.int .i64 (findL xs p).1)), (11, .v (.int .i64 ((idxV (l.take 2000) k xs.length) : Nat))), (12, .sl 2 (e + 2) 0 xs.length), (13, .ptr 3 (e + 3) 0 0), (82, .v (.int .i64 (xs.length : Nat))), (83, .v (.int .i64 (r.1 : Nat)))]) (fun r => ⟨[(1, .own 64 [srcRow (l.take 2000) (rawN (l.take 2000) k)]), (e, .own 33 [p.av]), (e + 2, .own 29 ((yF xs q (delC c p) r.1).map Container.av)), (e + 3, .own 36 [(mF q (mvF p zeroP c.pieces) r.1).av])], r.2⟩) (fun r => r.1 ≤ xs.length) (fun r => xs.length - r.1) (0, _) (by simp) ⟨rfl, rfl, rfl, rfl, rfl, rfl, (by rw [show AV.sl 2 (e + 2) 0 xs.length = .sl 2 (e + 2) 0 (xs.map Container.av).length by simp]; rfl), rfl, rfl, rfl, trivial⟩ (by rw [yF_le (Nat.zero_le _), mF_le (Nat.zero_le _)]; rfl) ?_; rintro ⟨kk, e2⟩ ρ hkk; simp only at hkk; simp only [updL]; (try simp only [evS, lcS, nzR, nzA, nzL, Nat.reduceBEq, Nat.reduceEqDiff, ↓reduceIte, Nat.reduceAdd, Nat.reduceSub])
            (refine AW.seq_k ?_; intro K hK)
            refine AW.region ?_
            refine awP (op_lss rfl rfl rfl) ?_; (try simp only [evS, lcS, nzR, nzA, nzL, Nat.reduceBEq, Nat.reduceEqDiff, ↓reduceIte, Nat.reduceAdd, Nat.reduceSub])
            refine AWL.nil ?_
            (refine hK _ ?_; clear hK K; (try simp only [evS, lcS, nzR, nzA, nzL, Nat.reduceBEq, Nat.reduceEqDiff, ↓reduceIte, Nat.reduceAdd, Nat.reduceSub]))
            (refine AW.seq_k ?_; intro K hK)
            refine AW.cond rfl rfl rfl (fun hc => ?_) (fun hc => ?_)   -- cond 7
            · -- true
              (try simp only [Bool.and_eq_true, Bool.or_eq_true, Bool.or_eq_false_iff, Bool.and_eq_false_iff, decide_eq_true_eq, decide_eq_false_iff_not, Int.not_le, Int.not_lt, ge_iff_le, gt_iff_lt, Bool.not_eq_true', Bool.not_eq_false', bne_iff_ne, beq_iff_eq, bne_eq_false_iff_eq, beq_eq_false_iff_ne, ne_eq] at hc); have hc7 := hc; have hkl : kk < xs.length := (by simpa using hc7); obtain ⟨ck, hck⟩ : ∃ ck, (yF xs q (delC c p) kk)[kk]? = some ck := ⟨_, List.getElem?_eq_getElem (by rw [yF_len]; exact hkl)⟩; have hckk := yF_num hqc (rfl : (delC c p).number = c.number) hkl hck
              refine AW.skip ?_
              (refine hK _ ?_; clear hK K; (try simp only [evS, lcS, nzR, nzA, nzL, Nat.reduceBEq, Nat.reduceEqDiff, ↓reduceIte, Nat.reduceAdd, Nat.reduceSub]))
              (refine AW.seq_k ?_; intro K hK)
              refine AW.block ?_   -- block 5
              (refine AW.seq_k ?_; intro K hK)
              refine AW.region ?_
              refine awP (op_move rfl rfl) ?_; (try simp only [evS, lcS, nzR, nzA, nzL, Nat.reduceBEq, Nat.reduceEqDiff, ↓reduceIte, Nat.reduceAdd, Nat.reduceSub])
              refine awP (op_assign rfl rfl) ?_; (try simp only [evS, lcS, nzR, nzA, nzL, Nat.reduceBEq, Nat.reduceEqDiff, ↓reduceIte, Nat.reduceAdd, Nat.reduceSub])
              refine AWL.nil ?_
              (refine hK _ ?_; clear hK K; (try simp only [evS, lcS, nzR, nzA, nzL, Nat.reduceBEq, Nat.reduceEqDiff, ↓reduceIte, Nat.reduceAdd, Nat.reduceSub]))
              (refine AW.seq_k ?_; intro K hK)
              (refine AW.seq_k ?_; intro K hK)
              refine AW.region ?_
              refine awP (op_move rfl rfl) ?_; (try simp only [evS, lcS, nzR, nzA, nzL, Nat.reduceBEq, Nat.reduceEqDiff, ↓reduceIte, Nat.reduceAdd, Nat.reduceSub])
              refine awP (op_move rfl rfl) ?_; (try simp only [evS, lcS, nzR, nzA, nzL, Nat.reduceBEq, Nat.reduceEqDiff, ↓reduceIte, Nat.reduceAdd, Nat.reduceSub])
              (first | refine awP (op_ia_ro _ rfl (.inl rfl) rfl Try.underlying48 rfl (get_map (by omega)) (by exact sz29) (Nat.le_of_ble_eq_true rfl)) ?_ | refine awP (op_ia_sl _ _ rfl rfl rfl rfl Try.underlying48 rfl (by omega) (by exact sz29) rfl) ?_); (try simp only [evS, lcS, nzR, nzA, nzL, Nat.reduceBEq, Nat.reduceEqDiff, ↓reduceIte, Nat.reduceAdd, Nat.reduceSub])
              (first | refine awP (op_fa_ptr rfl rfl rfl fl29_0 (by exact sz3) (by decide) rfl) ?_ | refine awP (op_fa_rop rfl rfl fl29_0 (by exact sz3) (by decide) (Nat.le_of_ble_eq_true rfl) rfl) ?_); (try simp only [evS, lcS, nzR, nzA, nzL, Nat.reduceBEq, Nat.reduceEqDiff, ↓reduceIte, Nat.reduceAdd, Nat.reduceSub])
              (first | refine awR (op_load_ptr1 rfl rfl rfl (get_of hck) ag3 rfl rfl) ?_ | refine awR (op_load_rop1 rfl rfl ag3) ?_); (try simp only [evS, lcS, nzR, nzA, nzL, Nat.reduceBEq, Nat.reduceEqDiff, ↓reduceIte, Nat.reduceAdd, Nat.reduceSub])
              refine awP (op_move rfl rfl) ?_; (try simp only [evS, lcS, nzR, nzA, nzL, Nat.reduceBEq, Nat.reduceEqDiff, ↓reduceIte, Nat.reduceAdd, Nat.reduceSub])
              (first | refine awP (op_neq rfl rfl rfl) ?_ | refine awP (op_sneq rfl rfl rfl) ?_); (try simp only [evS, lcS, nzR, nzA, nzL, Nat.reduceBEq, Nat.reduceEqDiff, ↓reduceIte, Nat.reduceAdd, Nat.reduceSub])
              refine AWL.nil ?_
              (refine hK _ ?_; clear hK K; (try simp only [evS, lcS, nzR, nzA, nzL, Nat.reduceBEq, Nat.reduceEqDiff, ↓reduceIte, Nat.reduceAdd, Nat.reduceSub]))
              refine AW.cond rfl rfl rfl (fun hc => ?_) (fun hc => ?_)   -- cond 8
              · -- true
                (try simp only [Bool.and_eq_true, Bool.or_eq_true, Bool.or_eq_false_iff, Bool.and_eq_false_iff, decide_eq_true_eq, decide_eq_false_iff_not, Int.not_le, Int.not_lt, ge_iff_le, gt_iff_lt, Bool.not_eq_true', Bool.not_eq_false', bne_iff_ne, beq_iff_eq, bne_eq_false_iff_eq, beq_eq_false_iff_ne, ne_eq] at hc); have hc8 := hc; have hkq : kk ≠ q := (fun h => by subst h; apply hc8; rw [hckk, hckn, hn1])
                refine AW.exit ?_; (try simp only [thenE, inBlk, Nat.reduceEqDiff, ↓reduceIte])   -- to 5
                clear hK K
                (refine hK _ ?_; clear hK K; (try simp only [evS, lcS, nzR, nzA, nzL, Nat.reduceBEq, Nat.reduceEqDiff, ↓reduceIte, Nat.reduceAdd, Nat.reduceSub]))
                refine AW.region ?_
                (first | refine awP (op_addi rfl rfl rfl (by omega)) ?_ | refine awP (op_add rfl rfl rfl rfl) ?_); (try simp only [evS, lcS, nzR, nzA, nzL, Nat.reduceBEq, Nat.reduceEqDiff, ↓reduceIte, Nat.reduceAdd, Nat.reduceSub])
                refine awP (op_move rfl rfl) ?_; (try simp only [evS, lcS, nzR, nzA, nzL, Nat.reduceBEq, Nat.reduceEqDiff, ↓reduceIte, Nat.reduceAdd, Nat.reduceSub])
                refine AWL.gh (Gh.drop 4) ?_; (try simp only [evS, lcS, nzR, nzA, nzL, Nat.reduceBEq, Nat.reduceEqDiff, ↓reduceIte, Nat.reduceAdd, Nat.reduceSub])
                refine AWL.nil ?_
                refine ⟨(kk + 1, _), by dsimp only; omega, by dsimp only; omega, ⟨rfl, rfl, rfl, rfl, rfl, rfl, rfl, rfl, rfl, rfl, trivial⟩, (by dsimp only; rcases Nat.lt_or_ge kk q with h | h; (rw [yF_le (Nat.le_of_lt h), yF_le h, mF_le (Nat.le_of_lt h), mF_le h]); (have h' : q < kk := (by omega); rw [yF_gt h', yF_gt (by omega), mF_gt h', mF_gt (by omega)])), (by first | rfl | trivial)⟩
              · -- false
                (try simp only [Bool.and_eq_true, Bool.or_eq_true, Bool.or_eq_false_iff, Bool.and_eq_false_iff, decide_eq_true_eq, decide_eq_false_iff_not, Int.not_le, Int.not_lt, ge_iff_le, gt_iff_lt, Bool.not_eq_true', Bool.not_eq_false', bne_iff_ne, beq_iff_eq, bne_eq_false_iff_eq, beq_eq_false_iff_ne, ne_eq] at hc); have hc8 := hc; obtain rfl : kk = q := (hg.num hql hkl (by rw [← hckk, hckn, ← hn1]; exact hc8)); rw [yF_le (Nat.le_refl _)] at hck; obtain rfl : ck = c := (by rw [hqc] at hck; injection hck with h; exact h.symm); simp only [yF_le (Nat.le_refl _), mF_le (Nat.le_refl _)]
                refine AW.skip ?_
                (refine hK _ ?_; clear hK K; (try simp only [evS, lcS, nzR, nzA, nzL, Nat.reduceBEq, Nat.reduceEqDiff, ↓reduceIte, Nat.reduceAdd, Nat.reduceSub]))
                (refine AW.seq_k ?_; intro K hK)
                (refine AW.seq_k ?_; intro K hK)
                refine AW.region ?_
                refine awP (op_move rfl rfl) ?_; (try simp only [evS, lcS, nzR, nzA, nzL, Nat.reduceBEq, Nat.reduceEqDiff, ↓reduceIte, Nat.reduceAdd, Nat.reduceSub])
                refine awP (op_move rfl rfl) ?_; (try simp only [evS, lcS, nzR, nzA, nzL, Nat.reduceBEq, Nat.reduceEqDiff, ↓reduceIte, Nat.reduceAdd, Nat.reduceSub])
                (first | refine awP (op_ia_ro _ rfl (.inl rfl) rfl Try.underlying48 rfl (get_map (by omega)) (by exact sz29) (Nat.le_of_ble_eq_true rfl)) ?_ | refine awP (op_ia_sl _ _ rfl rfl rfl rfl Try.underlying48 rfl (by omega) (by exact sz29) rfl) ?_); (try simp only [evS, lcS, nzR, nzA, nzL, Nat.reduceBEq, Nat.reduceEqDiff, ↓reduceIte, Nat.reduceAdd, Nat.reduceSub])
                (first | refine awP (op_fa_ptr rfl rfl rfl fl29_7 (by exact sz27) (by decide) rfl) ?_ | refine awP (op_fa_rop rfl rfl fl29_7 (by exact sz27) (by decide) (Nat.le_of_ble_eq_true rfl) rfl) ?_); (try simp only [evS, lcS, nzR, nzA, nzL, Nat.reduceBEq, Nat.reduceEqDiff, ↓reduceIte, Nat.reduceAdd, Nat.reduceSub])
                (first | refine awR (op_load_ptr1 rfl rfl rfl (get_of hqc) ag27 rfl rfl) ?_ | refine awR (op_load_rop1 rfl rfl ag27) ?_); (try simp only [evS, lcS, nzR, nzA, nzL, Nat.reduceBEq, Nat.reduceEqDiff, ↓reduceIte, Nat.reduceAdd, Nat.reduceSub])
                (first | refine awP (op_len_ro rfl rfl Try.underlying27 (by first | exact .inr (.inl ⟨_, rfl, rfl⟩) | exact .inl rfl | exact .inr (.inr (.inl ⟨_, rfl, rfl⟩)) | exact .inr (.inr (.inr ⟨rfl, rfl⟩)))) ?_ | refine awP (op_len_sl rfl rfl rfl Try.underlying27) ?_ | refine awP (op_len_str rfl rfl Try.underlying27) ?_); (try simp only [evS, lcS, nzR, nzA, nzL, Nat.reduceBEq, Nat.reduceEqDiff, ↓reduceIte, Nat.reduceAdd, Nat.reduceSub])
                refine awP (op_move rfl rfl) ?_; (try simp only [evS, lcS, nzR, nzA, nzL, Nat.reduceBEq, Nat.reduceEqDiff, ↓reduceIte, Nat.reduceAdd, Nat.reduceSub])
                refine AWL.nil ?_
                (refine hK _ ?_; clear hK K; (try simp only [evS, lcS, nzR, nzA, nzL, Nat.reduceBEq, Nat.reduceEqDiff, ↓reduceIte, Nat.reduceAdd, Nat.reduceSub]))
                refine AW.block ?_   -- block 6
                refine AW.loopI (fun (r : Nat × Nat) => [(3, .ptr 0 1 0 0), (4, .ro (xs.map Container.av)), (5, .v (.int .i64 (i : Nat))), (6, .ptr 1 e 0 0), (9, .v (.int .i64 (findL xs p).1)), (11, .v (.int .i64 ((idxV (l.take 2000) k xs.length) : Nat))), (12, .sl 2 (e + 2) 0 xs.length), (13, .ptr 3 (e + 3) 0 0), (82, .v (.int .i64 (xs.length : Nat))), (83, .v (.int .i64 (kk : Nat))), (14, .v (.int .i64 (kk : Nat))), (97, .ro (ck.pieces.map Piece.av)), (98, .v (.int .i64 (ck.pieces.length : Nat))), (99, .v (.int .i64 (r.1 : Nat)))]) (fun r => ⟨[(1, .own 64 [srcRow (l.take 2000) (rawN (l.take 2000) k)]), (e, .own 33 [p.av]), (e + 2, .own 29 (xs.map Container.av)), (e + 3, .own 36 [(mvF p zeroP (ck.pieces.take r.1)).av])], r.2⟩) (fun r => r.1 ≤ ck.pieces.length) (fun r => ck.pieces.length - r.1) (0, _) (by simp) ⟨rfl, rfl, rfl, rfl, rfl, rfl, rfl, rfl, rfl, rfl, rfl, rfl, rfl, rfl, trivial⟩ rfl ?_; rintro ⟨j, e3⟩ ρ hj4; simp only at hj4; simp only [updL]; (try simp only [evS, lcS, nzR, nzA, nzL, Nat.reduceBEq, Nat.reduceEqDiff, ↓reduceIte, Nat.reduceAdd, Nat.reduceSub]); have hcl20 := hlen ck (List.mem_of_getElem? hqc)
                (refine AW.seq_k ?_; intro K hK)
                refine AW.region ?_
                refine awP (op_lss rfl rfl rfl) ?_; (try simp only [evS, lcS, nzR, nzA, nzL, Nat.reduceBEq, Nat.reduceEqDiff, ↓reduceIte, Nat.reduceAdd, Nat.reduceSub])
                refine AWL.nil ?_
                (refine hK _ ?_; clear hK K; (try simp only [evS, lcS, nzR, nzA, nzL, Nat.reduceBEq, Nat.reduceEqDiff, ↓reduceIte, Nat.reduceAdd, Nat.reduceSub]))
                (refine AW.seq_k ?_; intro K hK)
                refine AW.cond rfl rfl rfl (fun hc => ?_) (fun hc => ?_)   -- cond 9
                · -- true
                  (try simp only [Bool.and_eq_true, Bool.or_eq_true, Bool.or_eq_false_iff, Bool.and_eq_false_iff, decide_eq_true_eq, decide_eq_false_iff_not, Int.not_le, Int.not_lt, ge_iff_le, gt_iff_lt, Bool.not_eq_true', Bool.not_eq_false', bne_iff_ne, beq_iff_eq, bne_eq_false_iff_eq, beq_eq_false_iff_ne, ne_eq] at hc); have hc9 := hc; have hjl : j < ck.pieces.length := (by simpa using hc9); obtain ⟨pj, hpj⟩ : ∃ pj, ck.pieces[j]? = some pj := ⟨ck.pieces[j], List.getElem?_eq_getElem hjl⟩
                  refine AW.skip ?_
                  (refine hK _ ?_; clear hK K; (try simp only [evS, lcS, nzR, nzA, nzL, Nat.reduceBEq, Nat.reduceEqDiff, ↓reduceIte, Nat.reduceAdd, Nat.reduceSub]))
                  (refine AW.seq_k ?_; intro K hK)
                  refine AW.block ?_   -- block 7
                  (refine AW.seq_k ?_; intro K hK)
                  refine AW.region ?_
                  (first | refine awP (op_ia_ro j rfl (.inl rfl) rfl Try.underlying27 rfl (get_of hpj) (by exact sz36) (Nat.le_of_ble_eq_true rfl)) ?_ | refine awP (op_ia_sl _ _ rfl rfl rfl rfl Try.underlying27 rfl (by omega) (by exact sz36) rfl) ?_); (try simp only [evS, lcS, nzR, nzA, nzL, Nat.reduceBEq, Nat.reduceEqDiff, ↓reduceIte, Nat.reduceAdd, Nat.reduceSub])
                  (first | refine awR (op_load_ptr rfl rfl rfl rfl ag36 sz36 (Nat.le_of_ble_eq_true rfl) rfl) ?_ | refine awR (op_load_rop rfl rfl ag36 sz36 (Nat.le_of_ble_eq_true rfl) (by decide) rfl) ?_); (try simp only [evS, lcS, nzR, nzA, nzL, Nat.reduceBEq, Nat.reduceEqDiff, ↓reduceIte, Nat.reduceAdd, Nat.reduceSub])
                  refine awJ (op_alloc rfl ze36 rfl) ?_; (try simp only [evS, lcS, nzR, nzA, nzL, Nat.reduceBEq, Nat.reduceEqDiff, ↓reduceIte, Nat.reduceAdd, Nat.reduceSub])
                  refine awJ (op_store rfl rfl rfl rfl rfl rfl sz36 rfl (Nat.le_of_ble_eq_true rfl) rfl) ?_; (try simp only [evS, lcS, nzR, nzA, nzL, Nat.reduceBEq, Nat.reduceEqDiff, ↓reduceIte, Nat.reduceAdd, Nat.reduceSub])
                  refine AWL.nil ?_
                  (refine hK _ ?_; clear hK K; (try simp only [evS, lcS, nzR, nzA, nzL, Nat.reduceBEq, Nat.reduceEqDiff, ↓reduceIte, Nat.reduceAdd, Nat.reduceSub]))
                  (refine AW.seq_k ?_; intro K hK)
                  refine AW.region ?_
                  (first | refine awP (op_fa_ptr rfl rfl rfl fl36_0 (by exact sz33) (by decide) rfl) ?_ | refine awP (op_fa_rop rfl rfl fl36_0 (by exact sz33) (by decide) (Nat.le_of_ble_eq_true rfl) rfl) ?_); (try simp only [evS, lcS, nzR, nzA, nzL, Nat.reduceBEq, Nat.reduceEqDiff, ↓reduceIte, Nat.reduceAdd, Nat.reduceSub])
                  (first | refine awR (op_load_ptr rfl rfl rfl rfl ag33 sz33 (Nat.le_of_ble_eq_true rfl) rfl) ?_ | refine awR (op_load_rop rfl rfl ag33 sz33 (Nat.le_of_ble_eq_true rfl) (by decide) rfl) ?_); (try simp only [evS, lcS, nzR, nzA, nzL, Nat.reduceBEq, Nat.reduceEqDiff, ↓reduceIte, Nat.reduceAdd, Nat.reduceSub])
                  (first | refine awR (op_load_ptr rfl rfl rfl rfl ag33 sz33 (Nat.le_of_ble_eq_true rfl) rfl) ?_ | refine awR (op_load_rop rfl rfl ag33 sz33 (Nat.le_of_ble_eq_true rfl) (by decide) rfl) ?_); (try simp only [evS, lcS, nzR, nzA, nzL, Nat.reduceBEq, Nat.reduceEqDiff, ↓reduceIte, Nat.reduceAdd, Nat.reduceSub])
                  refine awP (op_eq33 rfl rfl rfl) ?_; (try simp only [evS, lcS, nzR, nzA, nzL, Nat.reduceBEq, Nat.reduceEqDiff, ↓reduceIte, Nat.reduceAdd, Nat.reduceSub])
                  refine AWL.nil ?_
                  (refine hK _ ?_; clear hK K; (try simp only [evS, lcS, nzR, nzA, nzL, Nat.reduceBEq, Nat.reduceEqDiff, ↓reduceIte, Nat.reduceAdd, Nat.reduceSub]))
                  refine AW.cond rfl rfl rfl (fun hc => ?_) (fun hc => ?_)   -- cond 10
                  · -- true
                    (try simp only [Bool.and_eq_true, Bool.or_eq_true, Bool.or_eq_false_iff, Bool.and_eq_false_iff, decide_eq_true_eq, decide_eq_false_iff_not, Int.not_le, Int.not_lt, ge_iff_le, gt_iff_lt, Bool.not_eq_true', Bool.not_eq_false', bne_iff_ne, beq_iff_eq, bne_eq_false_iff_eq, beq_eq_false_iff_ne, ne_eq] at hc); have hc10 := hc; skip
                    refine AW.region ?_
                    (first | refine awR (op_load_ptr rfl rfl rfl rfl ag36 sz36 (Nat.le_of_ble_eq_true rfl) rfl) ?_ | refine awR (op_load_rop rfl rfl ag36 sz36 (Nat.le_of_ble_eq_true rfl) (by decide) rfl) ?_); (try simp only [evS, lcS, nzR, nzA, nzL, Nat.reduceBEq, Nat.reduceEqDiff, ↓reduceIte, Nat.reduceAdd, Nat.reduceSub])
                    refine awJ (op_store rfl rfl rfl rfl rfl rfl sz36 rfl (Nat.le_of_ble_eq_true rfl) rfl) ?_; (try simp only [evS, lcS, nzR, nzA, nzL, Nat.reduceBEq, Nat.reduceEqDiff, ↓reduceIte, Nat.reduceAdd, Nat.reduceSub])
                    refine AWL.nil ?_
                    (try simp only [thenE, inBlk, Nat.reduceEqDiff, ↓reduceIte])
                    (refine hK _ ?_; clear hK K; (try simp only [evS, lcS, nzR, nzA, nzL, Nat.reduceBEq, Nat.reduceEqDiff, ↓reduceIte, Nat.reduceAdd, Nat.reduceSub]))
                    refine AW.region ?_
                    (first | refine awP (op_addi rfl rfl rfl (by omega)) ?_ | refine awP (op_add rfl rfl rfl rfl) ?_); (try simp only [evS, lcS, nzR, nzA, nzL, Nat.reduceBEq, Nat.reduceEqDiff, ↓reduceIte, Nat.reduceAdd, Nat.reduceSub])
                    refine awP (op_move rfl rfl) ?_; (try simp only [evS, lcS, nzR, nzA, nzL, Nat.reduceBEq, Nat.reduceEqDiff, ↓reduceIte, Nat.reduceAdd, Nat.reduceSub])
                    refine AWL.gh (Gh.drop 4) ?_; (try simp only [evS, lcS, nzR, nzA, nzL, Nat.reduceBEq, Nat.reduceEqDiff, ↓reduceIte, Nat.reduceAdd, Nat.reduceSub])
                    refine AWL.nil ?_
                    refine ⟨(j + 1, _), by dsimp only; omega, by dsimp only; omega, ⟨rfl, rfl, rfl, rfl, rfl, rfl, rfl, rfl, rfl, rfl, rfl, rfl, rfl, rfl, trivial⟩, (by dsimp only; rw [mvF_take hpj, if_pos hc10]), (by first | rfl | trivial)⟩
                  · -- false
                    (try simp only [Bool.and_eq_true, Bool.or_eq_true, Bool.or_eq_false_iff, Bool.and_eq_false_iff, decide_eq_true_eq, decide_eq_false_iff_not, Int.not_le, Int.not_lt, ge_iff_le, gt_iff_lt, Bool.not_eq_true', Bool.not_eq_false', bne_iff_ne, beq_iff_eq, bne_eq_false_iff_eq, beq_eq_false_iff_ne, ne_eq] at hc); have hc10 := hc; skip
                    refine AW.skip ?_
                    (try simp only [thenE, inBlk, Nat.reduceEqDiff, ↓reduceIte])
                    (refine hK _ ?_; clear hK K; (try simp only [evS, lcS, nzR, nzA, nzL, Nat.reduceBEq, Nat.reduceEqDiff, ↓reduceIte, Nat.reduceAdd, Nat.reduceSub]))
                    refine AW.region ?_
                    (first | refine awP (op_addi rfl rfl rfl (by omega)) ?_ | refine awP (op_add rfl rfl rfl rfl) ?_); (try simp only [evS, lcS, nzR, nzA, nzL, Nat.reduceBEq, Nat.reduceEqDiff, ↓reduceIte, Nat.reduceAdd, Nat.reduceSub])
                    refine awP (op_move rfl rfl) ?_; (try simp only [evS, lcS, nzR, nzA, nzL, Nat.reduceBEq, Nat.reduceEqDiff, ↓reduceIte, Nat.reduceAdd, Nat.reduceSub])
                    refine AWL.gh (Gh.drop 4) ?_; (try simp only [evS, lcS, nzR, nzA, nzL, Nat.reduceBEq, Nat.reduceEqDiff, ↓reduceIte, Nat.reduceAdd, Nat.reduceSub])
                    refine AWL.nil ?_
                    refine ⟨(j + 1, _), by dsimp only; omega, by dsimp only; omega, ⟨rfl, rfl, rfl, rfl, rfl, rfl, rfl, rfl, rfl, rfl, rfl, rfl, rfl, rfl, trivial⟩, (by dsimp only; rw [mvF_take hpj, if_neg hc10]), (by first | rfl | trivial)⟩
                · -- false
                  (try simp only [Bool.and_eq_true, Bool.or_eq_true, Bool.or_eq_false_iff, Bool.and_eq_false_iff, decide_eq_true_eq, decide_eq_false_iff_not, Int.not_le, Int.not_lt, ge_iff_le, gt_iff_lt, Bool.not_eq_true', Bool.not_eq_false', bne_iff_ne, beq_iff_eq, bne_eq_false_iff_eq, beq_eq_false_iff_ne, ne_eq] at hc); have hc9 := hc; obtain rfl : j = ck.pieces.length := (by omega); simp only [List.take_length]
                  refine AW.exit ?_; (try simp only [thenE, inBlk, Nat.reduceEqDiff, ↓reduceIte])   -- to 6
                  clear hK K
                  (refine hK _ ?_; clear hK K; (try simp only [evS, lcS, nzR, nzA, nzL, Nat.reduceBEq, Nat.reduceEqDiff, ↓reduceIte, Nat.reduceAdd, Nat.reduceSub]))
                  (refine AW.seq_k ?_; intro K hK)
                  refine AW.ad [(2, e + 2, .own 29 (xs.map Container.av)), (1, e, .own 33 [p.av])] mix rfl ?_   -- DRAWS, one after the other
                  refine adP 0 rfl (fun T' ok => op_move rfl rfl) (by first | exact trivial | exact ⟨rfl, trivial⟩ | exact ⟨rfl, rfl, trivial⟩ | exact ⟨rfl, rfl, rfl, trivial⟩) (by kernel_rfl) (by kernel_rfl) ?_; (try simp only [evS, lcS, nzR, nzA, nzL, Nat.reduceBEq, Nat.reduceEqDiff, ↓reduceIte, Nat.reduceAdd, Nat.reduceSub])
                  refine adP 1 rfl (fun T' ok => op_move rfl rfl) (by first | exact trivial | exact ⟨rfl, trivial⟩ | exact ⟨rfl, rfl, trivial⟩ | exact ⟨rfl, rfl, rfl, trivial⟩) (by kernel_rfl) (by kernel_rfl) ?_; (try simp only [evS, lcS, nzR, nzA, nzL, Nat.reduceBEq, Nat.reduceEqDiff, ↓reduceIte, Nat.reduceAdd, Nat.reduceSub])
                  (first | refine adP 2 rfl (fun T' ok => op_ia_ro _ rfl (.inl rfl) rfl Try.underlying48 rfl (get_map (by omega)) (by exact sz29) (Nat.le_of_ble_eq_true rfl)) (by first | exact trivial | exact ⟨rfl, trivial⟩ | exact ⟨rfl, rfl, trivial⟩ | exact ⟨rfl, rfl, rfl, trivial⟩) (by kernel_rfl) (by kernel_rfl) ?_ | refine adP 2 rfl (fun T' ok => op_ia_sl _ _ rfl rfl rfl (by first | exact ok.1 | exact ok.2.1 | exact ok.2.2.1 | exact ok.2.2.2.1) Try.underlying48 rfl (by omega) (by exact sz29) rfl) (by first | exact trivial | exact ⟨rfl, trivial⟩ | exact ⟨rfl, rfl, trivial⟩ | exact ⟨rfl, rfl, rfl, trivial⟩) (by kernel_rfl) (by kernel_rfl) ?_); (try simp only [evS, lcS, nzR, nzA, nzL, Nat.reduceBEq, Nat.reduceEqDiff, ↓reduceIte, Nat.reduceAdd, Nat.reduceSub])
                  (first | refine adR 3 rfl (fun T' ok => op_load_ptr rfl rfl (by first | exact ok.1 | exact ok.2.1 | exact ok.2.2.1 | exact ok.2.2.2.1) (get_of hqc) ag29 sz29 (Nat.le_of_ble_eq_true rfl) rfl) (by first | exact trivial | exact ⟨rfl, trivial⟩ | exact ⟨rfl, rfl, trivial⟩ | exact ⟨rfl, rfl, rfl, trivial⟩) (by kernel_rfl) (by kernel_rfl) ?_ | refine adR 3 rfl (fun T' ok => op_load_rop rfl rfl ag29 sz29 (Nat.le_of_ble_eq_true rfl) (by decide) rfl) (by first | exact trivial | exact ⟨rfl, trivial⟩ | exact ⟨rfl, rfl, trivial⟩ | exact ⟨rfl, rfl, rfl, trivial⟩) (by kernel_rfl) (by kernel_rfl) ?_); (try simp only [evS, lcS, nzR, nzA, nzL, Nat.reduceBEq, Nat.reduceEqDiff, ↓reduceIte, Nat.reduceAdd, Nat.reduceSub])
                  (first | refine adR 4 rfl (fun T' ok => op_load_ptr rfl rfl (by first | exact ok.1 | exact ok.2.1 | exact ok.2.2.1 | exact ok.2.2.2.1) rfl ag33 sz33 (Nat.le_of_ble_eq_true rfl) rfl) (by first | exact trivial | exact ⟨rfl, trivial⟩ | exact ⟨rfl, rfl, trivial⟩ | exact ⟨rfl, rfl, rfl, trivial⟩) (by kernel_rfl) (by kernel_rfl) ?_ | refine adR 4 rfl (fun T' ok => op_load_rop rfl rfl ag33 sz33 (Nat.le_of_ble_eq_true rfl) (by decide) rfl) (by first | exact trivial | exact ⟨rfl, trivial⟩ | exact ⟨rfl, rfl, trivial⟩ | exact ⟨rfl, rfl, rfl, trivial⟩) (by kernel_rfl) (by kernel_rfl) ?_); (try simp only [evS, lcS, nzR, nzA, nzL, Nat.reduceBEq, Nat.reduceEqDiff, ↓reduceIte, Nat.reduceAdd, Nat.reduceSub])
                  refine adF 5 rfl (fun T' ok => op_callS rfl en27 (C27s hrem) (RL.cons (by first | exact View.same rfl | exact View.nil | exact View.rof | exact View.src .ro | exact View.src .rof | exact View.src (.sl rfl rfl) | exact View.ptr rfl rfl rfl) (RL.cons (by first | exact View.same rfl | exact View.nil | exact View.rof | exact View.src .ro | exact View.src .rof | exact View.src (.sl rfl rfl) | exact View.ptr rfl rfl rfl) (RL.nil))) rfl rfl rfl) (by first | exact trivial | exact ⟨rfl, trivial⟩ | exact ⟨rfl, rfl, trivial⟩ | exact ⟨rfl, rfl, rfl, trivial⟩) (by kernel_rfl) (by kernel_rfl) ?_; (try simp only [evS, lcS, nzR, nzA, nzL, Nat.reduceBEq, Nat.reduceEqDiff, ↓reduceIte, Nat.reduceAdd, Nat.reduceSub])
                  refine adP 6 rfl (fun T' ok => op_move rfl rfl) (by first | exact trivial | exact ⟨rfl, trivial⟩ | exact ⟨rfl, rfl, trivial⟩ | exact ⟨rfl, rfl, rfl, trivial⟩) (by kernel_rfl) (by kernel_rfl) ?_; (try simp only [evS, lcS, nzR, nzA, nzL, Nat.reduceBEq, Nat.reduceEqDiff, ↓reduceIte, Nat.reduceAdd, Nat.reduceSub])
                  refine adP 7 rfl (fun T' ok => op_extract rfl rfl rfl) (by first | exact trivial | exact ⟨rfl, trivial⟩ | exact ⟨rfl, rfl, trivial⟩ | exact ⟨rfl, rfl, rfl, trivial⟩) (by kernel_rfl) (by kernel_rfl) ?_; (try simp only [evS, lcS, nzR, nzA, nzL, Nat.reduceBEq, Nat.reduceEqDiff, ↓reduceIte, Nat.reduceAdd, Nat.reduceSub])
                  refine adP 8 rfl (fun T' ok => op_extract rfl rfl rfl) (by first | exact trivial | exact ⟨rfl, trivial⟩ | exact ⟨rfl, rfl, trivial⟩ | exact ⟨rfl, rfl, rfl, trivial⟩) (by kernel_rfl) (by kernel_rfl) ?_; (try simp only [evS, lcS, nzR, nzA, nzL, Nat.reduceBEq, Nat.reduceEqDiff, ↓reduceIte, Nat.reduceAdd, Nat.reduceSub])
                  refine adJ 9 rfl (op_alloc rfl ze29 rfl) (by kernel_rfl) (by first | exact trivial | exact ⟨rfl, trivial⟩ | exact ⟨rfl, rfl, trivial⟩ | exact ⟨rfl, rfl, rfl, trivial⟩) ?_; (try simp only [evS, lcS, nzR, nzA, nzL, Nat.reduceBEq, Nat.reduceEqDiff, ↓reduceIte, Nat.reduceAdd, Nat.reduceSub])
                  refine adJ 10 rfl (op_store rfl rfl rfl rfl rfl rfl sz29 rfl (Nat.le_of_ble_eq_true rfl) rfl) (by kernel_rfl) (by first | exact trivial | exact ⟨rfl, trivial⟩ | exact ⟨rfl, rfl, trivial⟩ | exact ⟨rfl, rfl, rfl, trivial⟩) ?_; (try simp only [evS, lcS, nzR, nzA, nzL, Nat.reduceBEq, Nat.reduceEqDiff, ↓reduceIte, Nat.reduceAdd, Nat.reduceSub])
                  refine adP 11 rfl (fun T' ok => op_assign rfl rfl) (by first | exact trivial | exact ⟨rfl, trivial⟩ | exact ⟨rfl, rfl, trivial⟩ | exact ⟨rfl, rfl, rfl, trivial⟩) (by kernel_rfl) (by kernel_rfl) ?_; (try simp only [evS, lcS, nzR, nzA, nzL, Nat.reduceBEq, Nat.reduceEqDiff, ↓reduceIte, Nat.reduceAdd, Nat.reduceSub])
                  refine adDone (by kernel_rfl) ?_
                  (refine hK _ ?_; clear hK K; (try simp only [evS, lcS, nzR, nzA, nzL, Nat.reduceBEq, Nat.reduceEqDiff, ↓reduceIte, Nat.reduceAdd, Nat.reduceSub]))
                  (refine AW.seq_k ?_; intro K hK)
                  (refine AW.seq_k ?_; intro K hK)
                  refine AW.region ?_
                  refine awP (op_move rfl rfl) ?_; (try simp only [evS, lcS, nzR, nzA, nzL, Nat.reduceBEq, Nat.reduceEqDiff, ↓reduceIte, Nat.reduceAdd, Nat.reduceSub])
                  (first | refine awP (op_neq rfl rfl rfl) ?_ | refine awP (op_sneq rfl rfl rfl) ?_); (try simp only [evS, lcS, nzR, nzA, nzL, Nat.reduceBEq, Nat.reduceEqDiff, ↓reduceIte, Nat.reduceAdd, Nat.reduceSub])
                  refine AWL.nil ?_
                  (refine hK _ ?_; clear hK K; (try simp only [evS, lcS, nzR, nzA, nzL, Nat.reduceBEq, Nat.reduceEqDiff, ↓reduceIte, Nat.reduceAdd, Nat.reduceSub]))
                  refine AW.cond rfl rfl rfl (fun hc => ?_) (fun hc => ?_)   -- cond 11
                  · -- true
                    (try simp only [Bool.and_eq_true, Bool.or_eq_true, Bool.or_eq_false_iff, Bool.and_eq_false_iff, decide_eq_true_eq, decide_eq_false_iff_not, Int.not_le, Int.not_lt, ge_iff_le, gt_iff_lt, Bool.not_eq_true', Bool.not_eq_false', bne_iff_ne, beq_iff_eq, bne_eq_false_iff_eq, beq_eq_false_iff_ne, ne_eq] at hc); have hc11 := hc; skip
                    (refine AW.seq_k ?_; intro K hK)
                    refine AW.region ?_
                    refine awP (op_assign rfl rfl) ?_; (try simp only [evS, lcS, nzR, nzA, nzL, Nat.reduceBEq, Nat.reduceEqDiff, ↓reduceIte, Nat.reduceAdd, Nat.reduceSub])
                    refine AWL.nil ?_
                    (refine hK _ ?_; clear hK K; (try simp only [evS, lcS, nzR, nzA, nzL, Nat.reduceBEq, Nat.reduceEqDiff, ↓reduceIte, Nat.reduceAdd, Nat.reduceSub]))
                    skip
                    refine AW.ret ?_; (try simp only [thenE, inBlk, Nat.reduceEqDiff, ↓reduceIte]); exact absurd hc (by simp)
                  · -- false
                    (try simp only [Bool.and_eq_true, Bool.or_eq_true, Bool.or_eq_false_iff, Bool.and_eq_false_iff, decide_eq_true_eq, decide_eq_false_iff_not, Int.not_le, Int.not_lt, ge_iff_le, gt_iff_lt, Bool.not_eq_true', Bool.not_eq_false', bne_iff_ne, beq_iff_eq, bne_eq_false_iff_eq, beq_eq_false_iff_ne, ne_eq] at hc); have hc11 := hc; skip
                    refine AW.skip ?_
                    (refine hK _ ?_; clear hK K; (try simp only [evS, lcS, nzR, nzA, nzL, Nat.reduceBEq, Nat.reduceEqDiff, ↓reduceIte, Nat.reduceAdd, Nat.reduceSub]))
                    refine AW.region ?_
                    refine awP (op_move rfl rfl) ?_; (try simp only [evS, lcS, nzR, nzA, nzL, Nat.reduceBEq, Nat.reduceEqDiff, ↓reduceIte, Nat.reduceAdd, Nat.reduceSub])
                    refine awP (op_move rfl rfl) ?_; (try simp only [evS, lcS, nzR, nzA, nzL, Nat.reduceBEq, Nat.reduceEqDiff, ↓reduceIte, Nat.reduceAdd, Nat.reduceSub])
                    (first | refine awR (op_load_ptr rfl rfl rfl rfl ag29 sz29 (Nat.le_of_ble_eq_true rfl) rfl) ?_ | refine awR (op_load_rop rfl rfl ag29 sz29 (Nat.le_of_ble_eq_true rfl) (by decide) rfl) ?_); (try simp only [evS, lcS, nzR, nzA, nzL, Nat.reduceBEq, Nat.reduceEqDiff, ↓reduceIte, Nat.reduceAdd, Nat.reduceSub])
                    (first | refine awP (op_ia_ro _ rfl (.inl rfl) rfl Try.underlying48 rfl (get_map (by omega)) (by exact sz29) (Nat.le_of_ble_eq_true rfl)) ?_ | refine awP (op_ia_sl _ _ rfl rfl rfl rfl Try.underlying48 rfl (by omega) (by exact sz29) rfl) ?_); (try simp only [evS, lcS, nzR, nzA, nzL, Nat.reduceBEq, Nat.reduceEqDiff, ↓reduceIte, Nat.reduceAdd, Nat.reduceSub])
                    refine awJ (op_store rfl rfl rfl rfl (get_of hqc) rfl sz29 rfl (Nat.le_of_ble_eq_true rfl) set_av) ?_; (try simp only [evS, lcS, nzR, nzA, nzL, Nat.reduceBEq, Nat.reduceEqDiff, ↓reduceIte, Nat.reduceAdd, Nat.reduceSub])
                    refine AWL.nil ?_
                    (try simp only [thenE, inBlk, Nat.reduceEqDiff, ↓reduceIte])
                    (refine hK _ ?_; clear hK K; (try simp only [evS, lcS, nzR, nzA, nzL, Nat.reduceBEq, Nat.reduceEqDiff, ↓reduceIte, Nat.reduceAdd, Nat.reduceSub]))
                    refine AW.region ?_
                    (first | refine awP (op_addi rfl rfl rfl (by omega)) ?_ | refine awP (op_add rfl rfl rfl rfl) ?_); (try simp only [evS, lcS, nzR, nzA, nzL, Nat.reduceBEq, Nat.reduceEqDiff, ↓reduceIte, Nat.reduceAdd, Nat.reduceSub])
                    refine awP (op_move rfl rfl) ?_; (try simp only [evS, lcS, nzR, nzA, nzL, Nat.reduceBEq, Nat.reduceEqDiff, ↓reduceIte, Nat.reduceAdd, Nat.reduceSub])
                    refine AWL.gh (Gh.drop 4) ?_; (try simp only [evS, lcS, nzR, nzA, nzL, Nat.reduceBEq, Nat.reduceEqDiff, ↓reduceIte, Nat.reduceAdd, Nat.reduceSub])
                    refine AWL.nil ?_
                    refine ⟨(kk + 1, _), by dsimp only; omega, by dsimp only; omega, ⟨rfl, rfl, rfl, rfl, rfl, rfl, rfl, rfl, rfl, rfl, trivial⟩, (by dsimp only; rw [yF_gt (Nat.lt_succ_self _), mF_gt (Nat.lt_succ_self _)]), (by first | rfl | trivial)⟩
            · -- false
              (try simp only [Bool.and_eq_true, Bool.or_eq_true, Bool.or_eq_false_iff, Bool.and_eq_false_iff, decide_eq_true_eq, decide_eq_false_iff_not, Int.not_le, Int.not_lt, ge_iff_le, gt_iff_lt, Bool.not_eq_true', Bool.not_eq_false', bne_iff_ne, beq_iff_eq, bne_eq_false_iff_eq, beq_eq_false_iff_ne, ne_eq] at hc); have hc7 := hc; obtain rfl : kk = xs.length := (by omega); simp only [yF_gt hql, mF_gt hql]
              refine AW.exit ?_; (try simp only [thenE, inBlk, Nat.reduceEqDiff, ↓reduceIte])   -- to 4
              clear hK K
              (refine hK _ ?_; clear hK K; (try simp only [evS, lcS, nzR, nzA, nzL, Nat.reduceBEq, Nat.reduceEqDiff, ↓reduceIte, Nat.reduceAdd, Nat.reduceSub]))
              (refine AW.seq_k ?_; intro K hK)
              refine AW.ad [(2, e + 2, .own 29 ((xs.set q (delC c p)).map Container.av)), (3, e + 3, .own 36 [(mvF p zeroP c.pieces).av])] mix rfl ?_   -- DRAWS, one after the other
              refine adP 0 rfl (fun T' ok => op_move rfl rfl) (by first | exact trivial | exact ⟨rfl, trivial⟩ | exact ⟨rfl, rfl, trivial⟩ | exact ⟨rfl, rfl, rfl, trivial⟩) (by kernel_rfl) (by kernel_rfl) ?_; (try simp only [evS, lcS, nzR, nzA, nzL, Nat.reduceBEq, Nat.reduceEqDiff, ↓reduceIte, Nat.reduceAdd, Nat.reduceSub])
              refine adP 1 rfl (fun T' ok => op_move rfl rfl) (by first | exact trivial | exact ⟨rfl, trivial⟩ | exact ⟨rfl, rfl, trivial⟩ | exact ⟨rfl, rfl, rfl, trivial⟩) (by kernel_rfl) (by kernel_rfl) ?_; (try simp only [evS, lcS, nzR, nzA, nzL, Nat.reduceBEq, Nat.reduceEqDiff, ↓reduceIte, Nat.reduceAdd, Nat.reduceSub])
              (first | refine adP 2 rfl (fun T' ok => op_ia_ro _ rfl (.inl rfl) rfl Try.underlying48 rfl (get_map (by omega)) (by exact sz29) (Nat.le_of_ble_eq_true rfl)) (by first | exact trivial | exact ⟨rfl, trivial⟩ | exact ⟨rfl, rfl, trivial⟩ | exact ⟨rfl, rfl, rfl, trivial⟩) (by kernel_rfl) (by kernel_rfl) ?_ | refine adP 2 rfl (fun T' ok => op_ia_sl _ _ rfl rfl rfl (by first | exact ok.1 | exact ok.2.1 | exact ok.2.2.1 | exact ok.2.2.2.1) Try.underlying48 rfl (by omega) (by exact sz29) rfl) (by first | exact trivial | exact ⟨rfl, trivial⟩ | exact ⟨rfl, rfl, trivial⟩ | exact ⟨rfl, rfl, rfl, trivial⟩) (by kernel_rfl) (by kernel_rfl) ?_); (try simp only [evS, lcS, nzR, nzA, nzL, Nat.reduceBEq, Nat.reduceEqDiff, ↓reduceIte, Nat.reduceAdd, Nat.reduceSub])
              (first | refine adR 3 rfl (fun T' ok => op_load_ptr rfl rfl (by first | exact ok.1 | exact ok.2.1 | exact ok.2.2.1 | exact ok.2.2.2.1) (get_of hd1) ag29 sz29 (Nat.le_of_ble_eq_true rfl) rfl) (by first | exact trivial | exact ⟨rfl, trivial⟩ | exact ⟨rfl, rfl, trivial⟩ | exact ⟨rfl, rfl, rfl, trivial⟩) (by kernel_rfl) (by kernel_rfl) ?_ | refine adR 3 rfl (fun T' ok => op_load_rop rfl rfl ag29 sz29 (Nat.le_of_ble_eq_true rfl) (by decide) rfl) (by first | exact trivial | exact ⟨rfl, trivial⟩ | exact ⟨rfl, rfl, trivial⟩ | exact ⟨rfl, rfl, rfl, trivial⟩) (by kernel_rfl) (by kernel_rfl) ?_); (try simp only [evS, lcS, nzR, nzA, nzL, Nat.reduceBEq, Nat.reduceEqDiff, ↓reduceIte, Nat.reduceAdd, Nat.reduceSub])
              (first | refine adR 4 rfl (fun T' ok => op_load_ptr rfl rfl (by first | exact ok.1 | exact ok.2.1 | exact ok.2.2.1 | exact ok.2.2.2.1) rfl ag36 sz36 (Nat.le_of_ble_eq_true rfl) rfl) (by first | exact trivial | exact ⟨rfl, trivial⟩ | exact ⟨rfl, rfl, trivial⟩ | exact ⟨rfl, rfl, rfl, trivial⟩) (by kernel_rfl) (by kernel_rfl) ?_ | refine adR 4 rfl (fun T' ok => op_load_rop rfl rfl ag36 sz36 (Nat.le_of_ble_eq_true rfl) (by decide) rfl) (by first | exact trivial | exact ⟨rfl, trivial⟩ | exact ⟨rfl, rfl, trivial⟩ | exact ⟨rfl, rfl, rfl, trivial⟩) (by kernel_rfl) (by kernel_rfl) ?_); (try simp only [evS, lcS, nzR, nzA, nzL, Nat.reduceBEq, Nat.reduceEqDiff, ↓reduceIte, Nat.reduceAdd, Nat.reduceSub])
              refine adF 5 rfl (fun T' ok => op_callS rfl en14 (C14e hd3) (RL.cons (by first | exact View.same rfl | exact View.nil | exact View.rof | exact View.src .ro | exact View.src .rof | exact View.src (.sl rfl rfl) | exact View.ptr rfl rfl rfl) (RL.cons (by first | exact View.same rfl | exact View.nil | exact View.rof | exact View.src .ro | exact View.src .rof | exact View.src (.sl rfl rfl) | exact View.ptr rfl rfl rfl) (RL.nil))) rfl rfl rfl) (by first | exact trivial | exact ⟨rfl, trivial⟩ | exact ⟨rfl, rfl, trivial⟩ | exact ⟨rfl, rfl, rfl, trivial⟩) (by kernel_rfl) (by kernel_rfl) ?_; (try simp only [evS, lcS, nzR, nzA, nzL, Nat.reduceBEq, Nat.reduceEqDiff, ↓reduceIte, Nat.reduceAdd, Nat.reduceSub])
              refine adP 6 rfl (fun T' ok => op_move rfl rfl) (by first | exact trivial | exact ⟨rfl, trivial⟩ | exact ⟨rfl, rfl, trivial⟩ | exact ⟨rfl, rfl, rfl, trivial⟩) (by kernel_rfl) (by kernel_rfl) ?_; (try simp only [evS, lcS, nzR, nzA, nzL, Nat.reduceBEq, Nat.reduceEqDiff, ↓reduceIte, Nat.reduceAdd, Nat.reduceSub])
              refine adP 7 rfl (fun T' ok => op_extract rfl rfl rfl) (by first | exact trivial | exact ⟨rfl, trivial⟩ | exact ⟨rfl, rfl, trivial⟩ | exact ⟨rfl, rfl, rfl, trivial⟩) (by kernel_rfl) (by kernel_rfl) ?_; (try simp only [evS, lcS, nzR, nzA, nzL, Nat.reduceBEq, Nat.reduceEqDiff, ↓reduceIte, Nat.reduceAdd, Nat.reduceSub])
              refine adP 8 rfl (fun T' ok => op_extract rfl rfl rfl) (by first | exact trivial | exact ⟨rfl, trivial⟩ | exact ⟨rfl, rfl, trivial⟩ | exact ⟨rfl, rfl, rfl, trivial⟩) (by kernel_rfl) (by kernel_rfl) ?_; (try simp only [evS, lcS, nzR, nzA, nzL, Nat.reduceBEq, Nat.reduceEqDiff, ↓reduceIte, Nat.reduceAdd, Nat.reduceSub])
              refine adJ 9 rfl (op_alloc rfl ze29 rfl) (by kernel_rfl) (by first | exact trivial | exact ⟨rfl, trivial⟩ | exact ⟨rfl, rfl, trivial⟩ | exact ⟨rfl, rfl, rfl, trivial⟩) ?_; (try simp only [evS, lcS, nzR, nzA, nzL, Nat.reduceBEq, Nat.reduceEqDiff, ↓reduceIte, Nat.reduceAdd, Nat.reduceSub])
              refine adJ 10 rfl (op_store rfl rfl rfl rfl rfl rfl sz29 rfl (Nat.le_of_ble_eq_true rfl) rfl) (by kernel_rfl) (by first | exact trivial | exact ⟨rfl, trivial⟩ | exact ⟨rfl, rfl, trivial⟩ | exact ⟨rfl, rfl, rfl, trivial⟩) ?_; (try simp only [evS, lcS, nzR, nzA, nzL, Nat.reduceBEq, Nat.reduceEqDiff, ↓reduceIte, Nat.reduceAdd, Nat.reduceSub])
              refine adP 11 rfl (fun T' ok => op_assign rfl rfl) (by first | exact trivial | exact ⟨rfl, trivial⟩ | exact ⟨rfl, rfl, trivial⟩ | exact ⟨rfl, rfl, rfl, trivial⟩) (by kernel_rfl) (by kernel_rfl) ?_; (try simp only [evS, lcS, nzR, nzA, nzL, Nat.reduceBEq, Nat.reduceEqDiff, ↓reduceIte, Nat.reduceAdd, Nat.reduceSub])
              refine adDone (by kernel_rfl) ?_
              (refine hK _ ?_; clear hK K; (try simp only [evS, lcS, nzR, nzA, nzL, Nat.reduceBEq, Nat.reduceEqDiff, ↓reduceIte, Nat.reduceAdd, Nat.reduceSub]))
              (refine AW.seq_k ?_; intro K hK)
              (refine AW.seq_k ?_; intro K hK)
              refine AW.region ?_
              refine awP (op_move rfl rfl) ?_; (try simp only [evS, lcS, nzR, nzA, nzL, Nat.reduceBEq, Nat.reduceEqDiff, ↓reduceIte, Nat.reduceAdd, Nat.reduceSub])
              (first | refine awP (op_neq rfl rfl rfl) ?_ | refine awP (op_sneq rfl rfl rfl) ?_); (try simp only [evS, lcS, nzR, nzA, nzL, Nat.reduceBEq, Nat.reduceEqDiff, ↓reduceIte, Nat.reduceAdd, Nat.reduceSub])
              refine AWL.nil ?_
              (refine hK _ ?_; clear hK K; (try simp only [evS, lcS, nzR, nzA, nzL, Nat.reduceBEq, Nat.reduceEqDiff, ↓reduceIte, Nat.reduceAdd, Nat.reduceSub]))
              refine AW.cond rfl rfl rfl (fun hc => ?_) (fun hc => ?_)   -- cond 12
              · -- true
                (try simp only [Bool.and_eq_true, Bool.or_eq_true, Bool.or_eq_false_iff, Bool.and_eq_false_iff, decide_eq_true_eq, decide_eq_false_iff_not, Int.not_le, Int.not_lt, ge_iff_le, gt_iff_lt, Bool.not_eq_true', Bool.not_eq_false', bne_iff_ne, beq_iff_eq, bne_eq_false_iff_eq, beq_eq_false_iff_ne, ne_eq] at hc); have hc12 := hc; skip
                (refine AW.seq_k ?_; intro K hK)
                refine AW.region ?_
                refine awP (op_assign rfl rfl) ?_; (try simp only [evS, lcS, nzR, nzA, nzL, Nat.reduceBEq, Nat.reduceEqDiff, ↓reduceIte, Nat.reduceAdd, Nat.reduceSub])
                refine AWL.nil ?_
                (refine hK _ ?_; clear hK K; (try simp only [evS, lcS, nzR, nzA, nzL, Nat.reduceBEq, Nat.reduceEqDiff, ↓reduceIte, Nat.reduceAdd, Nat.reduceSub]))
                skip
                refine AW.ret ?_; (try simp only [thenE, inBlk, Nat.reduceEqDiff, ↓reduceIte]); exact absurd hc (by simp)
              · -- false
                (try simp only [Bool.and_eq_true, Bool.or_eq_true, Bool.or_eq_false_iff, Bool.and_eq_false_iff, decide_eq_true_eq, decide_eq_false_iff_not, Int.not_le, Int.not_lt, ge_iff_le, gt_iff_lt, Bool.not_eq_true', Bool.not_eq_false', bne_iff_ne, beq_iff_eq, bne_eq_false_iff_eq, beq_eq_false_iff_ne, ne_eq] at hc); have hc12 := hc; skip
                refine AW.skip ?_
                (refine hK _ ?_; clear hK K; (try simp only [evS, lcS, nzR, nzA, nzL, Nat.reduceBEq, Nat.reduceEqDiff, ↓reduceIte, Nat.reduceAdd, Nat.reduceSub]))
                (refine AW.seq_k ?_; intro K hK)
                refine AW.region ?_
                refine awP (op_move rfl rfl) ?_; (try simp only [evS, lcS, nzR, nzA, nzL, Nat.reduceBEq, Nat.reduceEqDiff, ↓reduceIte, Nat.reduceAdd, Nat.reduceSub])
                refine awP (op_move rfl rfl) ?_; (try simp only [evS, lcS, nzR, nzA, nzL, Nat.reduceBEq, Nat.reduceEqDiff, ↓reduceIte, Nat.reduceAdd, Nat.reduceSub])
                (first | refine awR (op_load_ptr rfl rfl rfl rfl ag29 sz29 (Nat.le_of_ble_eq_true rfl) rfl) ?_ | refine awR (op_load_rop rfl rfl ag29 sz29 (Nat.le_of_ble_eq_true rfl) (by decide) rfl) ?_); (try simp only [evS, lcS, nzR, nzA, nzL, Nat.reduceBEq, Nat.reduceEqDiff, ↓reduceIte, Nat.reduceAdd, Nat.reduceSub])
                (first | refine awP (op_ia_ro _ rfl (.inl rfl) rfl Try.underlying48 rfl (get_map (by omega)) (by exact sz29) (Nat.le_of_ble_eq_true rfl)) ?_ | refine awP (op_ia_sl _ _ rfl rfl rfl rfl Try.underlying48 rfl (by omega) (by exact sz29) rfl) ?_); (try simp only [evS, lcS, nzR, nzA, nzL, Nat.reduceBEq, Nat.reduceEqDiff, ↓reduceIte, Nat.reduceAdd, Nat.reduceSub])
                refine awJ (op_store rfl rfl rfl rfl (get_of hd1) rfl sz29 rfl (Nat.le_of_ble_eq_true rfl) set_av) ?_; (try simp only [evS, lcS, nzR, nzA, nzL, Nat.reduceBEq, Nat.reduceEqDiff, ↓reduceIte, Nat.reduceAdd, Nat.reduceSub]); refine AWL.gh (Gh.freeze 12 (Nat.le_of_ble_eq_true rfl) rfl rfl (cav_flat _) (es' := ((xs.set q (delC c p)).set (idxV (l.take 2000) k xs.length) (insC d (mvF p zeroP c.pieces))).map Container.av) (List.take_of_length_le (by simp))) ?_; (try simp only [evS, lcS, nzR, nzA, nzL, Nat.reduceBEq, Nat.reduceEqDiff, ↓reduceIte, Nat.reduceAdd, Nat.reduceSub])
                refine AWL.nil ?_
                (refine hK _ ?_; clear hK K; (try simp only [evS, lcS, nzR, nzA, nzL, Nat.reduceBEq, Nat.reduceEqDiff, ↓reduceIte, Nat.reduceAdd, Nat.reduceSub]))
                (refine AW.seq_k ?_; intro K hK)
                refine AW.region ?_
                refine awP (op_move rfl rfl) ?_; (try simp only [evS, lcS, nzR, nzA, nzL, Nat.reduceBEq, Nat.reduceEqDiff, ↓reduceIte, Nat.reduceAdd, Nat.reduceSub])
                (first | refine awR (op_load_ptr rfl rfl rfl rfl ag33 sz33 (Nat.le_of_ble_eq_true rfl) rfl) ?_ | refine awR (op_load_rop rfl rfl ag33 sz33 (Nat.le_of_ble_eq_true rfl) (by decide) rfl) ?_); (try simp only [evS, lcS, nzR, nzA, nzL, Nat.reduceBEq, Nat.reduceEqDiff, ↓reduceIte, Nat.reduceAdd, Nat.reduceSub])
                refine awJ (op_call (b := false) rfl en36 (C36 (xs := ((xs.set q (delC c p)).set (idxV (l.take 2000) k xs.length) (insC d (mvF p zeroP c.pieces)))) (p := p) (by simp; omega) (fun c hc => by have := (val_inv (hd5.val c hc)).2.1; omega)) (RL.cons (by first | exact View.same rfl | exact View.nil | exact View.rof | exact View.src .ro | exact View.src .rof | exact View.src (.sl rfl rfl) | exact View.ptr rfl rfl rfl) (RL.cons (by first | exact View.same rfl | exact View.nil | exact View.rof | exact View.src .ro | exact View.src .rof | exact View.src (.sl rfl rfl) | exact View.ptr rfl rfl rfl) (RL.nil))) rfl (fun h => by cases h) rfl rfl) ?_; (try simp only [evS, lcS, nzR, nzA, nzL, Nat.reduceBEq, Nat.reduceEqDiff, ↓reduceIte, Nat.reduceAdd, Nat.reduceSub])
                refine awP (op_move rfl rfl) ?_; (try simp only [evS, lcS, nzR, nzA, nzL, Nat.reduceBEq, Nat.reduceEqDiff, ↓reduceIte, Nat.reduceAdd, Nat.reduceSub])
                refine awP (op_extract rfl rfl rfl) ?_; (try simp only [evS, lcS, nzR, nzA, nzL, Nat.reduceBEq, Nat.reduceEqDiff, ↓reduceIte, Nat.reduceAdd, Nat.reduceSub])
                refine awP (op_extract rfl rfl rfl) ?_; (try simp only [evS, lcS, nzR, nzA, nzL, Nat.reduceBEq, Nat.reduceEqDiff, ↓reduceIte, Nat.reduceAdd, Nat.reduceSub])
                refine awP (op_assign rfl rfl) ?_; (try simp only [evS, lcS, nzR, nzA, nzL, Nat.reduceBEq, Nat.reduceEqDiff, ↓reduceIte, Nat.reduceAdd, Nat.reduceSub])
                refine awP (op_assign rfl rfl) ?_; (try simp only [evS, lcS, nzR, nzA, nzL, Nat.reduceBEq, Nat.reduceEqDiff, ↓reduceIte, Nat.reduceAdd, Nat.reduceSub])
                refine AWL.nil ?_
                (refine hK _ ?_; clear hK K; (try simp only [evS, lcS, nzR, nzA, nzL, Nat.reduceBEq, Nat.reduceEqDiff, ↓reduceIte, Nat.reduceAdd, Nat.reduceSub]))
                (refine AW.seq_k ?_; intro K hK)
                refine AW.region (AWL.quiet ?_)
                refine aqP (op_move rfl rfl) ?_; (try simp only [evS, lcS, nzR, nzA, nzL, Nat.reduceBEq, Nat.reduceEqDiff, ↓reduceIte, Nat.reduceAdd, Nat.reduceSub])
                refine aqP (op_not rfl rfl rfl) ?_; (try simp only [evS, lcS, nzR, nzA, nzL, Nat.reduceBEq, Nat.reduceEqDiff, ↓reduceIte, Nat.reduceAdd, Nat.reduceSub])
                refine aqP (op_move rfl rfl) ?_; (try simp only [evS, lcS, nzR, nzA, nzL, Nat.reduceBEq, Nat.reduceEqDiff, ↓reduceIte, Nat.reduceAdd, Nat.reduceSub])
                refine' aqOr' [_, _, _, _, _, _, _] [149,150,151,152,153,154,155] rfl rfl rfl rfl rfl rfl rfl rfl rfl rfl rfl rfl (fun hb => ?_) ?_; rotate_left
                · -- segment
                  (try simp only [Bool.and_eq_true, Bool.or_eq_true, Bool.or_eq_false_iff, Bool.and_eq_false_iff, decide_eq_true_eq, decide_eq_false_iff_not, Int.not_le, Int.not_lt, ge_iff_le, gt_iff_lt, Bool.not_eq_true', Bool.not_eq_false', bne_iff_ne, beq_iff_eq, bne_eq_false_iff_eq, beq_eq_false_iff_ne, ne_eq] at hb)
                  refine aqP (op_move rfl rfl) ?_; (try simp only [evS, lcS, nzR, nzA, nzL, Nat.reduceBEq, Nat.reduceEqDiff, ↓reduceIte, Nat.reduceAdd, Nat.reduceSub])
                  refine aqP (op_move rfl rfl) ?_; (try simp only [evS, lcS, nzR, nzA, nzL, Nat.reduceBEq, Nat.reduceEqDiff, ↓reduceIte, Nat.reduceAdd, Nat.reduceSub])
                  refine aqP (op_move rfl rfl) ?_; (try simp only [evS, lcS, nzR, nzA, nzL, Nat.reduceBEq, Nat.reduceEqDiff, ↓reduceIte, Nat.reduceAdd, Nat.reduceSub])
                  (first | refine aqP (op_ia_ro _ rfl (.inl rfl) rfl Try.underlying48 rfl (get_map (by omega)) (by exact sz29) (Nat.le_of_ble_eq_true rfl)) ?_ | refine aqP (op_ia_sl _ _ rfl rfl rfl rfl Try.underlying48 rfl (by omega) (by exact sz29) rfl) ?_); (try simp only [evS, lcS, nzR, nzA, nzL, Nat.reduceBEq, Nat.reduceEqDiff, ↓reduceIte, Nat.reduceAdd, Nat.reduceSub])
                  (first | refine aqP (op_fa_ptr rfl rfl rfl fl29_0 (by exact sz3) (by decide) rfl) ?_ | refine aqP (op_fa_rop rfl rfl fl29_0 (by exact sz3) (by decide) (Nat.le_of_ble_eq_true rfl) rfl) ?_); (try simp only [evS, lcS, nzR, nzA, nzL, Nat.reduceBEq, Nat.reduceEqDiff, ↓reduceIte, Nat.reduceAdd, Nat.reduceSub])
                  (first | refine aqR (op_load_ptr1 rfl rfl rfl rfl ag3 rfl rfl) ?_ | refine aqR (op_load_rop1 rfl rfl ag3) ?_); (try simp only [evS, lcS, nzR, nzA, nzL, Nat.reduceBEq, Nat.reduceEqDiff, ↓reduceIte, Nat.reduceAdd, Nat.reduceSub])
                  (first | refine aqP (op_neq rfl rfl rfl) ?_ | refine aqP (op_sneq rfl rfl rfl) ?_); (try simp only [evS, lcS, nzR, nzA, nzL, Nat.reduceBEq, Nat.reduceEqDiff, ↓reduceIte, Nat.reduceAdd, Nat.reduceSub])
                  (refine aqSeg rfl rfl rfl ?_; repeat (first | exact fun _ _ => rfl | refine upd_out rfl ?_ | refine era_out rfl ?_))
                (try simp only [evS, lcS, nzR, nzA, nzL, Nat.reduceBEq, Nat.reduceEqDiff, ↓reduceIte, Nat.reduceAdd, Nat.reduceSub])
                refine aqP (op_move rfl rfl) ?_; (try simp only [evS, lcS, nzR, nzA, nzL, Nat.reduceBEq, Nat.reduceEqDiff, ↓reduceIte, Nat.reduceAdd, Nat.reduceSub])
                refine' aqOr' [_, _, _] [158,159,160] rfl rfl rfl rfl rfl rfl rfl rfl rfl rfl rfl rfl (fun hb => ?_) ?_; rotate_left
                · -- segment
                  (try simp only [Bool.and_eq_true, Bool.or_eq_true, Bool.or_eq_false_iff, Bool.and_eq_false_iff, decide_eq_true_eq, decide_eq_false_iff_not, Int.not_le, Int.not_lt, ge_iff_le, gt_iff_lt, Bool.not_eq_true', Bool.not_eq_false', bne_iff_ne, beq_iff_eq, bne_eq_false_iff_eq, beq_eq_false_iff_ne, ne_eq] at hb)
                  refine aqP (op_move rfl rfl) ?_; (try simp only [evS, lcS, nzR, nzA, nzL, Nat.reduceBEq, Nat.reduceEqDiff, ↓reduceIte, Nat.reduceAdd, Nat.reduceSub])
                  refine aqQ (op_callQ (b := true) rfl en33 (C33 (xs := ((xs.set q (delC c p)).set (idxV (l.take 2000) k xs.length) (insC d (mvF p zeroP c.pieces)))) (by simp; omega)) (RL.cons (by first | exact View.same rfl | exact View.nil | exact View.rof | exact View.src .ro | exact View.src .rof | exact View.src (.sl rfl rfl) | exact View.ptr rfl rfl rfl) (RL.nil)) rfl) ?_; (try simp only [evS, lcS, nzR, nzA, nzL, Nat.reduceBEq, Nat.reduceEqDiff, ↓reduceIte, Nat.reduceAdd, Nat.reduceSub])
                  (first | refine aqP (op_neq rfl rfl rfl) ?_ | refine aqP (op_sneq rfl rfl rfl) ?_); (try simp only [evS, lcS, nzR, nzA, nzL, Nat.reduceBEq, Nat.reduceEqDiff, ↓reduceIte, Nat.reduceAdd, Nat.reduceSub])
                  (refine aqSeg rfl rfl rfl ?_; repeat (first | exact fun _ _ => rfl | refine upd_out rfl ?_ | refine era_out rfl ?_))
                (try simp only [evS, lcS, nzR, nzA, nzL, Nat.reduceBEq, Nat.reduceEqDiff, ↓reduceIte, Nat.reduceAdd, Nat.reduceSub])
                refine AQ.nil ?_
                (refine hK _ ?_; clear hK K; (try simp only [evS, lcS, nzR, nzA, nzL, Nat.reduceBEq, Nat.reduceEqDiff, ↓reduceIte, Nat.reduceAdd, Nat.reduceSub]))
                refine AW.cond rfl rfl rfl (fun hc => ?_) (fun hc => ?_)   -- cond 13
                · -- true
                  (try simp only [Bool.and_eq_true, Bool.or_eq_true, Bool.or_eq_false_iff, Bool.and_eq_false_iff, decide_eq_true_eq, decide_eq_false_iff_not, Int.not_le, Int.not_lt, ge_iff_le, gt_iff_lt, Bool.not_eq_true', Bool.not_eq_false', bne_iff_ne, beq_iff_eq, bne_eq_false_iff_eq, beq_eq_false_iff_ne, ne_eq] at hc); have hc13 := hc; skip
                  (refine AW.seq_k ?_; intro K hK)
                  refine AW.region ?_
                  refine awP (op_assign rfl rfl) ?_; (try simp only [evS, lcS, nzR, nzA, nzL, Nat.reduceBEq, Nat.reduceEqDiff, ↓reduceIte, Nat.reduceAdd, Nat.reduceSub])
                  refine AWL.nil ?_
                  (refine hK _ ?_; clear hK K; (try simp only [evS, lcS, nzR, nzA, nzL, Nat.reduceBEq, Nat.reduceEqDiff, ↓reduceIte, Nat.reduceAdd, Nat.reduceSub]))
                  skip
                  refine AW.ret ?_; (try simp only [thenE, inBlk, Nat.reduceEqDiff, ↓reduceIte]); exfalso; rw [hd4] at hc; simp [hd5.chk (by simp; omega), (List.getElem?_eq_some_iff.1 hct).2] at hc
                · -- false
                  (try simp only [Bool.and_eq_true, Bool.or_eq_true, Bool.or_eq_false_iff, Bool.and_eq_false_iff, decide_eq_true_eq, decide_eq_false_iff_not, Int.not_le, Int.not_lt, ge_iff_le, gt_iff_lt, Bool.not_eq_true', Bool.not_eq_false', bne_iff_ne, beq_iff_eq, bne_eq_false_iff_eq, beq_eq_false_iff_ne, ne_eq] at hc); have hc13 := hc; skip
                  refine AW.skip ?_
                  (try simp only [thenE, inBlk, Nat.reduceEqDiff, ↓reduceIte])
                  (refine hK _ ?_; clear hK K; (try simp only [evS, lcS, nzR, nzA, nzL, Nat.reduceBEq, Nat.reduceEqDiff, ↓reduceIte, Nat.reduceAdd, Nat.reduceSub]))
                  refine AW.region ?_
                  refine awP (op_move rfl rfl) ?_; (try simp only [evS, lcS, nzR, nzA, nzL, Nat.reduceBEq, Nat.reduceEqDiff, ↓reduceIte, Nat.reduceAdd, Nat.reduceSub])
                  (first | refine awP (op_addi rfl rfl rfl (by omega)) ?_ | refine awP (op_add rfl rfl rfl rfl) ?_); (try simp only [evS, lcS, nzR, nzA, nzL, Nat.reduceBEq, Nat.reduceEqDiff, ↓reduceIte, Nat.reduceAdd, Nat.reduceSub])
                  refine awP (op_assign rfl rfl) ?_; (try simp only [evS, lcS, nzR, nzA, nzL, Nat.reduceBEq, Nat.reduceEqDiff, ↓reduceIte, Nat.reduceAdd, Nat.reduceSub])
                  refine AWL.gh (Gh.drop 1) ?_; (try simp only [evS, lcS, nzR, nzA, nzL, Nat.reduceBEq, Nat.reduceEqDiff, ↓reduceIte, Nat.reduceAdd, Nat.reduceSub])
                  refine AWL.nil ?_
                  refine ⟨(i + 1, rawN (l.take 2000) k, _), by dsimp only; omega, by dsimp only; omega, ⟨rfl, rfl, rfl, trivial⟩, (by first | rfl | trivial), (by first | rfl | trivial)⟩
    · -- false
      (try simp only [Bool.and_eq_true, Bool.or_eq_true, Bool.or_eq_false_iff, Bool.and_eq_false_iff, decide_eq_true_eq, decide_eq_false_iff_not, Int.not_le, Int.not_lt, ge_iff_le, gt_iff_lt, Bool.not_eq_true', Bool.not_eq_false', bne_iff_ne, beq_iff_eq, bne_eq_false_iff_eq, beq_eq_false_iff_ne, ne_eq] at hc); have hc2 := hc; skip
      refine AW.exit ?_; (try simp only [thenE, inBlk, Nat.reduceEqDiff, ↓reduceIte])   -- to 0
      clear hK K
      (refine hK _ ?_; clear hK K; (try simp only [evS, lcS, nzR, nzA, nzL, Nat.reduceBEq, Nat.reduceEqDiff, ↓reduceIte, Nat.reduceAdd, Nat.reduceSub]))
      (refine AW.seq_k ?_; intro K hK)
      refine AW.region ?_
      refine awJ (OpQ.j (op_callQ (b := true) rfl en17 (C17) (RL.nil) rfl)) ?_; (try simp only [evS, lcS, nzR, nzA, nzL, Nat.reduceBEq, Nat.reduceEqDiff, ↓reduceIte, Nat.reduceAdd, Nat.reduceSub])
      refine awP (op_assign rfl rfl) ?_; (try simp only [evS, lcS, nzR, nzA, nzL, Nat.reduceBEq, Nat.reduceEqDiff, ↓reduceIte, Nat.reduceAdd, Nat.reduceSub])
      refine AWL.nil ?_
      (refine hK _ ?_; clear hK K; (try simp only [evS, lcS, nzR, nzA, nzL, Nat.reduceBEq, Nat.reduceEqDiff, ↓reduceIte, Nat.reduceAdd, Nat.reduceSub]))
      skip
      refine AW.ret ?_; (try simp only [thenE, inBlk, Nat.reduceEqDiff, ↓reduceIte]); exact RQ.of0 rfl (.tmp (Nat.le_of_ble_eq_true rfl) rfl rfl .nil)
end Go.Proofs.Ytngfknoddphhaaa
