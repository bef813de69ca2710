import Derived.Test.YtngfknoddphhaaaMg
namespace Go.Proofs.Ytngfknoddphhaaa
open Go.RowKit
set_option linter.unusedSimpArgs false
set_option linter.unusedVariables false

theorem run_neq33 (p q : Plate) (w : World) : (binOp .neq 33 (.agg #[.int .i64 p.lead, .int .i64 p.airline, .int .i64 p.serial]) (.agg #[.int .i64 q.lead, .int .i64 q.airline, .int .i64 q.serial])).run Try.prog w = .ok (.bool (!decide (p = q))) w := by
  obtain ⟨a, b, c⟩ := p
  obtain ⟨a', b', c'⟩ := q
  unfold binOp
  simp only [Op.equal]
  rw [Sem.run_bind, show Op.maxDepth = 9998 + 1 + 1 from rfl, run_equalIn_struct w _ 33 _ _ fo33 st33]
  unfold Program.fieldsOf; rw [Try.underlying33]
  simp only [Op.eqFields]
  go_simp
  by_cases h1 : a = a' <;> by_cases h2 : b = b' <;> by_cases h3 : c = c' <;> simp [h1, h2, h3]
theorem run_tyn33 (p q : Operand) (x y : Array Value) (w : World) : (eqGuard .neq 33 p q (.agg x) (.agg y)).run Try.prog w = .ok () w := by
  unfold eqGuard
  simp [ty33, run_program]
section
variable {S0 : Nat → Prop} {own0 : List Nat} {v0 : List Value} {w0 : World} {o : Oper} {ev : Operand → AV} {T : Sl} {yt : TypeId} {y z : Operand}
theorem op_neq33 {p q : Plate} (ho : o.op = .binOp .neq 33 y z yt) (hy : ev y = .agg p.av) (hz : ev z = .agg q.av) : OpP ⟨Try.prog, S0, own0, v0, w0⟩ o ev T (.v (.bool (!decide (p = q)))) :=
  op_bin_agg (xs := [.int .i64 p.lead, .int .i64 p.airline, .int .i64 p.serial]) (ys := [.int .i64 q.lead, .int .i64 q.airline, .int .i64 q.serial]) ho hy hz (fun w => run_tyn33 _ _ _ _ w) (fun w => run_neq33 p q w) rfl
end
def noL (l : List Piece) (p : Plate) : List Piece := l.filter fun x => decide (x.plate ≠ p)
theorem noL_del {l : List Piece} {p : Plate} (ha : AscP l) (hh : hasB l p = true) : noL l p = delL l p := by
  obtain ⟨x, hx, rfl⟩ := hasB_iff.1 hh
  have h1 : (noL l x.plate).Perm (delL l x.plate) := by
    have h2 : (noL l x.plate).Perm (noL (x :: delL l x.plate) x.plate) := (del_perm ha hx).filter _
    have h3 : noL (x :: delL l x.plate) x.plate = delL l x.plate := by
      unfold noL
      rw [List.filter_cons_of_neg (by simp), List.filter_eq_self.2]
      intro y hy
      simpa using hasB_no.1 (del_no ha hx) y hy
    rwa [h3] at h2
  exact ascP_perm (ha.sublist List.filter_sublist) (ha.sublist (delL_sub _ _)) h1
theorem noL_yes {l : List Piece} {p : Plate} {i : Nat} (h : i < l.length) (hn : l[i].plate ≠ p) : noL (l.take (i + 1)) p = noL (l.take i) p ++ [l[i]] := by
  unfold noL
  rw [List.take_add_one, List.getElem?_eq_getElem h, List.filter_append]
  simp [hn]
theorem noL_no {l : List Piece} {p : Plate} {i : Nat} (h : i < l.length) (hn : l[i].plate = p) : noL (l.take (i + 1)) p = noL (l.take i) p := by
  unfold noL
  rw [List.take_add_one, List.getElem?_eq_getElem h, List.filter_append]
  simp [hn]
theorem noL_len (l : List Piece) (p : Plate) : (noL l p).length ≤ l.length := List.length_filter_le _ _
theorem C28 {c : Container} {p : Plate} : Fn Try.prog 28 [] [.agg c.av, .agg p.av] [.agg (remC c p).1.av, .v (.int .i64 (remC c p).2)] [] := by
  refine Spec.body Try.func28 rfl Try.ntmps28 (by simp) rfl ?_; intro S0 own0 v0 w0
  (refine AW.seq_k ?_; intro K hK)
  refine AW.region ?_
  refine awJ (op_box rfl rfl rfl sz29 rfl) ?_; (try simp only [evS, lcS, nzR, nzA, nzL, Nat.reduceBEq, Nat.reduceEqDiff, ↓reduceIte, Nat.reduceAdd, Nat.reduceSub])
  refine awJ (op_box rfl rfl rfl sz33 rfl) ?_; (try simp only [evS, lcS, nzR, nzA, nzL, Nat.reduceBEq, Nat.reduceEqDiff, ↓reduceIte, Nat.reduceAdd, Nat.reduceSub])
  refine awJ (op_alloc rfl ze29 rfl) ?_; (try simp only [evS, lcS, nzR, nzA, nzL, Nat.reduceBEq, Nat.reduceEqDiff, ↓reduceIte, Nat.reduceAdd, Nat.reduceSub])
  refine awP (op_assign rfl rfl) ?_
  refine AWL.nil ?_
  (refine hK _ ?_; clear hK K; (try simp only [evS, lcS, nzR, nzA, nzL, Nat.reduceBEq, Nat.reduceEqDiff, ↓reduceIte, Nat.reduceAdd, Nat.reduceSub]))
  (refine AW.seq_k ?_; intro K hK)
  (refine AW.seq_k ?_; intro K hK)
  refine AW.region ?_
  (first | refine awR (op_load_ptr rfl rfl rfl rfl ag29 sz29 (Nat.le_of_ble_eq_true rfl) rfl) ?_ | refine awR (op_load_rop rfl rfl ag29 sz29 (Nat.le_of_ble_eq_true rfl) (by decide) rfl) ?_)
  refine awJ (OpQ.j (op_callQ (b := true) rfl en39 (C39 (c := c)) (RL.cons (by first | exact View.same rfl | exact View.nil | exact View.rof | exact View.src .ro | exact View.src .rof | exact View.src (.sl rfl rfl) | exact View.ptr rfl rfl rfl) (RL.nil)) rfl)) ?_; (try simp only [evS, lcS, nzR, nzA, nzL, Nat.reduceBEq, Nat.reduceEqDiff, ↓reduceIte, Nat.reduceAdd, Nat.reduceSub])
  refine awP (op_assign rfl rfl) ?_
  refine AWL.nil ?_
  (refine hK _ ?_; clear hK K; (try simp only [evS, lcS, nzR, nzA, nzL, Nat.reduceBEq, Nat.reduceEqDiff, ↓reduceIte, Nat.reduceAdd, Nat.reduceSub]))
  (refine AW.seq_k ?_; intro K hK)
  refine AW.region ?_
  refine awP (op_move rfl rfl) ?_
  (first | refine awP (op_neq rfl rfl rfl) ?_ | refine awP (op_sneq rfl rfl rfl) ?_)
  refine AWL.nil ?_
  (refine hK _ ?_; clear hK K; (try simp only [evS, lcS, nzR, nzA, nzL, Nat.reduceBEq, Nat.reduceEqDiff, ↓reduceIte, Nat.reduceAdd, Nat.reduceSub]))
  refine AW.cond rfl rfl rfl (fun hc => ?_) (fun hc => ?_)   -- cond 1
  · -- true
    (try simp only [Bool.and_eq_true, Bool.or_eq_true, Bool.or_eq_false_iff, Bool.and_eq_false_iff, decide_eq_true_eq, decide_eq_false_iff_not, Int.not_le, Int.not_lt, ge_iff_le, gt_iff_lt, Bool.not_eq_true', Bool.not_eq_false', bne_iff_ne, beq_iff_eq, bne_eq_false_iff_eq, beq_eq_false_iff_ne, ne_eq] at hc); have hc1 := hc; skip
    (refine AW.seq_k ?_; intro K hK)
    refine AW.region ?_
    refine awP (op_build2 (xs := [.v (.int .i64 0), .v (.string ⟨#[]⟩), .v (.int .i64 0), .v (.string ⟨#[]⟩), .v (.int .i64 0), .v (.int .i64 0), .v (.int .i64 0), .v (.int .i64 0), .v (.int .i64 0), .v (.int .i64 0), .v (.slice none 0 0)]) rfl pl29 ze29 [] rfl rfl rfl) ?_
    refine awP (op_move rfl rfl) ?_
    refine awJ (op_store rfl rfl rfl rfl rfl rfl sz29 rfl (Nat.le_of_ble_eq_true rfl) rfl) ?_; (try simp only [evS, lcS, nzR, nzA, nzL, Nat.reduceBEq, Nat.reduceEqDiff, ↓reduceIte, Nat.reduceAdd, Nat.reduceSub])
    refine awP (op_assign rfl rfl) ?_
    refine AWL.nil ?_
    (refine hK _ ?_; clear hK K; (try simp only [evS, lcS, nzR, nzA, nzL, Nat.reduceBEq, Nat.reduceEqDiff, ↓reduceIte, Nat.reduceAdd, Nat.reduceSub]))
    refine AW.gh (Gh.slot (r := 2) (es' := [zeroC.av]) rfl rfl zero_le) ?_; (try simp only [evS, lcS, nzR, nzA, nzL, Nat.reduceBEq, Nat.reduceEqDiff, ↓reduceIte, Nat.reduceAdd, Nat.reduceSub])
    refine AW.ret ?_; (try simp only [thenE, inBlk, Nat.reduceEqDiff, ↓reduceIte]); have he : remC c p = (zeroC, valC c) := (by unfold remC; rw [if_pos (by simpa using hc)]); rw [he]; exact RQ.of0 rfl (.cell (Nat.le_of_ble_eq_true rfl) rfl rfl rfl ag29 sz29 (Nat.le_of_ble_eq_true rfl) rfl rfl (.tmp (Nat.le_of_ble_eq_true rfl) rfl rfl .nil))
  · -- false
    (try simp only [Bool.and_eq_true, Bool.or_eq_true, Bool.or_eq_false_iff, Bool.and_eq_false_iff, decide_eq_true_eq, decide_eq_false_iff_not, Int.not_le, Int.not_lt, ge_iff_le, gt_iff_lt, Bool.not_eq_true', Bool.not_eq_false', bne_iff_ne, beq_iff_eq, bne_eq_false_iff_eq, beq_eq_false_iff_ne, ne_eq] at hc); have hc1 := hc; have hv := val_inv (c := c) (by simpa using hc1); have hv0 : valC c = 0 := (by simpa using hc1); have hfh := found_has (p := p) (val_asc hv0)
    refine AW.skip ?_
    (refine hK _ ?_; clear hK K; (try simp only [evS, lcS, nzR, nzA, nzL, Nat.reduceBEq, Nat.reduceEqDiff, ↓reduceIte, Nat.reduceAdd, Nat.reduceSub]))
    (refine AW.seq_k ?_; intro K hK)
    (refine AW.seq_k ?_; intro K hK)
    refine AW.region ?_
    (first | refine awR (op_load_ptr rfl rfl rfl rfl ag29 sz29 (Nat.le_of_ble_eq_true rfl) rfl) ?_ | refine awR (op_load_rop rfl rfl ag29 sz29 (Nat.le_of_ble_eq_true rfl) (by decide) rfl) ?_)
    (first | refine awR (op_load_ptr rfl rfl rfl rfl ag33 sz33 (Nat.le_of_ble_eq_true rfl) rfl) ?_ | refine awR (op_load_rop rfl rfl ag33 sz33 (Nat.le_of_ble_eq_true rfl) (by decide) rfl) ?_)
    refine awJ (OpQ.j (op_callQ (b := true) rfl en38 (C38 (c := c) (p := p) (by omega)) (RL.cons (by first | exact View.same rfl | exact View.nil | exact View.rof | exact View.src .ro | exact View.src .rof | exact View.src (.sl rfl rfl) | exact View.ptr rfl rfl rfl) (RL.cons (by first | exact View.same rfl | exact View.nil | exact View.rof | exact View.src .ro | exact View.src .rof | exact View.src (.sl rfl rfl) | exact View.ptr rfl rfl rfl) (RL.nil))) rfl)) ?_; (try simp only [evS, lcS, nzR, nzA, nzL, Nat.reduceBEq, Nat.reduceEqDiff, ↓reduceIte, Nat.reduceAdd, Nat.reduceSub])
    refine awP (op_not rfl rfl rfl) ?_
    refine AWL.nil ?_
    (refine hK _ ?_; clear hK K; (try simp only [evS, lcS, nzR, nzA, nzL, Nat.reduceBEq, Nat.reduceEqDiff, ↓reduceIte, Nat.reduceAdd, Nat.reduceSub]))
    refine AW.cond rfl rfl rfl (fun hc => ?_) (fun hc => ?_)   -- cond 2
    · -- true
      (try simp only [Bool.and_eq_true, Bool.or_eq_true, Bool.or_eq_false_iff, Bool.and_eq_false_iff, decide_eq_true_eq, decide_eq_false_iff_not, Int.not_le, Int.not_lt, ge_iff_le, gt_iff_lt, Bool.not_eq_true', Bool.not_eq_false', bne_iff_ne, beq_iff_eq, bne_eq_false_iff_eq, beq_eq_false_iff_ne, ne_eq] at hc); have hc2 := hc; skip
      (refine AW.seq_k ?_; intro K hK)
      refine AW.region ?_
      refine awP (op_build2 (xs := [.v (.int .i64 0), .v (.string ⟨#[]⟩), .v (.int .i64 0), .v (.string ⟨#[]⟩), .v (.int .i64 0), .v (.int .i64 0), .v (.int .i64 0), .v (.int .i64 0), .v (.int .i64 0), .v (.int .i64 0), .v (.slice none 0 0)]) rfl pl29 ze29 [] rfl rfl rfl) ?_
      refine awJ (op_store rfl rfl rfl rfl rfl rfl sz29 rfl (Nat.le_of_ble_eq_true rfl) rfl) ?_; (try simp only [evS, lcS, nzR, nzA, nzL, Nat.reduceBEq, Nat.reduceEqDiff, ↓reduceIte, Nat.reduceAdd, Nat.reduceSub])
      refine awP (op_assign rfl rfl) ?_
      refine AWL.nil ?_
      (refine hK _ ?_; clear hK K; (try simp only [evS, lcS, nzR, nzA, nzL, Nat.reduceBEq, Nat.reduceEqDiff, ↓reduceIte, Nat.reduceAdd, Nat.reduceSub]))
      refine AW.gh (Gh.slot (r := 2) (es' := [zeroC.av]) rfl rfl zero_le) ?_; (try simp only [evS, lcS, nzR, nzA, nzL, Nat.reduceBEq, Nat.reduceEqDiff, ↓reduceIte, Nat.reduceAdd, Nat.reduceSub])
      refine AW.ret ?_; (try simp only [thenE, inBlk, Nat.reduceEqDiff, ↓reduceIte]); have he : remC c p = (zeroC, 6) := (by unfold remC; rw [if_neg (by simp [hv0]), hfh, if_pos (by simpa using hc)]); rw [he]; exact RQ.of0 rfl (.cell (Nat.le_of_ble_eq_true rfl) rfl rfl rfl ag29 sz29 (Nat.le_of_ble_eq_true rfl) rfl rfl (.tmp (Nat.le_of_ble_eq_true rfl) rfl rfl .nil))
    · -- false
      (try simp only [Bool.and_eq_true, Bool.or_eq_true, Bool.or_eq_false_iff, Bool.and_eq_false_iff, decide_eq_true_eq, decide_eq_false_iff_not, Int.not_le, Int.not_lt, ge_iff_le, gt_iff_lt, Bool.not_eq_true', Bool.not_eq_false', bne_iff_ne, beq_iff_eq, bne_eq_false_iff_eq, beq_eq_false_iff_ne, ne_eq] at hc); have hc2 := hc; skip
      refine AW.skip ?_
      (refine hK _ ?_; clear hK K; (try simp only [evS, lcS, nzR, nzA, nzL, Nat.reduceBEq, Nat.reduceEqDiff, ↓reduceIte, Nat.reduceAdd, Nat.reduceSub]))
      (refine AW.seq_k ?_; intro K hK)
      refine AW.region ?_
      refine awP (op_assign rfl rfl) ?_
      refine AWL.nil ?_
      (refine hK _ ?_; clear hK K; (try simp only [evS, lcS, nzR, nzA, nzL, Nat.reduceBEq, Nat.reduceEqDiff, ↓reduceIte, Nat.reduceAdd, Nat.reduceSub]))
      (refine AW.seq_k ?_; intro K hK)
      (refine AW.seq_k ?_; intro K hK)
      refine AW.region ?_
      refine awP (op_assign rfl rfl) ?_
      refine AWL.nil ?_
      (refine hK _ ?_; clear hK K; (try simp only [evS, lcS, nzR, nzA, nzL, Nat.reduceBEq, Nat.reduceEqDiff, ↓reduceIte, Nat.reduceAdd, Nat.reduceSub]))
      refine AW.block ?_   -- block 0
      refine AW.gh (Gh.nil (e := 36) 7 (Nat.le_of_ble_eq_true rfl) rfl sz36) ?_; (try simp only [evS, lcS, nzR, nzA, nzL, Nat.reduceBEq, Nat.reduceEqDiff, ↓reduceIte, Nat.reduceAdd, Nat.reduceSub]); refine AW.loopI (fun (q : Nat × Nat) => [(2, .ptr 0 1 0 0), (3, .ptr 1 2 0 0), (4, .ptr 2 3 0 0), (7, .sl 3 q.2 0 (noL (c.pieces.take q.1) p).length), (8, .v (.int .i64 (q.1 : Nat)))]) (fun q => ⟨[(1, .own 29 [c.av]), (2, .own 33 [p.av]), (3, .own 29 [[AV.v (.int .i64 0), .v (.string ⟨#[]⟩), .v (.int .i64 0), .v (.string ⟨#[]⟩), .v (.int .i64 0), .v (.int .i64 0), .v (.int .i64 0), .v (.int .i64 0), .v (.int .i64 0), .v (.int .i64 0), .v (.slice none 0 0)]]), (q.2, .own 36 ((noL (c.pieces.take q.1) p).map Piece.av))], q.2 + 1⟩) (fun q => q.1 ≤ c.pieces.length) (fun q => c.pieces.length - q.1) (0, 4) (by simp) ⟨rfl, rfl, rfl, rfl, rfl, trivial⟩ rfl ?_; rintro ⟨i, v⟩ ρ hi; simp only at hi; simp only [updL]; (try simp only [evS, lcS, nzR, nzA, nzL, Nat.reduceBEq, Nat.reduceEqDiff, ↓reduceIte, Nat.reduceAdd, Nat.reduceSub]); have hnl := noL_len (c.pieces.take i) p; have hnl2 : (c.pieces.take i).length ≤ 60 := (by simp; omega)
      (refine AW.seq_k ?_; intro K hK)
      (refine AW.seq_k ?_; intro K hK)
      refine AW.region ?_
      refine awP (op_move rfl rfl) ?_
      (first | refine awP (op_fa_ptr rfl rfl rfl fl29_7 (by exact sz27) (by decide) rfl) ?_ | refine awP (op_fa_rop rfl rfl fl29_7 (by exact sz27) (by decide) (Nat.le_of_ble_eq_true rfl) rfl) ?_)
      (first | refine awR (op_load_ptr1 rfl rfl rfl rfl ag27 rfl rfl) ?_ | refine awR (op_load_rop1 rfl rfl ag27) ?_)
      (first | refine awP (op_len_ro rfl rfl Try.underlying27 (by first | exact .inr (.inl ⟨_, rfl, rfl⟩) | exact .inl rfl | exact .inr (.inr (.inl ⟨_, rfl, rfl⟩)) | exact .inr (.inr (.inr ⟨rfl, rfl⟩)))) ?_ | refine awP (op_len_sl rfl rfl rfl Try.underlying27) ?_ | refine awP (op_len_str rfl rfl Try.underlying27) ?_)
      refine awP (op_lss rfl rfl rfl) ?_
      refine AWL.nil ?_
      (refine hK _ ?_; clear hK K; (try simp only [evS, lcS, nzR, nzA, nzL, Nat.reduceBEq, Nat.reduceEqDiff, ↓reduceIte, Nat.reduceAdd, Nat.reduceSub]))
      refine AW.cond rfl rfl rfl (fun hc => ?_) (fun hc => ?_)   -- cond 3
      · -- true
        (try simp only [Bool.and_eq_true, Bool.or_eq_true, Bool.or_eq_false_iff, Bool.and_eq_false_iff, decide_eq_true_eq, decide_eq_false_iff_not, Int.not_le, Int.not_lt, ge_iff_le, gt_iff_lt, Bool.not_eq_true', Bool.not_eq_false', bne_iff_ne, beq_iff_eq, bne_eq_false_iff_eq, beq_eq_false_iff_ne, ne_eq] at hc); have hc3 := hc; have hlt : i < c.pieces.length := (by simpa using hc3)
        refine AW.skip ?_
        (refine hK _ ?_; clear hK K; (try simp only [evS, lcS, nzR, nzA, nzL, Nat.reduceBEq, Nat.reduceEqDiff, ↓reduceIte, Nat.reduceAdd, Nat.reduceSub]))
        (refine AW.seq_k ?_; intro K hK)
        refine AW.block ?_   -- block 1
        (refine AW.seq_k ?_; intro K hK)
        refine AW.quiet mix (by kernel_rfl) ?_   -- DRAWS
        (first | refine aqP (op_fa_ptr rfl rfl rfl fl29_7 (by exact sz27) (by decide) rfl) ?_ | refine aqP (op_fa_rop rfl rfl fl29_7 (by exact sz27) (by decide) (Nat.le_of_ble_eq_true rfl) rfl) ?_)
        (first | refine aqR (op_load_ptr1 rfl rfl rfl rfl ag27 rfl rfl) ?_ | refine aqR (op_load_rop1 rfl rfl ag27) ?_)
        refine aqP (op_move rfl rfl) ?_
        (first | refine aqP (op_ia_ro i rfl (.inl rfl) rfl Try.underlying27 rfl (get_map (by omega)) (by exact sz36) (Nat.le_of_ble_eq_true rfl)) ?_ | refine aqP (op_ia_sl _ _ rfl rfl rfl rfl Try.underlying27 rfl (by omega) (by exact sz36) rfl) ?_)
        (first | refine aqP (op_fa_ptr rfl rfl rfl fl36_0 (by exact sz33) (by decide) rfl) ?_ | refine aqP (op_fa_rop rfl rfl fl36_0 (by exact sz33) (by decide) (Nat.le_of_ble_eq_true rfl) rfl) ?_)
        (first | refine aqR (op_load_ptr rfl rfl rfl rfl ag33 sz33 (Nat.le_of_ble_eq_true rfl) rfl) ?_ | refine aqR (op_load_rop rfl rfl ag33 sz33 (Nat.le_of_ble_eq_true rfl) (by decide) rfl) ?_)
        (first | refine aqR (op_load_ptr rfl rfl rfl rfl ag33 sz33 (Nat.le_of_ble_eq_true rfl) rfl) ?_ | refine aqR (op_load_rop rfl rfl ag33 sz33 (Nat.le_of_ble_eq_true rfl) (by decide) rfl) ?_)
        refine aqP (op_neq33 rfl rfl rfl) ?_; (try simp only [evS, lcS, nzR, nzA, nzL, Nat.reduceBEq, Nat.reduceEqDiff, ↓reduceIte, Nat.reduceAdd, Nat.reduceSub])
        refine AQ.nil ?_
        (refine hK _ ?_; clear hK K; (try simp only [evS, lcS, nzR, nzA, nzL, Nat.reduceBEq, Nat.reduceEqDiff, ↓reduceIte, Nat.reduceAdd, Nat.reduceSub]))
        refine AW.cond rfl rfl rfl (fun hc => ?_) (fun hc => ?_)   -- cond 4
        · -- true
          (try simp only [Bool.and_eq_true, Bool.or_eq_true, Bool.or_eq_false_iff, Bool.and_eq_false_iff, decide_eq_true_eq, decide_eq_false_iff_not, Int.not_le, Int.not_lt, ge_iff_le, gt_iff_lt, Bool.not_eq_true', Bool.not_eq_false', bne_iff_ne, beq_iff_eq, bne_eq_false_iff_eq, beq_eq_false_iff_ne, ne_eq] at hc); have hc4 := hc; skip
          refine AW.region ?_
          refine awP (op_move rfl rfl) ?_
          (first | refine awP (op_fa_ptr rfl rfl rfl fl29_7 (by exact sz27) (by decide) rfl) ?_ | refine awP (op_fa_rop rfl rfl fl29_7 (by exact sz27) (by decide) (Nat.le_of_ble_eq_true rfl) rfl) ?_)
          (first | refine awR (op_load_ptr1 rfl rfl rfl rfl ag27 rfl rfl) ?_ | refine awR (op_load_rop1 rfl rfl ag27) ?_)
          refine awP (op_move rfl rfl) ?_
          (first | refine awP (op_ia_ro i rfl (.inl rfl) rfl Try.underlying27 rfl (get_map (by omega)) (by exact sz36) (Nat.le_of_ble_eq_true rfl)) ?_ | refine awP (op_ia_sl _ _ rfl rfl rfl rfl Try.underlying27 rfl (by omega) (by exact sz36) rfl) ?_)
          (first | refine awR (op_load_ptr rfl rfl rfl rfl ag36 sz36 (Nat.le_of_ble_eq_true rfl) rfl) ?_ | refine awR (op_load_rop rfl rfl ag36 sz36 (Nat.le_of_ble_eq_true rfl) (by decide) rfl) ?_)
          refine awJ (op_buildSlice rfl [(0, c.pieces[i].av)] [c.pieces[i].av] Try.underlying27 ze36 rfl (by simp) rfl (by simp) rfl (Nat.le_of_ble_eq_true rfl) (by simp [maxLen])) ?_; (try simp only [evS, lcS, nzR, nzA, nzL, Nat.reduceBEq, Nat.reduceEqDiff, ↓reduceIte, Nat.reduceAdd, Nat.reduceSub]); skip; (try simp only [evS, lcS, nzR, nzA, nzL, Nat.reduceBEq, Nat.reduceEqDiff, ↓reduceIte, Nat.reduceAdd, Nat.reduceSub])
          refine awJ (op_app (rows := [c.pieces[i].av]) rfl rfl rfl rfl (by simp) (.sl (es := [c.pieces[i].av]) rfl rfl) Try.underlying27 ze36 (by decide) (by simp) (by simp only [List.length_map, List.length_cons, List.length_nil]; omega) (by decide) (es' := (noL (c.pieces.take (i + 1)) p).map Piece.av) (by rw [noL_yes hlt hc4]; simp [ldc_v]) (n := (noL (c.pieces.take (i + 1)) p).length) (by rw [noL_yes hlt hc4]; simp)) ?_ -- BUILTIN append ['t35', 't41'] [27, 27]; (try simp only [evS, lcS, nzR, nzA, nzL, Nat.reduceBEq, Nat.reduceEqDiff, ↓reduceIte, Nat.reduceAdd, Nat.reduceSub])
          refine awP (op_assign rfl rfl) ?_
          refine AWL.nil ?_
          (try simp only [thenE, inBlk, Nat.reduceEqDiff, ↓reduceIte])
          (refine hK _ ?_; clear hK K; (try simp only [evS, lcS, nzR, nzA, nzL, Nat.reduceBEq, Nat.reduceEqDiff, ↓reduceIte, Nat.reduceAdd, Nat.reduceSub]))
          refine AW.region ?_
          refine awP (op_move rfl rfl) ?_
          (first | refine awP (op_addi rfl rfl rfl (by omega)) ?_ | refine awP (op_add rfl rfl rfl rfl) ?_)
          refine awP (op_assign rfl rfl) ?_
          refine AWL.gh (Gh.drop 4) ?_; (try simp only [evS, lcS, nzR, nzA, nzL, Nat.reduceBEq, Nat.reduceEqDiff, ↓reduceIte, Nat.reduceAdd, Nat.reduceSub])
          refine AWL.nil ?_
          refine ⟨(i + 1, v + 2), by dsimp only; omega, by dsimp only; omega, ⟨rfl, rfl, rfl, rfl, rfl, trivial⟩, (by first | rfl | trivial), (by first | rfl | trivial)⟩
        · -- false
          (try simp only [Bool.and_eq_true, Bool.or_eq_true, Bool.or_eq_false_iff, Bool.and_eq_false_iff, decide_eq_true_eq, decide_eq_false_iff_not, Int.not_le, Int.not_lt, ge_iff_le, gt_iff_lt, Bool.not_eq_true', Bool.not_eq_false', bne_iff_ne, beq_iff_eq, bne_eq_false_iff_eq, beq_eq_false_iff_ne, ne_eq] at hc); have hc4 := hc; skip
          refine AW.skip ?_
          (try simp only [thenE, inBlk, Nat.reduceEqDiff, ↓reduceIte])
          (refine hK _ ?_; clear hK K; (try simp only [evS, lcS, nzR, nzA, nzL, Nat.reduceBEq, Nat.reduceEqDiff, ↓reduceIte, Nat.reduceAdd, Nat.reduceSub]))
          refine AW.region ?_
          refine awP (op_move rfl rfl) ?_
          (first | refine awP (op_addi rfl rfl rfl (by omega)) ?_ | refine awP (op_add rfl rfl rfl rfl) ?_)
          refine awP (op_assign rfl rfl) ?_
          refine AWL.gh (Gh.drop 4) ?_; (try simp only [evS, lcS, nzR, nzA, nzL, Nat.reduceBEq, Nat.reduceEqDiff, ↓reduceIte, Nat.reduceAdd, Nat.reduceSub])
          refine AWL.nil ?_
          refine ⟨(i + 1, v), by dsimp only; omega, by dsimp only; omega, ⟨rfl, rfl, rfl, (by rw [noL_no hlt hc4]; rfl), rfl, trivial⟩, (by rw [noL_no hlt hc4]), (by first | rfl | trivial)⟩
      · -- false
        (try simp only [Bool.and_eq_true, Bool.or_eq_true, Bool.or_eq_false_iff, Bool.and_eq_false_iff, decide_eq_true_eq, decide_eq_false_iff_not, Int.not_le, Int.not_lt, ge_iff_le, gt_iff_lt, Bool.not_eq_true', Bool.not_eq_false', bne_iff_ne, beq_iff_eq, bne_eq_false_iff_eq, beq_eq_false_iff_ne, ne_eq] at hc); have hc3 := hc; obtain rfl : i = c.pieces.length := (by omega); have hdel : delC c p = setP c (noL (c.pieces.take c.pieces.length) p) := (by rw [List.take_length, noL_del (val_asc hv0) (by simpa using hc2)]; rfl)
        refine AW.exit ?_; (try simp only [thenE, inBlk, Nat.reduceEqDiff, ↓reduceIte])   -- to 0
        clear hK K
        (refine hK _ ?_; clear hK K; (try simp only [evS, lcS, nzR, nzA, nzL, Nat.reduceBEq, Nat.reduceEqDiff, ↓reduceIte, Nat.reduceAdd, Nat.reduceSub]))
        (refine AW.seq_k ?_; intro K hK)
        refine AW.region ?_
        refine awP (op_move rfl rfl) ?_
        (first | refine awP (op_fa_ptr rfl rfl rfl fl29_7 (by exact sz27) (by decide) rfl) ?_ | refine awP (op_fa_rop rfl rfl fl29_7 (by exact sz27) (by decide) (Nat.le_of_ble_eq_true rfl) rfl) ?_)
        refine AWL.gh (Gh.freeze 43 (Nat.le_of_ble_eq_true rfl) rfl rfl (av_flat _) (es' := (noL (c.pieces.take c.pieces.length) p).map Piece.av) (List.take_of_length_le (by simp))) ?_; (try simp only [evS, lcS, nzR, nzA, nzL, Nat.reduceBEq, Nat.reduceEqDiff, ↓reduceIte, Nat.reduceAdd, Nat.reduceSub]); refine awJ (op_store rfl rfl rfl rfl rfl rfl sz27 rfl (Nat.le_of_ble_eq_true rfl) rfl) ?_; (try simp only [evS, lcS, nzR, nzA, nzL, Nat.reduceBEq, Nat.reduceEqDiff, ↓reduceIte, Nat.reduceAdd, Nat.reduceSub])
        refine AWL.nil ?_
        (refine hK _ ?_; clear hK K; (try simp only [evS, lcS, nzR, nzA, nzL, Nat.reduceBEq, Nat.reduceEqDiff, ↓reduceIte, Nat.reduceAdd, Nat.reduceSub]))
        (refine AW.seq_k ?_; intro K hK)
        refine AW.region ?_
        (first | refine awR (op_load_ptr rfl rfl rfl rfl ag29 sz29 (Nat.le_of_ble_eq_true rfl) rfl) ?_ | refine awR (op_load_rop rfl rfl ag29 sz29 (Nat.le_of_ble_eq_true rfl) (by decide) rfl) ?_)
        refine awJ (op_store rfl rfl rfl rfl rfl rfl sz29 rfl (Nat.le_of_ble_eq_true rfl) rfl) ?_; (try simp only [evS, lcS, nzR, nzA, nzL, Nat.reduceBEq, Nat.reduceEqDiff, ↓reduceIte, Nat.reduceAdd, Nat.reduceSub])
        refine awP (op_assign rfl rfl) ?_
        refine AWL.nil ?_
        (refine hK _ ?_; clear hK K; (try simp only [evS, lcS, nzR, nzA, nzL, Nat.reduceBEq, Nat.reduceEqDiff, ↓reduceIte, Nat.reduceAdd, Nat.reduceSub]))
        skip
        refine AW.ret ?_; (try simp only [thenE, inBlk, Nat.reduceEqDiff, ↓reduceIte]); have he : remC c p = (delC c p, 0) := (by unfold remC; rw [if_neg (by simp [hv0]), hfh, if_neg (by simpa using hc2)]); rw [he, hdel]; exact RQ.of0 rfl (.cell (Nat.le_of_ble_eq_true rfl) rfl rfl rfl ag29 sz29 (Nat.le_of_ble_eq_true rfl) rfl rfl (.tmp (Nat.le_of_ble_eq_true rfl) rfl rfl .nil))
end Go.Proofs.Ytngfknoddphhaaa
