import Derived.Test.YtmdohphcolffmaaGreatCmd
import Derived.Shelf.SlSortFuncK.SWK
import Derived.Ground.GgsProg
import Derived.Shelf.GgSortFunc.Tiny
import Derived.Shelf.SlSortFuncK.WholeK
namespace Go.Proofs.YtmdohphcolffmaaGreat
open Go.RowKit
set_option linter.unusedSimpArgs false
set_option linter.unusedVariables false
set_option maxRecDepth 100000
theorem cmpP_bd (p q : Plate) : cmpP p q = -1 ∨ cmpP p q = 0 ∨ cmpP p q = 1 := by
  rcases cmpP_cases p q with ⟨_, e⟩ | ⟨_, e⟩ | ⟨_, e⟩ <;> omega
set_option maxHeartbeats 8000000 in
theorem C55 {c : Container} : Fn Tryz.prog 55 [] [.agg c.av] [.v (.int .i64 (valC c))] [] := by
  refine Spec.body Tryz.func55 rfl Tryz.ntmps55 (by simp) rfl ?_; intro S0 own0 v0 w0
  (refine AW.seq_k ?_; intro K hK)
  refine AW.region ?_
  refine awJ (op_box rfl rfl rfl sz33 rfl) ?_; (simp only [nA, Nat.reduceBEq, Nat.reduceEqDiff, ↓reduceIte])
  refine awP (op_assign rfl rfl) ?_; (try simp only [nA, Nat.reduceBEq, Nat.reduceEqDiff, ↓reduceIte, Nat.reduceAdd, Nat.reduceSub])
  refine AWL.nil ?_
  (refine hK _ ?_; clear hK K; (try simp only [nA, Nat.reduceBEq, Nat.reduceEqDiff, ↓reduceIte, Nat.reduceAdd, Nat.reduceSub]))
  (refine AW.seq_k ?_; intro K hK)
  (refine AW.seq_k ?_; intro K hK)
  refine AW.region ?_
  (refine awR (op_load_ptr rfl rfl rfl rfl ag33 sz33 (bl rfl) rfl) ?_); (try simp only [nA, Nat.reduceBEq, Nat.reduceEqDiff, ↓reduceIte, Nat.reduceAdd, Nat.reduceSub])
  refine awJ (OpQ.j (op_callQ (b := true) rfl en81 (C81 (c := c)) (RL.cons (by exact View.same rfl) (RL.nil)) rfl)) ?_; (try simp only [nA, Nat.reduceBEq, Nat.reduceEqDiff, ↓reduceIte, Nat.reduceAdd, Nat.reduceSub])
  refine awP (op_not rfl rfl rfl) ?_; (try simp only [nA, Nat.reduceBEq, Nat.reduceEqDiff, ↓reduceIte, Nat.reduceAdd, Nat.reduceSub])
  refine AWL.nil ?_
  (refine hK _ ?_; clear hK K; (skip))
  refine AW.cond rfl rfl rfl (fun hc => ?_) (fun hc => ?_)
  ·
   (try simp only [hcS] at hc); have hc1 := hc
   (refine AW.seq_k ?_; intro K hK)
   refine AW.region ?_
   refine awP (op_assign rfl rfl) ?_; (try simp only [nA, Nat.reduceBEq, Nat.reduceEqDiff, ↓reduceIte, Nat.reduceAdd, Nat.reduceSub])
   refine AWL.nil ?_
   (refine hK _ ?_; clear hK K; (skip))
   skip
   refine AW.ret ?_; (try simp only [thenE, inBlk, Nat.reduceEqDiff, ↓reduceIte]); rw [show valC c = 1 by unfold valC; rw [if_pos hc]]; exact RQ.of0 rfl (.tmp (bl rfl) rfl rfl .nil)
  (try simp only [hcS] at hc); have hc1 := hc
  refine AW.skip ?_
  (refine hK _ ?_; clear hK K; (skip))
  (refine AW.seq_k ?_; intro K hK)
  (refine AW.seq_k ?_; intro K hK)
  refine AW.region ?_
  (refine awP (op_fa_ptr rfl rfl rfl fl33_7 (by exact sz31) (by decide) rfl) ?_); (try simp only [nA, Nat.reduceBEq, Nat.reduceEqDiff, ↓reduceIte, Nat.reduceAdd, Nat.reduceSub])
  (refine awR (op_load_ptr1 rfl rfl rfl rfl ag31 rfl rfl) ?_); (try simp only [nA, Nat.reduceBEq, Nat.reduceEqDiff, ↓reduceIte, Nat.reduceAdd, Nat.reduceSub])
  (refine awP (op_len_ro rfl rfl Tryz.underlying31 (by exact .inr (.inl ⟨_, rfl, rfl⟩))) ?_); (try simp only [nA, Nat.reduceBEq, Nat.reduceEqDiff, ↓reduceIte, Nat.reduceAdd, Nat.reduceSub])
  refine awP (op_gtr rfl rfl rfl) ?_; (try simp only [nA, Nat.reduceBEq, Nat.reduceEqDiff, ↓reduceIte, Nat.reduceAdd, Nat.reduceSub])
  refine AWL.nil ?_
  (refine hK _ ?_; clear hK K; (skip))
  refine AW.cond rfl rfl rfl (fun hc => ?_) (fun hc => ?_)
  ·
   (try simp only [hcS] at hc); have hc2 := hc
   (refine AW.seq_k ?_; intro K hK)
   refine AW.region ?_
   refine awP (op_assign rfl rfl) ?_; (try simp only [nA, Nat.reduceBEq, Nat.reduceEqDiff, ↓reduceIte, Nat.reduceAdd, Nat.reduceSub])
   refine AWL.nil ?_
   (refine hK _ ?_; clear hK K; (skip))
   skip
   refine AW.ret ?_; (try simp only [thenE, inBlk, Nat.reduceEqDiff, ↓reduceIte]); rw [show valC c = 2 by unfold valC; rw [if_neg (by simp [hc1]), if_pos (by omega)]]; exact RQ.of0 rfl (.tmp (bl rfl) rfl rfl .nil)
  (try simp only [hcS] at hc); have hc2 := hc
  refine AW.skip ?_
  (refine hK _ ?_; clear hK K; (skip))
  (refine AW.seq_k ?_; intro K hK)
  (refine AW.seq_k ?_; intro K hK)
  refine AW.region ?_
  refine awP (op_assign rfl rfl) ?_; (try simp only [nA, Nat.reduceBEq, Nat.reduceEqDiff, ↓reduceIte, Nat.reduceAdd, Nat.reduceSub])
  refine AWL.nil ?_
  (refine hK _ ?_; clear hK K; (skip))
  refine AW.block ?_
  refine AW.loopI (fun (i : Nat) => [(1, .ptr 0 1 0 0), (3, .v (.int .i64 (i : Nat)))]) (fun i => ⟨[(1, .own 33 [c.av])], 2⟩) (fun i => i ≤ c.pieces.length ∧ ∀ k, k < i → errI c.pieces k = 0) (fun i => c.pieces.length - i) 0 (by simp) ⟨rfl, rfl, trivial⟩ rfl ?_; intro i ρ hi; simp only [updL]
  (refine AW.seq_k ?_; intro K hK)
  (refine AW.seq_k ?_; intro K hK)
  refine AW.region ?_
  refine awP (op_move rfl rfl) ?_; (simp only [nA, ↓reduceIte])
  (refine awP (op_fa_ptr rfl rfl rfl fl33_7 (by exact sz31) (by decide) rfl) ?_); (try simp only [nA, Nat.reduceBEq, Nat.reduceEqDiff, ↓reduceIte, Nat.reduceAdd, Nat.reduceSub])
  (refine awR (op_load_ptr1 rfl rfl rfl rfl ag31 rfl rfl) ?_); (try simp only [nA, Nat.reduceBEq, Nat.reduceEqDiff, ↓reduceIte, Nat.reduceAdd, Nat.reduceSub])
  (refine awP (op_len_ro rfl rfl Tryz.underlying31 (by exact .inr (.inl ⟨_, rfl, rfl⟩))) ?_); (try simp only [nA, Nat.reduceBEq, Nat.reduceEqDiff, ↓reduceIte, Nat.reduceAdd, Nat.reduceSub])
  refine awP (op_lss rfl rfl rfl) ?_; (try simp only [nA, Nat.reduceBEq, Nat.reduceEqDiff, ↓reduceIte, Nat.reduceAdd, Nat.reduceSub])
  refine AWL.nil ?_
  (refine hK _ ?_; clear hK K; (skip))
  refine AW.cond rfl rfl rfl (fun hc => ?_) (fun hc => ?_)
  ·
   (try simp only [hcS] at hc); have hc3 := hc; have hlt : i < c.pieces.length := (by simpa using hc3)
   refine AW.skip ?_
   (refine hK _ ?_; clear hK K; (skip))
   (refine AW.seq_k ?_; intro K hK)
   refine AW.block ?_
   (refine AW.seq_k ?_; intro K hK)
   (refine AW.seq_k ?_; intro K hK)
   refine AW.region ?_
   (refine awP (op_fa_ptr rfl rfl rfl fl33_7 (by exact sz31) (by decide) rfl) ?_); (try simp only [nA, Nat.reduceBEq, Nat.reduceEqDiff, ↓reduceIte, Nat.reduceAdd, Nat.reduceSub])
   (refine awR (op_load_ptr1 rfl rfl rfl rfl ag31 rfl rfl) ?_); (try simp only [nA, Nat.reduceBEq, Nat.reduceEqDiff, ↓reduceIte, Nat.reduceAdd, Nat.reduceSub])
   refine awP (op_move rfl rfl) ?_; (simp only [nA, ↓reduceIte])
   (refine awP (op_ia_ro i rfl (.inl rfl) rfl Tryz.underlying31 rfl (get_map (by omega)) (by exact sz35) (bl rfl)) ?_); (try simp only [nA, Nat.reduceBEq, Nat.reduceEqDiff, ↓reduceIte, Nat.reduceAdd, Nat.reduceSub])
   (refine awR (op_load_rop rfl rfl ag35 sz35 (bl rfl) (by decide) rfl) ?_); (try simp only [nA, Nat.reduceBEq, Nat.reduceEqDiff, ↓reduceIte, Nat.reduceAdd, Nat.reduceSub])
   refine awJ (OpQ.j (op_callQ (b := true) rfl en44 (C44) (RL.cons (by exact View.same rfl) (RL.nil)) rfl)) ?_; (try simp only [nA, Nat.reduceBEq, Nat.reduceEqDiff, ↓reduceIte, Nat.reduceAdd, Nat.reduceSub])
   refine awP (op_not rfl rfl rfl) ?_; (try simp only [nA, Nat.reduceBEq, Nat.reduceEqDiff, ↓reduceIte, Nat.reduceAdd, Nat.reduceSub])
   refine AWL.nil ?_
   (refine hK _ ?_; clear hK K; (skip))
   refine AW.cond rfl rfl rfl (fun hc => ?_) (fun hc => ?_)
   ·
    (try simp only [hcS] at hc); have hc4 := hc
    (refine AW.seq_k ?_; intro K hK)
    refine AW.region ?_
    refine awP (op_assign rfl rfl) ?_; (try simp only [nA, Nat.reduceBEq, Nat.reduceEqDiff, ↓reduceIte, Nat.reduceAdd, Nat.reduceSub])
    refine AWL.nil ?_
    (refine hK _ ?_; clear hK K; (skip))
    skip
    refine AW.ret ?_; (try simp only [thenE, inBlk, Nat.reduceEqDiff, ↓reduceIte]); rw [val_err (e := 1) hc1 (by omega) (i := i) (by omega) hi.2 (by rw [errI_at (by omega), if_pos hc4]) (by decide)]; exact RQ.of0 rfl (.tmp (bl rfl) rfl rfl .nil)
   (try simp only [hcS] at hc); have hc4 := hc
   refine AW.skip ?_
   (refine hK _ ?_; clear hK K; (skip))
   (refine AW.seq_k ?_; intro K hK)
   (refine AW.seq_k ?_; intro K hK)
   refine AW.region ?_
   refine awP (op_move rfl rfl) ?_; (simp only [nA, ↓reduceIte])
   (refine awP (op_eql rfl rfl rfl) ?_); (try simp only [nA, Nat.reduceBEq, Nat.reduceEqDiff, ↓reduceIte, Nat.reduceAdd, Nat.reduceSub])
   refine AWL.nil ?_
   (refine hK _ ?_; clear hK K; (skip))
   refine AW.cond rfl rfl rfl (fun hc => ?_) (fun hc => ?_)
   ·
    (try simp only [hcS] at hc); have hc5 := hc
    refine AW.exit ?_; (try simp only [thenE, inBlk, Nat.reduceEqDiff, ↓reduceIte])
    clear hK K
    (refine hK _ ?_; clear hK K; (skip))
    refine AW.region ?_
    refine awP (op_move rfl rfl) ?_; (simp only [nA, ↓reduceIte])
    (refine awP (op_addi rfl rfl rfl (by omega)) ?_); (try simp only [nA, Nat.reduceBEq, Nat.reduceEqDiff, ↓reduceIte, Nat.reduceAdd, Nat.reduceSub])
    refine awP (op_assign rfl rfl) ?_; (simp only [nA])
    skip
    refine AWL.nil ?_
    refine ⟨i + 1, ⟨by omega, all_step hi.2 (by rw [errI_at (by omega), if_neg (by simp [hc4]), if_pos (by omega)])⟩, by omega, ⟨rfl, rfl, trivial⟩, (by rfl), (by rfl)⟩
   (try simp only [hcS] at hc); have hc5 := hc
   refine AW.skip ?_
   (refine hK _ ?_; clear hK K; (skip))
   (refine AW.seq_k ?_; intro K hK)
   refine AW.quiet mix (by kernel_rfl) ?_
   (refine aqP (op_fa_ptr rfl rfl rfl fl33_7 (by exact sz31) (by decide) rfl) ?_); (try simp only [nA, Nat.reduceBEq, Nat.reduceEqDiff, ↓reduceIte, Nat.reduceAdd, Nat.reduceSub])
   (refine aqR (op_load_ptr1 rfl rfl rfl rfl ag31 rfl rfl) ?_); (try simp only [nA, Nat.reduceBEq, Nat.reduceEqDiff, ↓reduceIte, Nat.reduceAdd, Nat.reduceSub])
   refine aqP (op_move rfl rfl) ?_; (simp only [nA, ↓reduceIte])
   (refine aqP (op_subi rfl rfl rfl (by omega)) ?_); (try simp only [nA, Nat.reduceBEq, Nat.reduceEqDiff, ↓reduceIte, Nat.reduceAdd, Nat.reduceSub])
   (refine aqP (op_ia_ro (i - 1) rfl (.inl rfl) rfl Tryz.underlying31 (by omega) (get_map (by omega)) (by exact sz35) (bl rfl)) ?_); (try simp only [nA, Nat.reduceBEq, Nat.reduceEqDiff, ↓reduceIte, Nat.reduceAdd, Nat.reduceSub])
   (refine aqP (op_fa_rop rfl rfl fl35_0 (by exact sz23) (by decide) (bl rfl) rfl) ?_); (try simp only [nA, Nat.reduceBEq, Nat.reduceEqDiff, ↓reduceIte, Nat.reduceAdd, Nat.reduceSub])
   (refine aqR (op_load_rop rfl rfl ag23 sz23 (bl rfl) (by decide) rfl) ?_); (try simp only [nA, Nat.reduceBEq, Nat.reduceEqDiff, ↓reduceIte, Nat.reduceAdd, Nat.reduceSub])
   (refine aqP (op_fa_ptr rfl rfl rfl fl33_7 (by exact sz31) (by decide) rfl) ?_); (try simp only [nA, Nat.reduceBEq, Nat.reduceEqDiff, ↓reduceIte, Nat.reduceAdd, Nat.reduceSub])
   (refine aqR (op_load_ptr1 rfl rfl rfl rfl ag31 rfl rfl) ?_); (try simp only [nA, Nat.reduceBEq, Nat.reduceEqDiff, ↓reduceIte, Nat.reduceAdd, Nat.reduceSub])
   refine aqP (op_move rfl rfl) ?_; (simp only [nA, ↓reduceIte])
   (refine aqP (op_ia_ro _ rfl (.inl rfl) rfl Tryz.underlying31 rfl (get_map (by omega)) (by exact sz35) (bl rfl)) ?_); (try simp only [nA, Nat.reduceBEq, Nat.reduceEqDiff, ↓reduceIte, Nat.reduceAdd, Nat.reduceSub])
   (refine aqP (op_fa_rop rfl rfl fl35_0 (by exact sz23) (by decide) (bl rfl) rfl) ?_); (try simp only [nA, Nat.reduceBEq, Nat.reduceEqDiff, ↓reduceIte, Nat.reduceAdd, Nat.reduceSub])
   (refine aqR (op_load_rop rfl rfl ag23 sz23 (bl rfl) (by decide) rfl) ?_); (try simp only [nA, Nat.reduceBEq, Nat.reduceEqDiff, ↓reduceIte, Nat.reduceAdd, Nat.reduceSub])
   refine aqQ (op_callQ (b := true) rfl en82 (C82) (RL.cons (by exact View.same rfl) (RL.cons (by exact View.same rfl) (RL.nil))) rfl) ?_; (try simp only [nA, Nat.reduceBEq, Nat.reduceEqDiff, ↓reduceIte, Nat.reduceAdd, Nat.reduceSub])
   refine aqP (op_assign rfl rfl) ?_; (simp only [nA])
   refine AQ.nil ?_
   (refine hK _ ?_; clear hK K; (skip))
   (refine AW.seq_k ?_; intro K hK)
   refine AW.region ?_
   refine awP (op_move rfl rfl) ?_; (simp only [nA])
   (refine awP (op_eql rfl rfl rfl) ?_); (try simp only [nA, Nat.reduceBEq, Nat.reduceEqDiff, ↓reduceIte, Nat.reduceAdd, Nat.reduceSub])
   refine AWL.nil ?_
   (refine hK _ ?_; clear hK K; (skip))
   refine AW.cond rfl rfl rfl (fun hc => ?_) (fun hc => ?_)
   ·
    (try simp only [hcS] at hc); have hc6 := hc
    (refine AW.seq_k ?_; intro K hK)
    refine AW.region ?_
    refine awP (op_assign rfl rfl) ?_; (try simp only [nA, Nat.reduceBEq, Nat.reduceEqDiff, ↓reduceIte, Nat.reduceAdd, Nat.reduceSub])
    refine AWL.nil ?_
    (refine hK _ ?_; clear hK K; (skip))
    skip
    refine AW.ret ?_; (try simp only [thenE, inBlk, Nat.reduceEqDiff, ↓reduceIte]); rw [val_err (e := 5) hc1 (by omega) (i := i) (by omega) hi.2 (by rw [errI_at (by omega), if_neg (by simp [hc4]), if_neg (by omega), if_pos hc6]) (by decide)]; exact RQ.of0 rfl (.tmp (bl rfl) rfl rfl .nil)
   (try simp only [hcS] at hc); have hc6 := hc; have hcb := cmpP_bd c.pieces[i - 1].plate c.pieces[i].plate
   (refine AW.seq_k ?_; intro K hK)
   refine AW.region ?_
   refine awP (op_move rfl rfl) ?_; (simp only [nA, ↓reduceIte])
   refine awP (op_gtr rfl rfl rfl) ?_; (try simp only [nA, Nat.reduceBEq, Nat.reduceEqDiff, ↓reduceIte, Nat.reduceAdd, Nat.reduceSub])
   refine AWL.nil ?_
   (refine hK _ ?_; clear hK K; (skip))
   refine AW.cond rfl rfl rfl (fun hc => ?_) (fun hc => ?_)
   ·
    (try simp only [hcS] at hc); have hc7 := hc
    (refine AW.seq_k ?_; intro K hK)
    refine AW.region ?_
    refine awP (op_assign rfl rfl) ?_; (try simp only [nA, Nat.reduceBEq, Nat.reduceEqDiff, ↓reduceIte, Nat.reduceAdd, Nat.reduceSub])
    refine AWL.nil ?_
    (refine hK _ ?_; clear hK K; (skip))
    skip
    refine AW.ret ?_; (try simp only [thenE, inBlk, Nat.reduceEqDiff, ↓reduceIte]); rw [val_err (e := 9) hc1 (by omega) (i := i) (by omega) hi.2 (by rw [errI_at (by omega), if_neg (by simp [hc4]), if_neg (by omega), if_neg hc6, if_pos (by omega)]) (by decide)]; exact RQ.of0 rfl (.tmp (bl rfl) rfl rfl .nil)
   (try simp only [hcS] at hc); have hc7 := hc
   refine AW.skip ?_
   (try simp only [thenE, inBlk, Nat.reduceEqDiff, ↓reduceIte])
   (refine hK _ ?_; clear hK K; (skip))
   refine AW.region ?_
   refine awP (op_move rfl rfl) ?_; (simp only [nA, ↓reduceIte])
   (refine awP (op_addi rfl rfl rfl (by omega)) ?_); (try simp only [nA, Nat.reduceBEq, Nat.reduceEqDiff, ↓reduceIte, Nat.reduceAdd, Nat.reduceSub])
   refine awP (op_assign rfl rfl) ?_; (simp only [nA])
   skip
   refine AWL.nil ?_
   refine ⟨i + 1, ⟨by omega, all_step hi.2 (by rw [errI_at (by omega), if_neg (by simp [hc4]), if_neg (by omega), if_neg hc6, if_neg (by omega)])⟩, by omega, ⟨rfl, rfl, trivial⟩, (by rfl), (by rfl)⟩
  (try simp only [hcS] at hc); have hc3 := hc
  refine AW.exit ?_; (try simp only [thenE, inBlk, Nat.reduceEqDiff, ↓reduceIte])
  clear hK K
  (refine hK _ ?_; clear hK K; (skip))
  (refine AW.seq_k ?_; intro K hK)
  refine AW.region ?_
  refine awP (op_assign rfl rfl) ?_; (try simp only [nA, Nat.reduceBEq, Nat.reduceEqDiff, ↓reduceIte, Nat.reduceAdd, Nat.reduceSub])
  refine AWL.nil ?_
  (refine hK _ ?_; clear hK K; (skip))
  skip
  refine AW.ret ?_; (try simp only [thenE, inBlk, Nat.reduceEqDiff, ↓reduceIte]); rw [val_ok hc1 (by omega) (i := i) (by omega) hi.2]; exact RQ.of0 rfl (.tmp (bl rfl) rfl rfl .nil)
abbrev setP (c : Container) (l : List Piece) : Container := ⟨c.number, c.flight, c.categories, c.limit, c.most, c.position, c.arm, l⟩
end Go.Proofs.YtmdohphcolffmaaGreat
namespace Go.Proofs.YtmdohphcolffmaaGreat
open Go.RowKit
set_option linter.unusedSimpArgs false
set_option linter.unusedVariables false
set_option maxRecDepth 100000
def smallB (xs : List Container) : Bool := xs.all (fun c => decide (c.pieces.length ≤ 70)) && decide ((xs.length : Int) ≤ 30)
end Go.Proofs.YtmdohphcolffmaaGreat
namespace Go.Proofs.YtmdohphcolffmaaGreat
open Go.RowKit
set_option linter.unusedSimpArgs false
set_option linter.unusedVariables false
set_option maxRecDepth 100000
theorem run_eq25 (p q : Flight) (w : World) : (binOp .eql 25 (.agg #[.string p.carrier, .int .i64 p.number, .string p.suffix, .int .i64 p.day]) (.agg #[.string q.carrier, .int .i64 q.number, .string q.suffix, .int .i64 q.day])).run Tryz.prog w = .ok (.bool (flEq p q)) w := by
  obtain ⟨a, b, c, d⟩ := p
  obtain ⟨a', b', c', d'⟩ := q
  unfold binOp
  simp only [Op.equal]
  rw [Sem.run_bind, show Op.maxDepth = 9998 + 1 + 1 from rfl, run_equalIn_struct w _ 25 _ _ fo25 st25]
  unfold Program.fieldsOf; rw [Tryz.underlying25]
  simp only [Op.eqFields]
  go_simp
  unfold flEq
  by_cases h1 : a.toList = a'.toList <;> by_cases h2 : b = b' <;> by_cases h3 : c.toList = c'.toList <;> by_cases h4 : d = d' <;> simp [h1, h2, h3, h4]
theorem run_tye25 (p q : Operand) (x y : Array Value) (w : World) : (eqGuard .eql 25 p q (.agg x) (.agg y)).run Tryz.prog w = .ok () w := by
  unfold eqGuard
  simp [ty25, run_program]
section
variable {S0 : Nat → Prop} {own0 : List Nat} {v0 : List Value} {w0 : World} {o : Oper} {ev : Operand → AV} {T : Sl} {yt : TypeId} {y z : Operand}
theorem op_eq25 {p q : Flight} (ho : o.op = .binOp .eql 25 y z yt) (hy : ev y = .agg p.av) (hz : ev z = .agg q.av) : OpP ⟨Tryz.prog, S0, own0, v0, w0⟩ o ev T (.v (.bool (flEq p q))) :=
  op_bin_agg (xs := [.string p.carrier, .int .i64 p.number, .string p.suffix, .int .i64 p.day]) (ys := [.string q.carrier, .int .i64 q.number, .string q.suffix, .int .i64 q.day]) ho hy hz (fun w => run_tye25 _ _ _ _ w) (fun w => run_eq25 p q w) rfl
end
def Seen (xs : List Container) (i : Nat) (sp : List Container) (pl : List Plate) : Prop :=
  chk (prevN xs i) (xs.drop i) sp pl = chk none xs [] [] ∧ (∀ s, s ∈ sp.map spotOf ↔ ∃ c ∈ xs.take i, c.position ≠ 0 ∧ spotOf c = s) ∧ ∀ p, p ∈ pl ↔ ∃ c ∈ xs.take i, hasB c.pieces p = true
end Go.Proofs.YtmdohphcolffmaaGreat
namespace Go.Proofs.YtmdohphcolffmaaGreat
open Go.RowKit
set_option linter.unusedSimpArgs false
set_option linter.unusedVariables false
set_option maxRecDepth 100000
abbrev nuv (c : Container) (u : Value) : List AV := [.v (.int .i64 c.number), .v (.string c.flight.carrier), .v (.int .i64 c.flight.number), .v (.string c.flight.suffix), .v (.int .i64 c.flight.day), .v (.int .i64 c.categories), .v (.int .i64 c.limit), .v (.int .i64 c.most), .v (.int .i64 c.position), .v (.int .i64 c.arm), .v u]
theorem cavf (l : List Container) : ∀ r ∈ l.map Container.av, ∀ c ∈ r, flatA c = true := fun r hr c hc => by
  obtain ⟨x, _, rfl⟩ := List.mem_map.1 hr
  simp only [Container.av, List.mem_cons, List.not_mem_nil, or_false] at hc
  rcases hc with rfl | rfl | rfl | rfl | rfl | rfl | rfl | rfl | rfl | rfl | rfl <;> rfl
def spF (l : List Int) (sel : Int) (k : Nat) (c : Container) : Nat × Container :=
  if sel = 0 then (rawN l k, { c with number := pickV l k [0, 1, 999, 1000] }) else if sel = 1 then (rawN l k, { c with categories := pickV l k [-1, 31, 32] })
  else if sel = 2 then (rawN l k, { c with limit := pickV l k [-1, 0, 20000, 20001] }) else if sel = 3 then (rawN l k, { c with position := pickV l k [-1, 1, 24, 25] })
  else if sel = 4 then (rawN l k, { c with arm := pickV l k [-51, -50, 50, 51] }) else if sel = 5 then (nx3 l k, addP c (pieceV l k 9))
  else if sel = 6 then (nx2 l k, addP c ⟨platesP 999, pickV l k [0, 1, 999, 1000], pickV l (rawN l k) [-1, 4, 5]⟩) else if sel = 7 then (rawN l k, { c with most := pickV l k [-1, 0, 60, 61] })
  else (k, { c with flight := { c.flight with day := -1 } })
def spoilV (l : List Int) (k : Nat) (xs : List Container) : Nat × List Container :=
  if xs.length = 0 then (k, [zeroC]) else
    ((spF l (gmod (rawV l (rawN l k)) 9) (nx2 l k) (xs.getD (idxV l k xs.length) default)).1, xs.set (idxV l k xs.length) (spF l (gmod (rawV l (rawN l k)) 9) (nx2 l k) (xs.getD (idxV l k xs.length) default)).2)
end Go.Proofs.YtmdohphcolffmaaGreat
namespace Go.Proofs.YtmdohphcolffmaaGreat
open Go.RowKit
set_option linter.unusedSimpArgs false
set_option linter.unusedVariables false
set_option maxRecDepth 100000
def mom (l : List Container) (f : Flight) : Int := (l.map fun c => if flEq c.flight f then weightC c * c.arm else 0).sum
def momV (l : List Container) (f : Flight) : Int := if chkL l ≠ 0 then 0 else mom l f
def absI (n : Int) : Int := max n (-n)
def admB (c : Container) (p : Piece) : Bool := decide ((putC c p true).2 = 0)
/-- The place among the first i containers at which the moment is least. -/
def bestI (l : List Container) (f : Flight) (p : Piece) : Nat → Option Nat
  | 0 => none
  | i + 1 => if flEq (l.getD i default).flight f && admB (l.getD i default) p then
      (match bestI l f p i with
        | none => some i
        | some j => if absI (mom l f + p.weight * (l.getD i default).arm) < absI (mom l f + p.weight * (l.getD j default).arm) then some i else some j)
    else bestI l f p i
def bestV (l : List Container) (f : Flight) (p : Piece) : Option Nat := bestI l f p l.length
def atI (o : Option Nat) : Int := match o with | none => -1 | some i => (i : Nat)
def anyF (l : List Container) (f : Flight) : Bool := l.any fun c => flEq c.flight f
def choV (l : List Container) (f : Flight) (p : Piece) : Int × Int :=
  if chkL l ≠ 0 then (0, chkL l) else if piB p = false then (0, 1) else if (findL l p.plate).2 = true then (0, 5)
  else if anyF l f = false then (0, 6) else match bestV l f p with | none => (0, 8) | some i => ((l.getD i default).number, 0)
theorem bestI_lt {l : List Container} {f : Flight} {p : Piece} : ∀ {i j : Nat}, bestI l f p i = some j → j < i
  | 0, j, h => by cases h
  | i + 1, j, h => by
    unfold bestI at h
    split at h
    · cases hb : bestI l f p i with
      | none => rw [hb] at h; injection h with h; omega
      | some k =>
        rw [hb] at h
        have := bestI_lt hb
        simp only at h
        split at h <;> injection h with h <;> omega
    have := bestI_lt h; omega
theorem bestI_some {l : List Container} {f : Flight} {p : Piece} : ∀ {i j : Nat}, bestI l f p i = some j → flEq (l.getD j default).flight f = true ∧ admB (l.getD j default) p = true
  | 0, j, h => by cases h
  | i + 1, j, h => by
    unfold bestI at h
    split at h
    · rename_i hc
      rw [Bool.and_eq_true] at hc
      cases hb : bestI l f p i with
      | none => rw [hb] at h; injection h with h; subst h; exact hc
      | some k =>
        rw [hb] at h
        simp only at h
        split at h <;> injection h with h <;> subst h
        · exact hc
        exact bestI_some hb
    exact bestI_some h
theorem bestI_none {l : List Container} {f : Flight} {p : Piece} : ∀ {i : Nat}, bestI l f p i = none → ∀ j, j < i → (flEq (l.getD j default).flight f && admB (l.getD j default) p) = false
  | 0, _, j, hj => by omega
  | i + 1, h, j, hj => by
    unfold bestI at h
    split at h
    · cases hb : bestI l f p i with
      | none => rw [hb] at h; cases h
      | some k =>
        rw [hb] at h
        simp only at h
        split at h <;> cases h
    rename_i hc
    rcases Nat.lt_or_ge j i with h' | h'
    · exact bestI_none h j h'
    obtain rfl : j = i := by omega
    simpa using hc
def befB (a b : Piece) : Bool := decide (a.weight > b.weight) || (decide (a.weight = b.weight) && decide (cmpP a.plate b.plate < 0))
/-- How many of the first k pieces lie ahead of p. -/
def kB (p : Piece) (out : List Piece) : Nat → Nat
  | 0 => 0
  | k + 1 => if befB p (out.getD k default) then kB p out k else k + 1
def insB (out : List Piece) (p : Piece) : List Piece := out.take (kB p out out.length) ++ p :: out.drop (kB p out out.length)
def ordV (l : List Piece) : List Piece := l.foldl insB []
theorem kB_le (p : Piece) (out : List Piece) : ∀ k, kB p out k ≤ k
  | 0 => Nat.le_refl _
  | k + 1 => by
    unfold kB
    split
    · have := kB_le p out k; omega
    exact Nat.le_refl _
theorem insB_perm (out : List Piece) (p : Piece) : (insB out p).Perm (p :: out) := by
  unfold insB
  refine List.perm_middle.trans ?_
  rw [List.take_append_drop]
theorem ordV_perm_aux : ∀ (l out : List Piece), (l.foldl insB out).Perm (l ++ out)
  | [], out => List.Perm.refl _
  | p :: l, out => by
    refine (ordV_perm_aux l (insB out p)).trans ?_
    exact (List.Perm.append_left l (insB_perm out p)).trans List.perm_middle
theorem ordV_perm (l : List Piece) : (ordV l).Perm l := by
  have := ordV_perm_aux l []
  rwa [List.append_nil] at this
theorem perm_sorted {α : Type} {R : α → α → Prop} (hR : ∀ a b, R a b → ¬ R b a) : ∀ {l1 l2 : List α}, l1.Perm l2 → l1.Pairwise R → l2.Pairwise R → l1 = l2
  | [], l2, h, _, _ => by rw [List.nil_perm.1 h]
  | a :: l1, [], h, _, _ => absurd h.symm (by simp)
  | a :: l1, b :: l2, h, h1, h2 => by
    have ha : a ∈ b :: l2 := h.subset (by simp)
    have hb : b ∈ a :: l1 := h.symm.subset (by simp)
    rw [List.pairwise_cons] at h1 h2
    rcases List.mem_cons.1 ha with rfl | ha
    · rw [perm_sorted hR (h.cons_inv) h1.2 h2.2]
    rcases List.mem_cons.1 hb with rfl | hb
    · rw [perm_sorted hR (h.cons_inv) h1.2 h2.2]
    exact absurd (h1.1 b hb) (hR _ _ (h2.1 a ha))
end Go.Proofs.YtmdohphcolffmaaGreat
namespace Go.Proofs.YtmdohphcolffmaaGreat
open Go.RowKit
set_option linter.unusedSimpArgs false
set_option linter.unusedVariables false
set_option maxRecDepth 100000
def Bef (a b : Piece) : Prop := a.weight > b.weight ∨ (a.weight = b.weight ∧ PLt a.plate b.plate)
theorem bef_iff {a b : Piece} : befB a b = true ↔ Bef a b := by
  unfold befB Bef
  simp only [Bool.or_eq_true, Bool.and_eq_true, decide_eq_true_eq, cmpP_lt]
theorem Bef.trans {a b c : Piece} (h : Bef a b) (h' : Bef b c) : Bef a c := by
  unfold Bef at *
  rcases h with h | ⟨h, hp⟩ <;> rcases h' with h' | ⟨h', hp'⟩
  · left; omega
  · left; omega
  · left; omega
  right; exact ⟨by omega, hp.trans hp'⟩
theorem Bef.asymm (a b : Piece) (h : Bef a b) : ¬ Bef b a := fun h' => by
  have := h.trans h'
  unfold Bef at this
  rcases this with h | ⟨_, h⟩
  · omega
  exact PLt.irrefl _ h
theorem Bef.total {a b : Piece} (h : a.plate ≠ b.plate) (hn : ¬ Bef a b) : Bef b a := by
  unfold Bef at *
  rcases Int.lt_trichotomy a.weight b.weight with hw | hw | hw
  · left; exact hw
  · right
    refine ⟨hw.symm, ?_⟩
    rcases cmpP_cases a.plate b.plate with ⟨hp, _⟩ | ⟨hp, _⟩ | ⟨hp, _⟩
    · exact absurd (.inr ⟨hw, hp⟩) hn
    · exact absurd hp h
    exact hp
  exact absurd (.inl hw) hn
theorem kB_hi {p : Piece} {out : List Piece} : ∀ {k j : Nat}, kB p out k ≤ j → j < k → befB p (out.getD j default) = true
  | 0, j, _, h => by omega
  | k + 1, j, h1, h2 => by
    unfold kB at h1
    split at h1
    · rename_i hb
      rcases Nat.lt_or_ge j k with h | h
      · exact kB_hi h1 h
      obtain rfl : j = k := by omega
      exact hb
    omega
theorem kB_lo {p : Piece} {out : List Piece} : ∀ {k : Nat}, 0 < kB p out k → befB p (out.getD (kB p out k - 1) default) = false
  | 0, h => by unfold kB at h; omega
  | k + 1, h => by
    unfold kB at h ⊢
    by_cases hb : befB p (out.getD k default) = true
    · rw [if_pos hb] at h ⊢
      exact kB_lo h
    rw [if_neg hb]
    simpa using hb
/-- Different plates. -/
def DisP (l : List Piece) : Prop := l.Pairwise fun a b => a.plate ≠ b.plate
theorem getD_el {l : List Piece} {i : Nat} (h : i < l.length) : l.getD i default = l[i] := by
  rw [List.getD_eq_getElem?_getD, List.getElem?_eq_getElem h]; rfl
theorem insB_sorted {out : List Piece} {p : Piece} (h : out.Pairwise Bef) (hd : ∀ x ∈ out, x.plate ≠ p.plate) : (insB out p).Pairwise Bef := by
  have hk := kB_le p out out.length
  have hlo : ∀ j (hj : j < out.length), j < kB p out out.length → Bef out[j] p := fun j hj hjk => by
    have hl := kB_lo (p := p) (out := out) (k := out.length) (by omega)
    rw [getD_el (by omega)] at hl
    have hlast : Bef out[kB p out out.length - 1] p := Bef.total (fun e => hd _ (List.getElem_mem _) e.symm) (fun hb => by rw [bef_iff.2 hb] at hl; cases hl)
    rcases Nat.lt_or_ge j (kB p out out.length - 1) with h1 | h1
    · exact (List.pairwise_iff_getElem.1 h j _ hj (by omega) h1).trans hlast
    have e : j = kB p out out.length - 1 := by omega
    subst e
    exact hlast
  have hhi : ∀ j (hj : j < out.length), kB p out out.length ≤ j → Bef p out[j] := fun j hj hjk => by
    have := kB_hi hjk hj
    rw [getD_el hj] at this
    exact bef_iff.1 this
  unfold insB
  have h0 := h
  rw [← List.take_append_drop (kB p out out.length) out, List.pairwise_append] at h0
  rw [List.pairwise_append]
  refine ⟨h0.1, List.pairwise_cons.2 ⟨fun b hb => ?_, h0.2.1⟩, fun a ha b hb => ?_⟩
  · obtain ⟨i, hi, rfl⟩ := List.getElem_of_mem hb
    rw [List.getElem_drop]
    exact hhi _ _ (by omega)
  rcases List.mem_cons.1 hb with rfl | hb
  · obtain ⟨i, hi, rfl⟩ := List.getElem_of_mem ha
    rw [List.getElem_take]
    rw [List.length_take] at hi
    exact hlo _ _ (by omega)
  exact h0.2.2 a ha b hb
theorem ordV_sorted_aux : ∀ (l out : List Piece), out.Pairwise Bef → DisP (l ++ out) → (l.foldl insB out).Pairwise Bef
  | [], out, h, _ => h
  | p :: l, out, h, hd => by
    have hd' : DisP (p :: (l ++ out)) := hd
    unfold DisP at hd'
    rw [List.pairwise_cons] at hd'
    refine ordV_sorted_aux l (insB out p) (insB_sorted h fun x hx => (hd'.1 x (by simp [hx])).symm) ?_
    unfold DisP
    refine List.Pairwise.perm hd (((List.Perm.append_left l (insB_perm out p)).trans List.perm_middle).symm) (fun h e => h e.symm)
theorem ordV_sorted {l : List Piece} (h : DisP l) : (ordV l).Pairwise Bef := ordV_sorted_aux l [] List.Pairwise.nil (by rwa [List.append_nil])
/-- There is one order. -/
theorem ord_unique {l d : List Piece} (h : DisP l) (hp : d.Perm l) (hs : d.Pairwise Bef) : d = ordV l := perm_sorted Bef.asymm (hp.trans (ordV_perm l).symm) hs (ordV_sorted h)
end Go.Proofs.YtmdohphcolffmaaGreat
namespace Go.Proofs.YtmdohphcolffmaaGreat
open Go.RowKit
set_option linter.unusedSimpArgs false
set_option linter.unusedVariables false
set_option maxRecDepth 100000
def stepA (f : Flight) (s : List Container × List Piece) (b : Piece) : List Container × List Piece :=
  match bestV s.1 f b with | none => (s.1, s.2 ++ [b]) | some i => (s.1.set i (putC (s.1.getD i default) b true).1, s.2)
def asgF (f : Flight) (s : List Container × List Piece) (bags : List Piece) : List Container × List Piece := bags.foldl (stepA f) s
def errB (l : List Container) (bags : List Piece) (i : Nat) : Int :=
  if piB (bags.getD i default) = false then 1 else if ((findL l (bags.getD i default).plate).2 || (bags.take i).any fun x => decide (x.plate = (bags.getD i default).plate)) = true then 5 else 0
def asgE (l : List Container) (bags : List Piece) : Int := orL ((List.range bags.length).map (errB l bags))
def asgV (l : List Container) (f : Flight) (bags : List Piece) : List Container × List Piece × Int :=
  if chkL l ≠ 0 then ([], [], chkL l) else if asgE l bags ≠ 0 then ([], [], asgE l bags) else ((asgF f (l, []) (ordV bags)).1, (asgF f (l, []) (ordV bags)).2, 0)
/-- What every list of containers keeps that bags are put into. -/
structure InvO (l : List Container) : Prop where
  len : l.length ≤ 24
  val : ∀ c ∈ l, valC c = 0
theorem chk_vals : ∀ (cs : List Container) (o : Option Int) (sp : List Container) (pl : List Plate), chk o cs sp pl = 0 → ∀ c ∈ cs, valC c = 0
  | [], _, _, _, _, c, hc => by cases hc
  | d :: cs, o, sp, pl, h, c, hc => by
    unfold chk at h
    by_cases h1 : valC d ≠ 0
    · rw [if_pos h1] at h; exact absurd h h1
    rw [if_neg h1] at h
    rcases List.mem_cons.1 hc with rfl | hc
    · simpa using h1
    by_cases h2 : prevBad o d.number = true
    · rw [if_pos h2] at h; cases h
    rw [if_neg h2] at h
    by_cases h3 : d.position ≠ 0 ∧ spotOf d ∈ sp.map spotOf
    · rw [if_pos h3] at h; cases h
    rw [if_neg h3] at h
    cases hp : chkP d.pieces pl with
    | none => rw [hp] at h; cases h
    | some pl' =>
      rw [hp] at h
      exact chk_vals cs _ _ _ h c hc
theorem InvO.of {l : List Container} (h : chkL l = 0) : InvO l := by
  unfold chkL at h
  by_cases hl : (l.length : Int) > 24
  · rw [if_pos hl] at h; cases h
  rw [if_neg hl] at h
  exact ⟨by omega, chk_vals l _ _ _ h⟩
/-- What an admitted piece says. -/
structure Adm (c : Container) (p : Piece) : Prop where
  val : valC c = 0
  pi : piB p = true
  has : hasB c.pieces p.plate = false
  bit : bitB c.categories p.category = true
  full : fullB c p = false
  len : c.pieces.length < 60
theorem adm_iff {c : Container} {p : Piece} : admB c p = true ↔ Adm c p := by
  unfold admB
  rw [decide_eq_true_eq]
  by_cases hv : valC c = 0
  · by_cases hp : piB p = true
    · rw [put_eq hv hp, found_has (val_asc hv)]
      cases hb : hasB c.pieces p.plate with
      | true => rw [if_pos rfl]; exact ⟨fun h => (by cases h), fun h => by have := h.has; rw [hb] at this; cases this⟩
      | false =>
        rw [if_neg (by decide)]
        cases hbit : bitB c.categories p.category with
        | false => rw [if_pos (by decide)]; exact ⟨fun h => (by cases h), fun h => by have := h.bit; rw [hbit] at this; cases this⟩
        | true =>
          rw [if_neg (by decide)]
          cases hf : fullB c p with
          | true => rw [if_pos (by decide)]; exact ⟨fun h => (by cases h), fun h => by have := h.full; rw [hf] at this; cases this⟩
          | false =>
            rw [if_neg (by decide)]
            by_cases hl : (c.pieces.length : Int) ≥ 60
            · rw [if_pos hl]; exact ⟨fun h => (by cases h), fun h => by have := h.len; omega⟩
            rw [if_neg hl]; exact ⟨fun _ => ⟨hv, hp, hb, hbit, hf, by omega⟩, fun _ => rfl⟩
    unfold putC
    rw [if_neg (by simpa using hv), if_pos (by simpa using hp)]
    exact ⟨fun h => (by cases h), fun h => absurd h.pi hp⟩
  unfold putC
  rw [if_pos hv]
  exact ⟨fun h => absurd h hv, fun h => absurd h.val hv⟩
theorem Adm.put {c : Container} {p : Piece} (h : Adm c p) : putC c p true = (insC c p, 0) := by
  have hl := h.len
  rw [put_eq h.val h.pi, found_has (val_asc h.val), h.has, h.bit, h.full, if_neg (by decide), if_neg (by decide), if_neg (by decide), if_neg (by omega)]
theorem Adm.ins {c : Container} {p : Piece} (h : Adm c p) : valC (insC c p) = 0 := ins_val h.val h.pi h.has h.len
theorem bestV_some {l : List Container} {f : Flight} {p : Piece} {i : Nat} (h : bestV l f p = some i) : i < l.length ∧ flEq (l.getD i default).flight f = true ∧ Adm (l.getD i default) p :=
  ⟨bestI_lt h, (bestI_some h).1, adm_iff.1 (bestI_some h).2⟩
theorem stepA_none {f : Flight} {s : List Container × List Piece} {b : Piece} (h : bestV s.1 f b = none) : stepA f s b = (s.1, s.2 ++ [b]) := by unfold stepA; rw [h]
theorem stepA_some {f : Flight} {s : List Container × List Piece} {b : Piece} {i : Nat} (h : bestV s.1 f b = some i) : stepA f s b = (s.1.set i (insC (s.1.getD i default) b), s.2) := by
  unfold stepA
  rw [h]
  simp only
  rw [(bestV_some h).2.2.put]
theorem InvO.step {f : Flight} {s : List Container × List Piece} (h : InvO s.1) (b : Piece) : InvO (stepA f s b).1 := by
  cases hb : bestV s.1 f b with
  | none => rw [stepA_none hb]; exact h
  | some i =>
    rw [stepA_some hb]
    refine ⟨by rw [List.length_set]; exact h.len, fun c hc => ?_⟩
    rcases List.mem_or_eq_of_mem_set hc with hc | rfl
    · exact h.val c hc
    exact (bestV_some hb).2.2.ins
theorem InvO.fold {f : Flight} : ∀ (bags : List Piece) {s : List Container × List Piece}, InvO s.1 → InvO (asgF f s bags).1
  | [], _, h => h
  | b :: bags, _, h => InvO.fold bags (h.step b)
theorem asgF_take {f : Flight} {s : List Container × List Piece} {bags : List Piece} {i : Nat} (h : i < bags.length) : asgF f s (bags.take (i + 1)) = stepA f (asgF f s (bags.take i)) (bags.getD i default) := by
  unfold asgF
  rw [List.take_add_one, List.foldl_append, List.getElem?_eq_getElem h, getD_el h]
  rfl
theorem asgF_len {f : Flight} : ∀ (bags : List Piece) (s : List Container × List Piece), (asgF f s bags).1.length = s.1.length ∧ (asgF f s bags).2.length ≤ s.2.length + bags.length
  | [], s => ⟨rfl, Nat.le_refl _⟩
  | b :: bags, s => by
    obtain ⟨h1, h2⟩ := asgF_len bags (stepA f s b)
    show (asgF f (stepA f s b) bags).1.length = _ ∧ (asgF f (stepA f s b) bags).2.length ≤ _
    rw [h1]
    cases hb : bestV s.1 f b with
    | none => rw [stepA_none hb] at h2 ⊢; refine ⟨rfl, ?_⟩; simp only [List.length_append, List.length_cons, List.length_nil] at h2 ⊢; omega
    | some i => rw [stepA_some hb] at h2 ⊢; refine ⟨by simp, ?_⟩; simp only [List.length_cons] at h2 ⊢; omega
theorem orL_zero {l : List Int} (h : orL l = 0) : ∀ x ∈ l, x = 0 := by
  intro x hx
  refine Classical.byContradiction fun hne => ?_
  unfold orL at h
  cases hf : l.find? (fun x => decide (x ≠ 0)) with
  | none => exact hne (by simpa using List.find?_eq_none.1 hf x hx)
  | some y =>
    have := List.find?_some hf
    rw [hf] at h
    simp at this h
    exact this h
theorem asgE_all {l : List Container} {bags : List Piece} (h : asgE l bags = 0) : ∀ i, i < bags.length → errB l bags i = 0 := fun i hi =>
  orL_zero h _ (List.mem_map.2 ⟨i, List.mem_range.2 hi, rfl⟩)
theorem errB_0 {l : List Container} {bags : List Piece} {i : Nat} (h : errB l bags i = 0) : piB (bags.getD i default) = true ∧ (findL l (bags.getD i default).plate).2 = false ∧ ∀ x ∈ bags.take i, x.plate ≠ (bags.getD i default).plate := by
  unfold errB at h
  by_cases h1 : piB (bags.getD i default) = false
  · rw [if_pos h1] at h; cases h
  rw [if_neg h1] at h
  by_cases h2 : ((findL l (bags.getD i default).plate).2 || (bags.take i).any fun x => decide (x.plate = (bags.getD i default).plate)) = true
  · rw [if_pos h2] at h; cases h
  simp only [Bool.or_eq_true, not_or, List.any_eq_true, decide_eq_true_eq, not_exists, not_and, Bool.not_eq_true] at h2
  exact ⟨by simpa using h1, h2.1, h2.2⟩
theorem asgE_dis {l : List Container} {bags : List Piece} (h : asgE l bags = 0) : DisP bags := by
  unfold DisP
  rw [List.pairwise_iff_getElem]
  intro i j hi hj hij
  have := (errB_0 (asgE_all h j hj)).2.2 bags[i] (by rw [List.mem_take_iff_getElem]; exact ⟨i, by omega, rfl⟩)
  rwa [getD_el hj] at this
theorem asgE_pi {l : List Container} {bags : List Piece} (h : asgE l bags = 0) : ∀ b ∈ bags, piB b = true ∧ (findL l b.plate).2 = false := fun b hb => by
  obtain ⟨i, hi, rfl⟩ := List.getElem_of_mem hb
  have := errB_0 (asgE_all h i hi)
  rw [getD_el hi] at this
  exact ⟨this.1, this.2.1⟩
end Go.Proofs.YtmdohphcolffmaaGreat
namespace Go.Proofs.YtmdohphcolffmaaGreat
open Go.RowKit
set_option linter.unusedSimpArgs false
set_option linter.unusedVariables false
set_option maxRecDepth 100000
structure GoodC (ys : List Container) : Prop where
  val : ∀ c ∈ ys, valC c = 0
  asc : ys.Pairwise fun c d => c.number < d.number
  pos : ∀ (i : Nat) (h : i < ys.length), ys[i].position = 0 ∨ ys[i].position = i + 1
  disj : ys.Pairwise fun c d => ∀ x ∈ c.pieces, ∀ y ∈ d.pieces, x.plate ≠ y.plate
theorem InvB.good {i : Nat} {cs : List Container} (h : InvB i cs) : GoodC cs := ⟨fun c hc => h.val hc, h.asc, h.pos, h.disj⟩
theorem chkP_some : ∀ (l : List Piece) (pl : List Plate), AscP l → (∀ x ∈ l, x.plate ∉ pl) → ∃ pl', chkP l pl = some pl' ∧ ∀ q, q ∈ pl' → q ∈ pl ∨ ∃ x ∈ l, x.plate = q
  | [], pl, _, _ => ⟨pl, rfl, fun q h => .inl h⟩
  | p :: l, pl, ha, hn => by
    have h1 := List.pairwise_cons.1 ha
    rw [chkP_cons, if_neg (hn p (by simp))]
    obtain ⟨pl', h2, h3⟩ := chkP_some l (p.plate :: pl) h1.2 (fun x hx hm => by
      rcases List.mem_cons.1 hm with e | hm
      · have := h1.1 x hx; rw [e] at this; exact PLt.irrefl _ this
      exact hn x (by simp [hx]) hm)
    refine ⟨pl', h2, fun q hq => ?_⟩
    rcases h3 q hq with h | ⟨x, hx, e⟩
    · rcases List.mem_cons.1 h with rfl | h
      · exact .inr ⟨p, by simp, rfl⟩
      exact .inl h
    exact .inr ⟨x, by simp [hx], e⟩
theorem chk_zero : ∀ (cs : List Container) (o : Option Int) (sp : List Container) (pl : List Plate), (∀ c ∈ cs, valC c = 0) → (cs.Pairwise fun c d => c.number < d.number) → (∀ m, o = some m → ∀ c ∈ cs, m < c.number) →
    (cs.Pairwise fun c d => c.position ≠ 0 → c.position ≠ d.position) → (∀ s ∈ sp, ∀ c ∈ cs, s.position ≠ c.position) → (∀ c ∈ cs, ∀ x ∈ c.pieces, x.plate ∉ pl) → (cs.Pairwise fun c d => ∀ x ∈ c.pieces, ∀ y ∈ d.pieces, x.plate ≠ y.plate) → chk o cs sp pl = 0
  | [], _, _, _, _, _, _, _, _, _, _ => rfl
  | c :: cs, o, sp, pl, hv, ha, ho, hp, hs, hpl, hd => by
    have ha1 := List.pairwise_cons.1 ha
    have hp1 := List.pairwise_cons.1 hp
    have hd1 := List.pairwise_cons.1 hd
    obtain ⟨pl', h2, h3⟩ := chkP_some c.pieces pl (val_asc (hv c (by simp))) (hpl c (by simp))
    unfold chk
    rw [if_neg (by simp [hv c (by simp)]), if_neg (by
      cases o with
      | none => simp [prevBad]
      | some m => have := ho m rfl c (by simp); unfold prevBad; simp; omega), if_neg (by
      rintro ⟨_, hm⟩
      obtain ⟨s, h4, h5⟩ := List.mem_map.1 hm
      exact hs s h4 c (by simp) (congrArg Spot.position h5)), h2]
    simp only
    refine chk_zero cs _ _ pl' (fun d hd => hv d (by simp [hd])) ha1.2 (fun m hm d hd => by injection hm with hm; rw [← hm]; exact ha1.1 d hd) hp1.2 (fun s h4 d hdm => ?_) (fun d hdm x hx hm => ?_) hd1.2
    · by_cases h0 : c.position ≠ 0
      · rw [if_pos h0] at h4
        rcases List.mem_cons.1 h4 with e | h4
        · rw [e]; exact hp1.1 d hdm h0
        exact hs s h4 d (List.mem_cons_of_mem _ hdm)
      rw [if_neg h0] at h4
      exact hs s h4 d (List.mem_cons_of_mem _ hdm)
    rcases h3 _ hm with h | ⟨y, hy, e⟩
    · exact hpl d (List.mem_cons_of_mem _ hdm) x hx h
    exact hd1.1 d hdm y hy x hx e
theorem GoodC.chk {ys : List Container} (h : GoodC ys) (hl : ys.length ≤ 24) : chkL ys = 0 := by
  unfold chkL
  rw [if_neg (by omega)]
  refine chk_zero ys none [] [] h.val h.asc (by simp) (List.pairwise_iff_getElem.2 fun i j hi hj hij h0 => ?_) (by simp) (by simp) h.disj
  rcases h.pos i hi with h1 | h1 <;> rcases h.pos j hj with h2 | h2 <;> omega
theorem GoodC.set {ys : List Container} (h : GoodC ys) {q : Nat} (hq : q < ys.length) {d : Container} (hv : valC d = 0) (hn : d.number = ys[q].number) (hp : d.position = ys[q].position)
    (hd : ∀ (k : Nat) (hk : k < ys.length), k ≠ q → ∀ x ∈ d.pieces, ∀ y ∈ ys[k].pieces, x.plate ≠ y.plate) : GoodC (ys.set q d) := by
  have hnum : ∀ (j : Nat) (hj : j < (ys.set q d).length), (ys.set q d)[j].number = (ys[j]'(by simpa using hj)).number := fun j hj => by
    rw [List.getElem_set]
    split
    · rename_i e; subst e; exact hn
    rfl
  have hpos : ∀ (j : Nat) (hj : j < (ys.set q d).length), (ys.set q d)[j].position = (ys[j]'(by simpa using hj)).position := fun j hj => by
    rw [List.getElem_set]
    split
    · rename_i e; subst e; exact hp
    rfl
  refine ⟨fun c hc => ?_, ?_, fun j hj => ?_, ?_⟩
  · rcases List.mem_or_eq_of_mem_set hc with hc | rfl
    · exact h.val c hc
    exact hv
  · refine List.pairwise_iff_getElem.2 fun a b ha hb hab => ?_
    rw [hnum, hnum]
    exact List.pairwise_iff_getElem.1 h.asc a b (by simpa using ha) (by simpa using hb) hab
  · rw [hpos]; exact h.pos j (by simpa using hj)
  refine List.pairwise_iff_getElem.2 fun a b ha hb hab => ?_
  have ha' : a < ys.length := by simpa using ha
  have hb' : b < ys.length := by simpa using hb
  rw [List.getElem_set, List.getElem_set]
  split
  · rename_i e
    subst e
    rw [if_neg (by omega)]
    exact hd b hb' (by omega)
  split
  · rename_i e
    subst e
    intro x hx y hy e2
    exact hd a ha' (by omega) y hy x hx e2.symm
  exact List.pairwise_iff_getElem.1 h.disj a b ha' hb' hab
theorem GoodC.only {ys : List Container} (h : GoodC ys) {p : Plate} {q : Nat} (hq : q < ys.length) (hh : hasB ys[q].pieces p = true) {k : Nat} (hk : k < ys.length) (hne : k ≠ q) : hasB ys[k].pieces p = false := by
  obtain ⟨x, hx, rfl⟩ := hasB_iff.1 hh
  refine hasB_no.2 fun y hy e => ?_
  rcases Nat.lt_or_gt_of_ne hne with h' | h'
  · exact List.pairwise_iff_getElem.1 h.disj k q hk hq h' y hy x hx e
  exact List.pairwise_iff_getElem.1 h.disj q k hq hk h' x hx y hy e.symm
theorem GoodC.num {ys : List Container} (h : GoodC ys) {q k : Nat} (hq : q < ys.length) (hk : k < ys.length) (e : ys[k].number = ys[q].number) : k = q := by
  rcases Nat.lt_trichotomy k q with h' | h' | h'
  · have := List.pairwise_iff_getElem.1 h.asc k q hk hq h'; omega
  · exact h'
  have := List.pairwise_iff_getElem.1 h.asc q k hq hk h'; omega
def cntL (xs : List Container) (p : Plate) : Int := ((xs.countP fun c => hasB c.pieces p : Nat) : Int)
end Go.Proofs.YtmdohphcolffmaaGreat
namespace Go.Proofs.YtmdohphcolffmaaGreat
open Go.RowKit
set_option linter.unusedSimpArgs false
set_option linter.unusedVariables false
set_option maxRecDepth 100000
theorem mem_ins {c : Container} {p q : Piece} : q ∈ (insC c p).pieces ↔ q = p ∨ q ∈ c.pieces := by
  rw [ins_pieces, (insL_perm c.pieces p).mem_iff, List.mem_cons]
theorem len_ins (c : Container) (p : Piece) : (insC c p).pieces.length = c.pieces.length + 1 := by
  rw [ins_pieces, (insL_perm c.pieces p).length_eq]; rfl
theorem sum_ins (c : Container) (p : Piece) : sumW (insC c p).pieces = p.weight + sumW c.pieces := by
  rw [ins_pieces, sumW_perm (insL_perm c.pieces p)]
  unfold sumW
  simp
theorem set_get {α : Type} [Inhabited α] {l : List α} {i k : Nat} {x : α} (hi : i < l.length) : (l.set i x).getD k default = if i = k then x else l.getD k default := by
  rw [List.getD_eq_getElem?_getD, List.getD_eq_getElem?_getD, List.getElem?_set]
  by_cases h : i = k
  · subst h; rw [if_pos rfl, if_pos rfl, if_pos hi]; rfl
  rw [if_neg h, if_neg h]
theorem getD_c {l : List Container} {i : Nat} (h : i < l.length) : l.getD i default = l[i] := by
  rw [List.getD_eq_getElem?_getD, List.getElem?_eq_getElem h]; rfl
/-- The head of a container is as it was. -/
def HeadEq (c d : Container) : Prop := d.number = c.number ∧ d.flight = c.flight ∧ d.categories = c.categories ∧ d.limit = c.limit ∧ d.most = c.most ∧ d.position = c.position ∧ d.arm = c.arm
theorem HeadEq.ins {c d : Container} (h : HeadEq c d) (p : Piece) : HeadEq c (insC d p) := h
structure CI (x : List Container) (f : Flight) (B : List Piece) (s : List Container × List Piece) : Prop where
  good : GoodC s.1
  len : s.1.length = x.length
  head : ∀ i, i < x.length → HeadEq (x.getD i default) (s.1.getD i default)
  sub : ∀ i, i < x.length → ∀ q ∈ (x.getD i default).pieces, q ∈ (s.1.getD i default).pieces
  same : ∀ i, i < x.length → flEq (x.getD i default).flight f = false → s.1.getD i default = x.getD i default
  new : ∀ i, i < x.length → ∀ q ∈ (s.1.getD i default).pieces, q ∈ (x.getD i default).pieces ∨ q ∈ B
  cnt : (s.1.map fun c => c.pieces.length).sum + s.2.length = (x.map fun c => c.pieces.length).sum + B.length
  over : ∀ i, i < x.length → overC (x.getD i default) = false → overC (s.1.getD i default) = false
  left : ∀ q ∈ s.2, q ∈ B ∧ ∀ i, i < x.length → flEq (x.getD i default).flight f = true → admB (s.1.getD i default) q = false
  inl : ∀ q ∈ B, q ∈ s.2 ∨ ∃ i, i < x.length ∧ q ∈ (s.1.getD i default).pieces
  excl : ∀ q ∈ s.2, ∀ i, i < x.length → hasB (s.1.getD i default).pieces q.plate = false
theorem CI.start {x : List Container} {f : Flight} (h : GoodC x) : CI x f [] (x, []) :=
  ⟨h, rfl, fun _ _ => ⟨rfl, rfl, rfl, rfl, rfl, rfl, rfl⟩, fun _ _ _ h => h, fun _ _ _ => rfl, fun _ _ _ h => .inl h, rfl, fun _ _ h => h, fun q h => (by cases h), fun q h => (by cases h), fun q h => (by cases h)⟩
theorem sum_set {l : List Container} {i : Nat} {d : Container} (hi : i < l.length) (hd : d.pieces.length = (l.getD i default).pieces.length + 1) : ((l.set i d).map fun c => c.pieces.length).sum = (l.map fun c => c.pieces.length).sum + 1 := by
  induction l generalizing i with
  | nil => simp at hi
  | cons a l ih =>
    cases i with
    | zero =>
      simp only [List.set_cons_zero, List.map_cons, List.sum_cons]
      have : d.pieces.length = a.pieces.length + 1 := hd
      omega
    | succ i =>
      simp only [List.set_cons_succ, List.map_cons, List.sum_cons]
      have := ih (i := i) (by simpa using hi) hd
      omega
theorem Adm.less {c d : Container} {q : Piece} (h : Adm d q) (hv : valC c = 0) (hh : HeadEq c d) (hs : ∀ x ∈ c.pieces, x ∈ d.pieces) (hw : sumW c.pieces ≤ sumW d.pieces) (hl : c.pieces.length ≤ d.pieces.length) : Adm c q := by
  refine ⟨hv, h.pi, hasB_no.2 fun x hx => hasB_no.1 h.has x (hs x hx), by rw [← hh.2.2.1]; exact h.bit, ?_, by have := h.len; omega⟩
  have := h.full
  unfold fullB at this ⊢
  simp only [Bool.or_eq_false_iff, decide_eq_false_iff_not] at this ⊢
  obtain ⟨_, _, _, h4, h5, _⟩ := hh
  omega
theorem over_ins {c : Container} {p : Piece} (ha : Adm c p) (ho : overC c = false) : overC (insC c p) = false := by
  have h1 := (over_no ha.val).1 ho
  have hf := ha.full
  unfold fullB at hf
  simp only [Bool.or_eq_false_iff, decide_eq_false_iff_not] at hf
  refine (over_no ha.ins).2 ⟨fun x hx => ?_, ?_, ?_⟩
  · rcases mem_ins.1 hx with rfl | hx
    · exact ha.bit
    exact h1.1 x hx
  · rw [sum_ins]
    show _ ≤ c.limit
    omega
  rw [len_ins]
  show _ ≤ c.most
  omega
theorem CI.step {x : List Container} {f : Flight} {B : List Piece} {s : List Container × List Piece} (h : CI x f B s) {b : Piece} (hB : ∀ q ∈ B, q.plate ≠ b.plate) (hx : ∀ i, i < x.length → hasB (x.getD i default).pieces b.plate = false) :
    CI x f (B ++ [b]) (stepA f s b) := by
  have hnot : ∀ i, i < x.length → hasB (s.1.getD i default).pieces b.plate = false := fun i hi => hasB_no.2 fun q hq => by
    rcases h.new i hi q hq with h1 | h1
    · exact hasB_no.1 (hx i hi) q h1
    exact hB q h1
  cases hb : bestV s.1 f b with
  | none =>
    rw [stepA_none hb]
    refine ⟨h.good, h.len, h.head, h.sub, h.same, fun i hi q hq => (h.new i hi q hq).imp id fun h1 => by simp [h1], ?_, h.over, fun q hq => ?_, fun q hq => ?_, fun q hq i hi => ?_⟩
    · have := h.cnt
      simp only [List.length_append, List.length_cons, List.length_nil] at this ⊢
      omega
    · rcases List.mem_append.1 hq with h1 | h1
      · exact ⟨by simp [(h.left q h1).1], (h.left q h1).2⟩
      obtain rfl : q = b := by simpa using h1
      refine ⟨by simp, fun i hi hf => ?_⟩
      have := bestI_none (show bestI s.1 f q s.1.length = none from hb) i (by rw [h.len]; exact hi)
      rw [(h.head i hi).2.1, hf, Bool.true_and] at this
      exact this
    · rcases List.mem_append.1 hq with h1 | h1
      · exact (h.inl q h1).imp (fun h2 => by simp [h2]) id
      left; obtain rfl : q = b := by simpa using h1
      simp
    rcases List.mem_append.1 hq with h1 | h1
    · exact h.excl q h1 i hi
    obtain rfl : q = b := by simpa using h1
    exact hnot i hi
  | some k =>
    obtain ⟨hk, hfk, ha⟩ := bestV_some hb
    rw [stepA_some hb]
    have hkx : k < x.length := by rw [← h.len]; exact hk
    have hg : ∀ i, (s.1.set k (insC (s.1.getD k default) b)).getD i default = if k = i then insC (s.1.getD k default) b else s.1.getD i default := fun i => set_get hk
    refine ⟨?_, by rw [List.length_set]; exact h.len, fun i hi => ?_, fun i hi q hq => ?_, fun i hi hf => ?_, fun i hi q hq => ?_, ?_, fun i hi ho => ?_, fun q hq => ?_, fun q hq => ?_, fun q hq i hi => ?_⟩
    · refine h.good.set hk ha.ins (by rw [← getD_c hk]; rfl) (by rw [← getD_c hk]; rfl) fun j hj hjk y hy z hz => ?_
      rcases mem_ins.1 hy with rfl | hy
      · have := hasB_no.1 (hnot j (by rw [← h.len]; exact hj)) z (by rw [getD_c hj]; exact hz)
        exact fun e => this e.symm
      rw [getD_c hk] at hy
      rcases Nat.lt_or_gt_of_ne hjk with h1 | h1
      · exact fun e => List.pairwise_iff_getElem.1 h.good.disj j k hj hk h1 z hz y hy e.symm
      exact List.pairwise_iff_getElem.1 h.good.disj k j hk hj h1 y hy z hz
    · rw [hg]
      split
      · rename_i e; subst e; exact (h.head k hi).ins b
      exact h.head i hi
    · rw [hg]
      split
      · rename_i e; subst e; exact mem_ins.2 (.inr (h.sub k hi q hq))
      exact h.sub i hi q hq
    · rw [hg]
      split
      · rename_i e; subst e
        rw [(h.head k hi).2.1, hf] at hfk
        cases hfk
      exact h.same i hi hf
    · rw [hg] at hq
      split at hq
      · rename_i e; subst e
        rcases mem_ins.1 hq with rfl | hq
        · right; simp
        exact (h.new k hi q hq).imp id fun h1 => by simp [h1]
      exact (h.new i hi q hq).imp id fun h1 => by simp [h1]
    · have := h.cnt
      rw [sum_set hk (len_ins _ _)]
      simp only [List.length_append, List.length_cons, List.length_nil]
      omega
    · rw [hg]
      split
      · rename_i e; subst e; exact over_ins ha (h.over k hi ho)
      exact h.over i hi ho
    · refine ⟨by simp [(h.left q hq).1], fun i hi hf => ?_⟩
      rw [hg]
      split
      · rename_i e; subst e
        cases hab : admB (insC (s.1.getD k default) b) q with
        | false => rfl
        | true =>
          have := (adm_iff.1 hab).less ha.val ⟨rfl, rfl, rfl, rfl, rfl, rfl, rfl⟩ (fun x hx => mem_ins.2 (.inr hx)) (by rw [sum_ins]; have := (piB_inv ha.pi).2.1; omega) (by rw [len_ins]; omega)
          have h2 := (h.left q hq).2 k hi hf
          rw [adm_iff.2 this] at h2
          cases h2
      exact (h.left q hq).2 i hi hf
    · rcases List.mem_append.1 hq with h1 | h1
      · rcases h.inl q h1 with h2 | ⟨i, hi, h2⟩
        · exact .inl h2
        refine .inr ⟨i, hi, ?_⟩
        rw [hg]
        split
        · rename_i e; subst e; exact mem_ins.2 (.inr h2)
        exact h2
      obtain rfl : q = b := by simpa using h1
      exact .inr ⟨k, hkx, by rw [hg, if_pos rfl]; exact mem_ins.2 (.inl rfl)⟩
    rw [hg]
    split
    · rename_i e; subst e
      refine hasB_no.2 fun y hy => ?_
      rcases mem_ins.1 hy with rfl | hy
      · exact fun e => hB q (h.left q hq).1 e.symm
      exact hasB_no.1 (h.excl q hq k hi) y hy
    exact h.excl q hq i hi
theorem CI.fold {x : List Container} {f : Flight} : ∀ (bags : List Piece) {B : List Piece} {s : List Container × List Piece}, CI x f B s → (∀ b ∈ bags, ∀ i, i < x.length → hasB (x.getD i default).pieces b.plate = false) → DisP (B ++ bags) → CI x f (B ++ bags) (asgF f s bags)
  | [], B, s, h, _, _ => by rw [List.append_nil]; exact h
  | b :: bags, B, s, h, hx, hd => by
    unfold DisP at hd
    rw [List.pairwise_append] at hd
    have := CI.fold bags (h.step (b := b) (fun q hq => hd.2.2 q hq b (by simp)) (hx b (by simp))) (fun c hc => hx c (by simp [hc])) (by
      unfold DisP
      rw [List.append_assoc, List.pairwise_append]
      exact hd)
    rwa [List.append_assoc] at this
end Go.Proofs.YtmdohphcolffmaaGreat
namespace Go.Proofs.YtmdohphcolffmaaGreat
open Go.RowKit
set_option linter.unusedSimpArgs false
set_option linter.unusedVariables false
set_option maxRecDepth 100000
abbrev bagP (l : List Int) (i k : Nat) : Piece := ⟨platesP (100 + ((i * 7 % 40 : Nat) : Int)), (pieceV l k 1).weight, (pieceV l k 1).category⟩
def bagS (l : List Int) : Nat → Nat → List Piece → Nat × List Piece
  | 0, k, a => (k, a)
  | n + 1, k, a => bagS l n (nx3 l k) (a ++ [bagP l a.length k])
def bagsV (l : List Int) (k most : Nat) : Nat × List Piece := bagS l (idxV l k (most + 1)) (rawN l k) []
structure GoodB (out : List Piece) : Prop where
  plate : ∀ i, i < out.length → (out.getD i default).plate = ⟨0, 118, 1000 + ((i * 7 % 40 : Nat) : Int)⟩
  ok : ∀ b ∈ out, piB b = true
end Go.Proofs.YtmdohphcolffmaaGreat
namespace Go.Proofs.YtmdohphcolffmaaGreat
open Go.RowKit
set_option linter.unusedSimpArgs false
set_option linter.unusedVariables false
set_option maxRecDepth 100000
theorem Fn.nil_agg {P : Program} {f : FuncId} {cs cs' xs ys : List AV} (hle : RL (Le2 P) cs' cs) (h : Fn P f [] (.agg cs :: xs) ys []) : Fn P f [] (.agg cs' :: xs) ys [] := fun w S vals bss vs came => by
  have hargs : RL (AggOK P S w (insT []) vals) vs (.agg cs :: xs) := by
    obtain ⟨u, us, rfl, ⟨cu, rfl, hr⟩, hus⟩ := came.args.cons_inv
    refine RL.cons ⟨cu, rfl, hr.1.trans hle.1, fun i u x hu hx => ?_⟩ hus
    have hi : i < cs'.length := by rw [← hr.1]; exact (List.getElem?_eq_some_iff.1 hu).1
    have hx' := List.getElem?_eq_getElem hi
    have h1 := hr.2 i u _ hu hx'
    have h2 := hle.2 i _ x hx' hx
    revert h1 h2
    generalize cs'[i] = y
    intro h1 h2
    cases h2 with
    | same => exact h1
    | nil => exact Le2.rep (P := P) .nil (show Rep P S w [] u (.v (.slice none 0 0)) from h1)
    | nilo h => exact Le2.rep (P := P) (.nilo h) (show Rep P S w [] u (.v (.slice none 0 0)) from h1)
  exact h w S vals bss vs { came with args := hargs }
abbrev nilC (c : Container) : List AV := c.av.set 10 (.v (.slice none 0 0))
theorem absI_eq (n : Int) : (if -n > n then -n else n) = absI n := by unfold absI; omega
set_option maxHeartbeats 8000000 in
theorem C65 {n : Int} (h : -9223372036854775807 ≤ n ∧ n ≤ 9223372036854775807) : Fn Tryz.prog 65 [] [.v (.int .i64 n)] [.v (.int .i64 (absI n))] [] := by
  rw [← absI_eq]
  refine Spec.body Tryz.func65 rfl Tryz.ntmps65 (by simp) rfl ?_; intro S0 own0 v0 w0
  (refine AW.seq_k ?_; intro K hK)
  refine AW.region ?_
  refine awP (op_assign rfl rfl) ?_
  refine AWL.nil ?_
  (refine hK _ ?_; clear hK K; (try simp only [nA, Nat.reduceBEq, Nat.reduceEqDiff, ↓reduceIte, Nat.reduceAdd, Nat.reduceSub]))
  (refine AW.seq_k ?_; intro K hK)
  refine AW.region ?_
  refine awP (op_move rfl rfl) ?_
  refine awP (op_move rfl rfl) ?_
  refine awP (op_negi rfl rfl (by omega)) ?_
  refine awP (op_max rfl rfl rfl rfl) ?_
  refine awP (op_assign rfl rfl) ?_
  refine AWL.nil ?_
  (refine hK _ ?_; clear hK K; (simp only [nA, ↓reduceIte]))
  skip
  refine AW.ret ?_; (try simp only [thenE, inBlk, Nat.reduceEqDiff, ↓reduceIte]); exact RQ.of0 rfl (.tmp (bl rfl) rfl rfl .nil)
set_option maxHeartbeats 8000000 in
theorem C12 {c : Container} {p : Piece} : Fn Tryz.prog 12 [] [.agg c.av, .agg p.av] [.v (.bool (admB c p))] [] := by
  refine Spec.body Tryz.func12 rfl Tryz.ntmps12 (by simp) rfl ?_; intro S0 own0 v0 w0
  (refine AW.seq_k ?_; intro K hK)
  refine AW.region ?_
  refine awJ (op_box rfl rfl rfl sz33 rfl) ?_; (simp only [nA, Nat.reduceBEq, Nat.reduceEqDiff, ↓reduceIte])
  refine awJ (op_box rfl rfl rfl sz35 rfl) ?_; (simp only [nA, Nat.reduceBEq, Nat.reduceEqDiff, ↓reduceIte])
  refine awP (op_assign rfl rfl) ?_
  refine AWL.nil ?_
  (refine hK _ ?_; clear hK K; (try simp only [nA, Nat.reduceBEq, Nat.reduceEqDiff, ↓reduceIte, Nat.reduceAdd, Nat.reduceSub]))
  (refine AW.seq_k ?_; intro K hK)
  refine AW.region ?_
  (refine awR (op_load_ptr rfl rfl rfl rfl ag33 sz33 (bl rfl) rfl) ?_)
  (refine awR (op_load_ptr rfl rfl rfl rfl ag35 sz35 (bl rfl) rfl) ?_)
  refine awJ (op_call (b := false) rfl en32 (C32 (c := c) (p := p)) (RL.cons (by exact View.same rfl) (RL.cons (by exact View.same rfl) (RL.nil))) rfl (fun h => by cases h) rfl rfl) ?_; (try simp only [nA, Nat.reduceBEq, Nat.reduceEqDiff, ↓reduceIte, Nat.reduceAdd, Nat.reduceSub])
  refine awP (op_move rfl rfl) ?_
  refine awP (op_extract rfl rfl rfl) ?_
  refine awP (op_extract rfl rfl rfl) ?_
  refine awJ (op_alloc rfl ze33 rfl) ?_; (simp only [nA, Nat.reduceBEq, Nat.reduceEqDiff, ↓reduceIte])
  refine awJ (op_store rfl rfl rfl rfl rfl rfl sz33 rfl (bl rfl) rfl) ?_; (simp only [nA, Nat.reduceBEq, Nat.reduceEqDiff, ↓reduceIte])
  refine awP (op_assign rfl rfl) ?_
  refine AWL.nil ?_
  (refine hK _ ?_; clear hK K; (simp only [nA, ↓reduceIte]))
  (refine AW.seq_k ?_; intro K hK)
  refine AW.region ?_
  refine awP (op_move rfl rfl) ?_
  (refine awP (op_eql rfl rfl rfl) ?_)
  refine awP (op_assign rfl rfl) ?_
  refine AWL.nil ?_
  (refine hK _ ?_; clear hK K; (simp only [nA]))
  skip
  refine AW.ret ?_; (try simp only [thenE, inBlk, Nat.reduceEqDiff, ↓reduceIte]); exact RQ.of0 rfl (.tmp (bl rfl) rfl rfl .nil)
abbrev tryC : Container := ⟨1, ⟨⟨#[65, 65]⟩, 1, ⟨#[]⟩, 0⟩, 0, 0, 0, 0, 0, []⟩
theorem try_val : valC tryC = 0 := by decide +kernel
theorem try_put (p : Piece) : decide ((putC tryC p false).2 = 0) = piB p := by
  cases h : piB p with
  | true =>
    rw [put_eq try_val h, show foundP tryC.pieces p.plate = false from rfl, if_neg (by decide), if_neg (by simp), if_neg (by simp), if_neg (by decide)]
    rfl
  | false =>
    unfold putC
    rw [if_neg (by rw [try_val]; decide), if_pos h]
    rfl
set_option maxHeartbeats 8000000 in
theorem C41 {p : Piece} : Fn Tryz.prog 41 [] [.agg p.av] [.v (.bool (piB p))] [] := by
  rw [← try_put]
  have hF : Fn Tryz.prog 63 [] [.agg (nilC tryC), .agg p.av] [.agg (putC tryC p false).1.av, .v (.int .i64 (putC tryC p false).2)] [] := Fn.nil_agg (cs := tryC.av) (RL.cons .same (RL.cons .same (RL.cons .same (RL.cons .same (RL.cons .same (RL.cons .same (RL.cons .same (RL.cons .same (RL.cons .same (RL.cons .same (RL.cons .nil RL.nil))))))))))) C63
  refine Spec.body Tryz.func41 rfl Tryz.ntmps41 (by simp) rfl ?_; intro S0 own0 v0 w0
  (refine AW.seq_k ?_; intro K hK)
  refine AW.region ?_
  refine awJ (op_box rfl rfl rfl sz35 rfl) ?_; (simp only [nA, Nat.reduceBEq, Nat.reduceEqDiff, ↓reduceIte])
  refine awP (op_assign rfl rfl) ?_
  refine AWL.nil ?_
  (refine hK _ ?_; clear hK K; (try simp only [nA, Nat.reduceBEq, Nat.reduceEqDiff, ↓reduceIte, Nat.reduceAdd, Nat.reduceSub]))
  (refine AW.seq_k ?_; intro K hK)
  refine AW.region ?_
  refine awP (op_build2 (xs := [_, _, .v (.string ⟨#[]⟩), .v (.int .i64 0)]) rfl pl25 ze25 [(0, [_]), (1, [_])] rfl rfl rfl) ?_
  refine awP (op_build2 (xs := [_, _, _, _, _, .v (.int .i64 0), .v (.int .i64 0), .v (.int .i64 0), .v (.int .i64 0), .v (.int .i64 0), .v (.slice none 0 0)]) rfl pl33 ze33 [(0, [_]), (1, [_, _, _, _])] rfl rfl rfl) ?_
  refine awJ (op_alloc rfl ze33 rfl) ?_; (simp only [nA, Nat.reduceBEq, Nat.reduceEqDiff, ↓reduceIte])
  refine awJ (op_store rfl rfl rfl rfl rfl rfl sz33 rfl (bl rfl) rfl) ?_; (simp only [nA, Nat.reduceBEq, Nat.reduceEqDiff, ↓reduceIte])
  refine AWL.nil ?_
  (refine hK _ ?_; clear hK K; (skip))
  (refine AW.seq_k ?_; intro K hK)
  refine AW.region ?_
  (refine awR (op_load_ptr rfl rfl rfl rfl ag33 sz33 (bl rfl) rfl) ?_)
  (refine awR (op_load_ptr rfl rfl rfl rfl ag35 sz35 (bl rfl) rfl) ?_)
  refine awJ (op_call (b := false) rfl en63 (hF) (RL.cons (by exact View.same rfl) (RL.cons (by exact View.same rfl) (RL.nil))) rfl (fun h => by cases h) rfl rfl) ?_; (try simp only [nA, Nat.reduceBEq, Nat.reduceEqDiff, ↓reduceIte, Nat.reduceAdd, Nat.reduceSub])
  refine awP (op_move rfl rfl) ?_
  refine awP (op_extract rfl rfl rfl) ?_
  refine awP (op_extract rfl rfl rfl) ?_
  refine awJ (op_alloc rfl ze33 rfl) ?_; (simp only [nA, Nat.reduceBEq, Nat.reduceEqDiff, ↓reduceIte])
  refine awJ (op_store rfl rfl rfl rfl rfl rfl sz33 rfl (bl rfl) rfl) ?_; (simp only [nA, Nat.reduceBEq, Nat.reduceEqDiff, ↓reduceIte])
  refine awP (op_assign rfl rfl) ?_
  refine AWL.nil ?_
  (refine hK _ ?_; clear hK K; (simp only [nA, ↓reduceIte]))
  (refine AW.seq_k ?_; intro K hK)
  refine AW.region ?_
  refine awP (op_move rfl rfl) ?_
  (refine awP (op_eql rfl rfl rfl) ?_)
  refine awP (op_assign rfl rfl) ?_
  refine AWL.nil ?_
  (refine hK _ ?_; clear hK K; (simp only [nA]))
  skip
  refine AW.ret ?_; (try simp only [thenE, inBlk, Nat.reduceEqDiff, ↓reduceIte]); exact RQ.of0 rfl (.tmp (bl rfl) rfl rfl .nil)
end Go.Proofs.YtmdohphcolffmaaGreat
namespace Go.Proofs.YtmdohphcolffmaaGreat
open Go.RowKit
set_option linter.unusedSimpArgs false
set_option linter.unusedVariables false
set_option maxRecDepth 100000
section
variable {C : Cx} {o : Oper} {ev : Operand → AV} {T : Sl} {t e yt : TypeId} {y : Operand}
theorem run_peq {P : Program} {t e : TypeId} (ht : P.underlying t = some (.pointer e)) (A : Option Addr) (w : World) : (binOp .eql t (.pointer A) (.pointer none)).run P w = .ok (.bool A.isNone) w := by
  unfold binOp
  simp only [Op.equal]
  rw [Sem.run_bind, show Op.maxDepth = 9999 + 1 from rfl]
  unfold Op.equalIn
  rw [Sem.run_bind, run_underlying ht]
  cases A <;> simp
theorem guard_peq {P : Program} (p q : Operand) (A : Option Addr) (w : World) : (eqGuard .eql t p q (.pointer A) (.pointer none)).run P w = .ok () w := by unfold eqGuard; simp
/-- A pointer is compared with nil. -/
theorem op_pnil (ho : o.op = .binOp .eql t y (.const (.pointer none)) yt) (hy : ev y = .v (.pointer none)) (ht : C.P.underlying t = some (.pointer e)) : OpP C o ev T (.v (.bool true)) := by
  intro a w S vals bss hm h
  have h1 := h y (by simp [ho, Op.operands])
  rw [hy] at h1
  have he : a.eval (.const (.pointer none)) = .pointer none := rfl
  exact ⟨.bool true, fun w => by simp [execOp, ho, h1.v, he, guard_peq, run_peq ht], TmpOK.v_ rfl⟩
theorem op_pnot {cs : List AV} (ho : o.op = .binOp .eql t y (.const (.pointer none)) yt) (hy : ev y = .rop cs) (ht : C.P.underlying t = some (.pointer e)) : OpP C o ev T (.v (.bool false)) := by
  intro a w S vals bss hm h
  have h1 := h y (by simp [ho, Op.operands])
  rw [hy] at h1
  obtain ⟨-, A, us, e1, _⟩ := (show Rep C.P S w [] _ (.rop cs) from h1).rop_inv
  have he : a.eval (.const (.pointer none)) = .pointer none := rfl
  exact ⟨.bool false, fun w => by simp [execOp, ho, e1, he, guard_peq, run_peq ht], TmpOK.v_ rfl⟩
end
structure Fit (l : List Container) : Prop where
  len : l.length ≤ 24
  w : ∀ c ∈ l, 0 ≤ weightC c ∧ weightC c ≤ 60000 ∧ -50 ≤ c.arm ∧ c.arm ≤ 50
theorem InvO.fit {l : List Container} (h : InvO l) : Fit l := ⟨h.len, fun c hc => by
  have hv := h.val c hc
  obtain ⟨h1, h2, _, _⟩ := val_inv hv
  have hs := sum_bd _ (val_w hv)
  unfold coB at h1
  simp only [Bool.and_eq_true] at h1
  have ha := h1.2
  unfold inB at ha
  simp only [Bool.and_eq_true, decide_eq_true_eq] at ha
  unfold weightC
  rw [if_neg (by simp [hv])]
  omega⟩
theorem mul_bd {a b m n : Int} (h0 : 0 ≤ a) (h1 : a ≤ m) (h2 : -n ≤ b) (h3 : b ≤ n) (hn : 0 ≤ n) : -(m * n) ≤ a * b ∧ a * b ≤ m * n := by
  have e1 : a * b ≤ a * n := Int.mul_le_mul_of_nonneg_left h3 h0
  have e2 : a * n ≤ m * n := Int.mul_le_mul_of_nonneg_right h1 hn
  have e3 : a * (-n) ≤ a * b := Int.mul_le_mul_of_nonneg_left h2 h0
  have e4 : a * (-n) = -(a * n) := Int.mul_neg a n
  omega
theorem mom_take {l : List Container} {f : Flight} {i : Nat} (h : i < l.length) : mom (l.take (i + 1)) f = mom (l.take i) f + if flEq (l.getD i default).flight f then weightC (l.getD i default) * (l.getD i default).arm else 0 := by
  unfold mom
  rw [List.take_add_one, List.map_append, List.sum_append, List.getElem?_eq_getElem h, getD_c h]
  simp
theorem Fit.one {l : List Container} (hf : Fit l) {i : Nat} (h : i < l.length) : -3000000 ≤ weightC (l.getD i default) * (l.getD i default).arm ∧ weightC (l.getD i default) * (l.getD i default).arm ≤ 3000000 := by
  rw [getD_c h]
  obtain ⟨h1, h2, h3, h4⟩ := hf.w _ (List.getElem_mem h)
  exact mul_bd h1 h2 h3 h4 (by decide)
theorem Fit.bd {l : List Container} (hf : Fit l) (f : Flight) : ∀ i, i ≤ l.length → -(3000000 * (i : Int)) ≤ mom (l.take i) f ∧ mom (l.take i) f ≤ 3000000 * (i : Int)
  | 0, _ => by simp [mom]
  | i + 1, h => by
    have ih := Fit.bd hf f i (by omega)
    have h1 := hf.one (i := i) (by omega)
    rw [mom_take (by omega)]
    split <;> omega
theorem Fit.mom {l : List Container} (hf : Fit l) (f : Flight) : -72000000 ≤ mom l f ∧ mom l f ≤ 72000000 := by
  have := hf.bd f l.length (Nat.le_refl _)
  rw [List.take_of_length_le (Nat.le_refl _)] at this
  have := hf.len
  omega
set_option maxHeartbeats 8000000 in
theorem C38 {l : List Container} {f : Flight} (hf : Fit l) : Fn Tryz.prog 38 [] [.ro (l.map Container.av), .agg f.av] [.v (.int .i64 (mom l f))] [] := by
  refine Spec.body Tryz.func38 rfl Tryz.ntmps38 (by simp) rfl ?_; intro S0 own0 v0 w0
  (refine AW.seq_k ?_; intro K hK)
  refine AW.region ?_
  refine awJ (op_box rfl rfl rfl sz25 rfl) ?_; (simp only [nA, Nat.reduceBEq, Nat.reduceEqDiff, ↓reduceIte])
  refine awP (op_assign rfl rfl) ?_
  refine AWL.nil ?_
  (refine hK _ ?_; clear hK K; (try simp only [nA, Nat.reduceBEq, Nat.reduceEqDiff, ↓reduceIte, Nat.reduceAdd, Nat.reduceSub]))
  (refine AW.seq_k ?_; intro K hK)
  refine AW.region ?_
  refine awP (op_assign rfl rfl) ?_
  refine AWL.nil ?_
  (refine hK _ ?_; clear hK K; (try simp only [nA, Nat.reduceBEq, Nat.reduceEqDiff, ↓reduceIte, Nat.reduceAdd, Nat.reduceSub]))
  (refine AW.seq_k ?_; intro K hK)
  (refine AW.seq_k ?_; intro K hK)
  refine AW.region ?_
  refine awP (op_move rfl rfl) ?_
  refine awP (op_len_ro (n := l.length) rfl rfl Tryz.underlying42 (.inr (.inl ⟨_, rfl, by simp⟩))) ?_
  refine awP (op_move rfl rfl) ?_
  refine AWL.nil ?_
  (refine hK _ ?_; clear hK K; (simp only [nA, ↓reduceIte]))
  refine AW.block ?_
  refine AW.loopI (fun (q : Nat × Nat) => [(3, .ptr 0 1 0 0), (5, .v (.int .i64 (mom (l.take q.1) f))), (8, .ro (l.map Container.av)), (9, .v (.int .i64 (l.length : Nat))), (10, .v (.int .i64 (q.1 : Nat)))]) (fun q => ⟨[(1, .own 25 [f.av])], q.2⟩) (fun q => q.1 ≤ l.length) (fun q => l.length - q.1) (0, _) (by simp) ⟨rfl, rfl, rfl, rfl, rfl, trivial⟩ rfl ?_; rintro ⟨i, ep⟩ ρ hi; dsimp only at hi ⊢; simp only [updL]
  (refine AW.seq_k ?_; intro K hK)
  refine AW.region ?_
  refine awP (op_lss rfl rfl rfl) ?_
  refine AWL.nil ?_
  (refine hK _ ?_; clear hK K; (try simp only [nA, Nat.reduceBEq, Nat.reduceEqDiff, ↓reduceIte, Nat.reduceAdd, Nat.reduceSub]))
  (refine AW.seq_k ?_; intro K hK)
  refine AW.cond rfl rfl rfl (fun hc => ?_) (fun hc => ?_)
  ·
   have hc1 := hc; have hlt : i < l.length := (by simpa using hc1); have hone := hf.one hlt; have hbd := hf.bd f i (by omega); have hlen := hf.len; have hmt := mom_take (f := f) hlt
   refine AW.skip ?_
   (refine hK _ ?_; clear hK K; (skip))
   (refine AW.seq_k ?_; intro K hK)
   refine AW.block ?_
   (refine AW.seq_k ?_; intro K hK)
   refine AW.region ?_
   refine awP (op_ia_ro i rfl (.inl rfl) rfl Tryz.underlying42 rfl (get_mapD hlt) (by exact sz33) (bl rfl)) ?_
   (refine awR (op_load_rop rfl rfl ag33 sz33 (bl rfl) (by decide) rfl) ?_)
   refine awJ (op_alloc rfl ze33 rfl) ?_; (try simp only [nA, Nat.reduceBEq, Nat.reduceEqDiff, ↓reduceIte, Nat.reduceAdd, Nat.reduceSub])
   refine awJ (op_store rfl rfl rfl rfl rfl rfl sz33 rfl (bl rfl) rfl) ?_; (simp only [nA, Nat.reduceBEq, Nat.reduceEqDiff, ↓reduceIte])
   refine AWL.nil ?_
   (refine hK _ ?_; clear hK K; (skip))
   (refine AW.seq_k ?_; intro K hK)
   refine AW.region ?_
   (refine awP (op_fa_ptr rfl rfl rfl fl33_1 (by exact sz25) (by decide) rfl) ?_)
   (refine awR (op_load_ptr rfl rfl rfl rfl ag25 sz25 (bl rfl) rfl) ?_)
   (refine awR (op_load_ptr rfl rfl rfl rfl ag25 sz25 (bl rfl) rfl) ?_)
   refine awP (op_eq25 (p := (l.getD i default).flight) (q := f) rfl rfl rfl) ?_; (try simp only [nA, Nat.reduceBEq, Nat.reduceEqDiff, ↓reduceIte, Nat.reduceAdd, Nat.reduceSub])
   refine AWL.nil ?_
   (refine hK _ ?_; clear hK K; (skip))
   refine AW.cond rfl rfl rfl (fun hc => ?_) (fun hc => ?_)
   ·
    have hc2 := hc; rw [if_pos (show flEq (l.getD i default).flight f = true from hc2)] at hmt
    refine AW.quiet mix (by kernel_rfl) ?_
    refine aqP (op_move rfl rfl) ?_
    (refine aqR (op_load_ptr rfl rfl rfl rfl ag33 sz33 (bl rfl) rfl) ?_)
    refine aqQ (op_callQ (b := true) rfl en61 (C61 (c := l.getD i default)) (RL.cons (by exact View.same rfl) (RL.nil)) rfl) ?_; (simp only [nA, ↓reduceIte])
    (refine aqP (op_fa_ptr rfl rfl rfl fl33_6 (by exact sz3) (by decide) rfl) ?_)
    (refine aqR (op_load_ptr1 rfl rfl rfl rfl ag3 rfl rfl) ?_)
    (refine aqP (op_muli rfl rfl rfl (by omega)) ?_)
    (refine aqP (op_addi rfl rfl rfl (by omega)) ?_)
    refine aqP (op_assign rfl rfl) ?_
    refine AQ.nil ?_
    (try simp only [thenE, inBlk, Nat.reduceEqDiff, ↓reduceIte])
    (refine hK _ ?_; clear hK K; (simp only [nA]))
    refine AW.region ?_
    (refine awP (op_addi rfl rfl rfl (by omega)) ?_)
    refine awP (op_move rfl rfl) ?_
    refine AWL.gh (Gh.drop 1) ?_; (simp only [nA])
    refine AWL.nil ?_
    refine ⟨(i + 1, _), by dsimp only; omega, by dsimp only; omega, ⟨rfl, congrArg (fun z => AV.v (.int .i64 z)) hmt.symm, rfl, rfl, rfl, trivial⟩, (by rfl), (by rfl)⟩
   have hc2 := hc; rw [if_neg (by rw [show flEq (l.getD i default).flight f = false from hc2]; decide)] at hmt
   refine AW.skip ?_
   (try simp only [thenE, inBlk, Nat.reduceEqDiff, ↓reduceIte])
   (refine hK _ ?_; clear hK K; (skip))
   refine AW.region ?_
   (refine awP (op_addi rfl rfl rfl (by omega)) ?_)
   refine awP (op_move rfl rfl) ?_
   refine AWL.gh (Gh.drop 1) ?_; (simp only [nA])
   refine AWL.nil ?_
   refine ⟨(i + 1, _), by dsimp only; omega, by dsimp only; omega, ⟨rfl, congrArg (fun z => AV.v (.int .i64 z)) (by rw [hmt, Int.add_zero]), rfl, rfl, rfl, trivial⟩, (by rfl), (by rfl)⟩
  have hc1 := hc; have hnl : ¬ i < l.length := (by simpa using hc1)
  refine AW.exit ?_; (try simp only [thenE, inBlk, Nat.reduceEqDiff, ↓reduceIte])
  clear hK K
  (refine hK _ ?_; clear hK K; (skip))
  (refine AW.seq_k ?_; intro K hK)
  refine AW.region ?_
  refine awP (op_move rfl rfl) ?_
  refine awP (op_assign rfl rfl) ?_
  refine AWL.nil ?_
  (refine hK _ ?_; clear hK K; (simp only [nA, ↓reduceIte]))
  skip
  refine AW.ret ?_; (try simp only [thenE, inBlk, Nat.reduceEqDiff, ↓reduceIte]); rw [show mom l f = mom (l.take i) f by rw [List.take_of_length_le (by omega)]]; exact RQ.of0 rfl (.tmp (bl rfl) rfl rfl .nil)
end Go.Proofs.YtmdohphcolffmaaGreat
namespace Go.Proofs.YtmdohphcolffmaaGreat
open Go.RowKit
set_option linter.unusedSimpArgs false
set_option linter.unusedVariables false
set_option maxRecDepth 100000
theorem Fit.arm {l : List Container} (hf : Fit l) {i : Nat} (h : i < l.length) : -50 ≤ (l.getD i default).arm ∧ (l.getD i default).arm ≤ 50 := by
  rw [getD_c h]
  have := hf.w _ (List.getElem_mem h)
  exact ⟨this.2.2.1, this.2.2.2⟩
def fstA (l : List Container) (o : Option Nat) : AV := match o with | none => .v (.pointer none) | some j => .rop (l.getD j default).av
theorem any_snoc {l : List Container} {f : Flight} {i : Nat} (h : i < l.length) : anyF (l.take (i + 1)) f = (anyF (l.take i) f || flEq (l.getD i default).flight f) := by
  unfold anyF
  rw [List.take_add_one, List.any_append, List.getElem?_eq_getElem h, getD_c h]
  simp
set_option maxHeartbeats 8000000 in
theorem C43 {l : List Container} {f : Flight} {p : Piece} (hf : Fit l) (hp : piB p = true) : Fn Tryz.prog 43 [] [.ro (l.map Container.av), .agg f.av, .agg p.av] [.v (.int .i64 (atI (bestV l f p))), .v (.bool (anyF l f))] [] := by
  refine Spec.body Tryz.func43 rfl Tryz.ntmps43 (by simp) rfl ?_; intro S0 own0 v0 w0
  (refine AW.seq_k ?_; intro K hK)
  refine AW.region ?_
  refine awJ (op_box rfl rfl rfl sz25 rfl) ?_; (simp only [nA, Nat.reduceBEq, Nat.reduceEqDiff, ↓reduceIte])
  refine awJ (op_box rfl rfl rfl sz35 rfl) ?_; (simp only [nA, Nat.reduceBEq, Nat.reduceEqDiff, ↓reduceIte])
  refine awP (op_assign rfl rfl) ?_
  refine awP (op_assign rfl rfl) ?_
  refine AWL.nil ?_
  (refine hK _ ?_; clear hK K; (try simp only [nA, Nat.reduceBEq, Nat.reduceEqDiff, ↓reduceIte, Nat.reduceAdd, Nat.reduceSub]))
  (refine AW.seq_k ?_; intro K hK)
  refine AW.region ?_
  refine awP (op_move rfl rfl) ?_
  (refine awR (op_load_ptr rfl rfl rfl rfl ag25 sz25 (bl rfl) rfl) ?_)
  refine awJ (OpQ.j (op_callQ (b := true) rfl en38 (C38 (l := l) (f := f) hf) (RL.cons (by exact View.same rfl) (RL.cons (by exact View.same rfl) (RL.nil))) rfl)) ?_; (simp only [nA, ↓reduceIte])
  refine awP (op_assign rfl rfl) ?_
  refine AWL.nil ?_
  (refine hK _ ?_; clear hK K; (simp only [nA]))
  (refine AW.seq_k ?_; intro K hK)
  refine AW.region ?_
  refine awP (op_assign rfl rfl) ?_
  refine AWL.nil ?_
  (refine hK _ ?_; clear hK K; (try simp only [nA, Nat.reduceBEq, Nat.reduceEqDiff, ↓reduceIte, Nat.reduceAdd, Nat.reduceSub]))
  (refine AW.seq_k ?_; intro K hK)
  refine AW.region ?_
  refine awP (op_assign rfl rfl) ?_
  refine awP (op_assign rfl rfl) ?_
  refine AWL.nil ?_
  (refine hK _ ?_; clear hK K; (try simp only [nA, Nat.reduceBEq, Nat.reduceEqDiff, ↓reduceIte, Nat.reduceAdd, Nat.reduceSub]))
  (refine AW.seq_k ?_; intro K hK)
  (refine AW.seq_k ?_; intro K hK)
  refine AW.region ?_
  refine awP (op_move rfl rfl) ?_
  refine awP (op_len_ro (n := l.length) rfl rfl Tryz.underlying42 (.inr (.inl ⟨_, rfl, by simp⟩))) ?_
  refine awP (op_move rfl rfl) ?_
  refine AWL.nil ?_
  (refine hK _ ?_; clear hK K; (simp only [nA, ↓reduceIte]))
  refine AW.block ?_
  refine AW.loopI (fun (i : Nat) => [(4, .ptr 0 1 0 0), (5, .ptr 1 2 0 0), (0, .ro (l.map Container.av)), (8, .v (.int .i64 (mom l f))), (9, fstA l (bestI l f p i)), (10, .v (.int .i64 (atI (bestI l f p i)))), (11, .v (.bool (anyF (l.take i) f))), (16, .ro (l.map Container.av)), (17, .v (.int .i64 (l.length : Nat))), (18, .v (.int .i64 (i : Nat)))]) (fun _ => ⟨[(1, .own 25 [f.av]), (2, .own 35 [p.av])], _⟩) (fun i => i ≤ l.length) (fun i => l.length - i) 0 (by simp) ⟨rfl, rfl, rfl, rfl, rfl, rfl, rfl, rfl, rfl, rfl, trivial⟩ rfl ?_; intro i ρ hi; simp only [updL]
  (refine AW.seq_k ?_; intro K hK)
  refine AW.region ?_
  refine awP (op_lss rfl rfl rfl) ?_
  refine AWL.nil ?_
  (refine hK _ ?_; clear hK K; (try simp only [nA, Nat.reduceBEq, Nat.reduceEqDiff, ↓reduceIte, Nat.reduceAdd, Nat.reduceSub]))
  (refine AW.seq_k ?_; intro K hK)
  refine AW.cond rfl rfl rfl (fun hc => ?_) (fun hc => ?_)
  ·
   have hc1 := hc; have hlt : i < l.length := (by simpa using hc1); have hlen := hf.len; have hm := hf.mom f; have hpi := piB_inv hp; have hany := any_snoc (f := f) hlt
   refine AW.skip ?_
   (refine hK _ ?_; clear hK K; (skip))
   (refine AW.seq_k ?_; intro K hK)
   refine AW.block ?_
   (refine AW.seq_k ?_; intro K hK)
   refine AW.region ?_
   refine awP (op_move rfl rfl) ?_
   refine awP (op_assign rfl rfl) ?_
   refine AWL.nil ?_
   (refine hK _ ?_; clear hK K; (simp only [nA, ↓reduceIte]))
   (refine AW.seq_k ?_; intro K hK)
   (refine AW.seq_k ?_; intro K hK)
   refine AW.quiet mix (by kernel_rfl) ?_
   refine aqP (op_move rfl rfl) ?_
   refine aqP (op_move rfl rfl) ?_
   refine aqP (op_ia_ro i rfl (.inl rfl) rfl Tryz.underlying42 rfl (get_mapD hlt) (by exact sz33) (bl rfl)) ?_
   (refine aqP (op_fa_rop rfl rfl fl33_1 (by exact sz25) (by decide) (bl rfl) rfl) ?_)
   (refine aqR (op_load_rop rfl rfl ag25 sz25 (bl rfl) (by decide) rfl) ?_)
   (refine aqR (op_load_ptr rfl rfl rfl rfl ag25 sz25 (bl rfl) rfl) ?_)
   refine aqP (op_neq25 (p := ((l.getD i default)).flight) (q := f) rfl rfl rfl) ?_; (simp only [nA, ↓reduceIte])
   refine AQ.nil ?_
   (refine hK _ ?_; clear hK K; (skip))
   refine AW.cond rfl rfl rfl (fun hc => ?_) (fun hc => ?_)
   ·
    have hc2 := hc; have hfl : flEq ((l.getD i default)).flight f = false := (by simpa using hc2); have hb : bestI l f p (i + 1) = bestI l f p i := (by rw [bestI, if_neg (by rw [hfl]; simp)]); rw [hfl, Bool.or_false] at hany
    refine AW.exit ?_; (try simp only [thenE, inBlk, Nat.reduceEqDiff, ↓reduceIte])
    clear hK K
    (refine hK _ ?_; clear hK K; (skip))
    refine AW.region ?_
    (refine awP (op_addi rfl rfl rfl (by omega)) ?_)
    refine awP (op_move rfl rfl) ?_
    skip
    refine AWL.nil ?_
    refine ⟨i + 1, by omega, by omega, ⟨rfl, rfl, rfl, rfl, congrArg (fstA l) hb.symm, congrArg (fun z => AV.v (.int .i64 (atI z))) hb.symm, congrArg (fun z => AV.v (.bool z)) hany.symm, rfl, rfl, rfl, trivial⟩, (by rfl), (by rfl)⟩
   have hc2 := hc; have hfl : flEq ((l.getD i default)).flight f = true := (by simpa using hc2); rw [hfl, Bool.or_true] at hany
   refine AW.skip ?_
   (refine hK _ ?_; clear hK K; (skip))
   (refine AW.seq_k ?_; intro K hK)
   refine AW.region ?_
   refine awP (op_assign rfl rfl) ?_
   refine AWL.nil ?_
   (refine hK _ ?_; clear hK K; (try simp only [nA, Nat.reduceBEq, Nat.reduceEqDiff, ↓reduceIte, Nat.reduceAdd, Nat.reduceSub]))
   (refine AW.seq_k ?_; intro K hK)
   (refine AW.seq_k ?_; intro K hK)
   refine AW.quiet mix (by kernel_rfl) ?_
   refine aqP (op_move rfl rfl) ?_
   refine aqP (op_move rfl rfl) ?_
   refine aqP (op_ia_ro i rfl (.inl rfl) rfl Tryz.underlying42 rfl (get_mapD hlt) (by exact sz33) (bl rfl)) ?_
   (refine aqR (op_load_rop rfl rfl ag33 sz33 (bl rfl) (by decide) rfl) ?_)
   (refine aqR (op_load_ptr rfl rfl rfl rfl ag35 sz35 (bl rfl) rfl) ?_)
   refine aqQ (op_callQ (b := true) rfl en12 (C12 (c := (l.getD i default)) (p := p)) (RL.cons (by exact View.same rfl) (RL.cons (by exact View.same rfl) (RL.nil))) rfl) ?_; (simp only [nA, ↓reduceIte])
   refine aqP (op_not rfl rfl rfl) ?_
   refine AQ.nil ?_
   (refine hK _ ?_; clear hK K; (try simp only [nA, Nat.reduceBEq, Nat.reduceEqDiff, ↓reduceIte, Nat.reduceAdd, Nat.reduceSub]))
   refine AW.cond rfl rfl rfl (fun hc => ?_) (fun hc => ?_)
   ·
    have hc3 := hc; have had : admB ((l.getD i default)) p = false := (by simpa using hc3); have hb : bestI l f p (i + 1) = bestI l f p i := (by rw [bestI, if_neg (by rw [hfl, had]; simp)])
    refine AW.exit ?_; (try simp only [thenE, inBlk, Nat.reduceEqDiff, ↓reduceIte])
    clear hK K
    (refine hK _ ?_; clear hK K; (skip))
    refine AW.region ?_
    (refine awP (op_addi rfl rfl rfl (by omega)) ?_)
    refine awP (op_move rfl rfl) ?_
    skip
    refine AWL.nil ?_
    refine ⟨i + 1, by omega, by omega, ⟨rfl, rfl, rfl, rfl, congrArg (fstA l) hb.symm, congrArg (fun z => AV.v (.int .i64 (atI z))) hb.symm, congrArg (fun z => AV.v (.bool z)) hany.symm, rfl, rfl, rfl, trivial⟩, (by rfl), (by rfl)⟩
   have hc3 := hc; have had : admB ((l.getD i default)) p = true := (by simpa using hc3); refine AW.skip ?_; (refine hK _ ?_; clear hK K; (skip))
   rcases (show bestI l f p i = none ∨ ∃ j, bestI l f p i = some j from by cases bestI l f p i <;> simp) with hbi | ⟨j, hbi⟩ <;> rw [hbi]
   · -- none
     (refine AW.seq_k ?_; intro K hK)
     refine AW.quiet mix (by kernel_rfl) ?_
     refine aqP (op_move rfl rfl) ?_
     refine aqP (op_pnil rfl rfl Tryz.underlying101) ?_
     refine aqP (op_move rfl rfl) ?_
     refine aqOr' (b2 := false) [_, _, _, _, _, _, _, _, _, _, _, _, _, _, _, _, _, _, _, _, _, _] [38,39,40,41,42,43,44,45,46,47,48,49,50,51,52,53,54,55,56,57,58,59] rfl rfl rfl rfl rfl rfl rfl rfl rfl rfl rfl rfl (fun hb => by cases hb) ?_
     simp only [nA, ↓reduceIte]
     refine AQ.nil ?_
     (refine hK _ ?_; clear hK K; (skip))
     refine AW.cond rfl rfl rfl (fun hc => ?_) (fun hc => ?_)
     · have hb : bestI l f p (i + 1) = some i := (by rw [bestI, if_pos (by rw [hfl, had]; rfl), hbi])
       refine AW.region ?_
       refine awP (op_move rfl rfl) ?_
       refine awP (op_move rfl rfl) ?_
       refine awP (op_ia_ro i rfl (.inl rfl) rfl Tryz.underlying42 rfl (get_mapD hlt) (by exact sz33) (bl rfl)) ?_
       refine awP (op_move rfl rfl) ?_
       refine awP (op_assign rfl rfl) ?_
       refine awP (op_assign rfl rfl) ?_
       refine AWL.nil ?_
       (try simp only [thenE, inBlk, Nat.reduceEqDiff, ↓reduceIte])
       (refine hK _ ?_; clear hK K; (simp only [nA, Nat.reduceEqDiff, ↓reduceIte]))
       refine AW.region ?_; refine awP (op_addi rfl rfl rfl (by omega)) ?_; (try simp only [nA, Nat.reduceBEq, Nat.reduceEqDiff, ↓reduceIte, Nat.reduceAdd, Nat.reduceSub]); refine awP (op_move rfl rfl) ?_; (simp only [nA]); refine AWL.nil ?_
       refine ⟨i + 1, by omega, by omega, ⟨rfl, rfl, rfl, rfl, congrArg (fstA l) hb.symm, congrArg (fun z => AV.v (.int .i64 (atI z))) hb.symm, congrArg (fun z => AV.v (.bool z)) hany.symm, rfl, rfl, rfl, trivial⟩, (by rfl), (by rfl)⟩
     simp at hc
   -- some j
   have hjl : j < l.length := (by have := bestI_lt hbi; omega); have ha1 := hf.arm hlt; have ha2 := hf.arm hjl; have hw1 := mul_bd (a := p.weight) (b := ((l.getD i default)).arm) (m := 999) (n := 50) (by omega) (by omega) ha1.1 ha1.2 (by decide); have hw2 := mul_bd (a := p.weight) (b := (l.getD j default).arm) (m := 999) (n := 50) (by omega) (by omega) ha2.1 ha2.2 (by decide)
   (refine AW.seq_k ?_; intro K hK)
   refine AW.quiet mix (by kernel_rfl) ?_
   refine aqP (op_move rfl rfl) ?_
   refine aqP (op_pnot rfl rfl Tryz.underlying101) ?_
   refine aqP (op_move rfl rfl) ?_
   refine' aqOr' [_, _, _, _, _, _, _, _, _, _, _, _, _, _, _, _, _, _, _, _, _, _] [38,39,40,41,42,43,44,45,46,47,48,49,50,51,52,53,54,55,56,57,58,59] rfl rfl rfl rfl rfl rfl rfl rfl rfl rfl rfl rfl (fun hb => ?_) ?_; rotate_left
   ·
    (try simp only [hcS] at hb)
    refine aqP (op_move rfl rfl) ?_
    refine aqP (op_fa_ptr rfl rfl rfl fl35_1 (by exact sz3) (by decide) rfl) ?_
    refine aqR (op_load_ptr1 rfl rfl rfl rfl ag3 rfl rfl) ?_
    refine aqP (op_move rfl rfl) ?_
    refine aqP (op_move rfl rfl) ?_
    refine aqP (op_ia_ro i rfl (.inl rfl) rfl Tryz.underlying42 rfl (get_mapD hlt) (by exact sz33) (bl rfl)) ?_
    refine aqP (op_fa_rop rfl rfl fl33_6 (by exact sz3) (by decide) (bl rfl) rfl) ?_
    refine aqR (op_load_rop1 rfl rfl ag3) ?_
    refine aqP (op_muli rfl rfl rfl (by omega)) ?_
    refine aqP (op_addi rfl rfl rfl (by omega)) ?_
    refine aqQ (op_callQ (b := true) rfl en65 (C65 (n := mom l f + p.weight * ((l.getD i default)).arm) (by omega)) (RL.cons (by exact View.same rfl) (RL.nil)) rfl) ?_; (simp only [nA, ↓reduceIte])
    refine aqP (op_move rfl rfl) ?_
    refine aqP (op_fa_ptr rfl rfl rfl fl35_1 (by exact sz3) (by decide) rfl) ?_
    refine aqR (op_load_ptr1 rfl rfl rfl rfl ag3 rfl rfl) ?_
    refine aqP (op_move rfl rfl) ?_
    refine aqP (op_nil_ptr rfl rfl) ?_
    refine aqP (op_fa_rop rfl rfl fl33_6 (by exact sz3) (by decide) (bl rfl) rfl) ?_
    refine aqR (op_load_rop1 rfl rfl ag3) ?_
    refine aqP (op_muli rfl rfl rfl (by omega)) ?_
    refine aqP (op_addi rfl rfl rfl (by omega)) ?_
    refine aqQ (op_callQ (b := true) rfl en65 (C65 (n := mom l f + p.weight * (l.getD j default).arm) (by omega)) (RL.cons (by exact View.same rfl) (RL.nil)) rfl) ?_; (simp only [nA, ↓reduceIte])
    refine aqP (op_lss rfl rfl rfl) ?_
    (refine aqSeg rfl rfl rfl ?_; repeat (first | exact fun _ _ => rfl | refine upd_out rfl ?_))
   simp only [nA, ↓reduceIte]
   refine AQ.nil ?_
   (refine hK _ ?_; clear hK K; (skip))
   refine AW.cond rfl rfl rfl (fun hc => ?_) (fun hc => ?_)
   · have hb : bestI l f p (i + 1) = some i := (by rw [bestI, if_pos (by rw [hfl, had]; rfl), hbi]; exact if_pos (by simpa using hc))
     refine AW.region ?_
     refine awP (op_move rfl rfl) ?_
     refine awP (op_move rfl rfl) ?_
     refine awP (op_ia_ro i rfl (.inl rfl) rfl Tryz.underlying42 rfl (get_mapD hlt) (by exact sz33) (bl rfl)) ?_
     refine awP (op_move rfl rfl) ?_
     refine awP (op_assign rfl rfl) ?_
     refine awP (op_assign rfl rfl) ?_
     refine AWL.nil ?_
     (try simp only [thenE, inBlk, Nat.reduceEqDiff, ↓reduceIte])
     (refine hK _ ?_; clear hK K; (simp only [nA, Nat.reduceEqDiff, ↓reduceIte]))
     refine AW.region ?_; refine awP (op_addi rfl rfl rfl (by omega)) ?_; (try simp only [nA, Nat.reduceBEq, Nat.reduceEqDiff, ↓reduceIte, Nat.reduceAdd, Nat.reduceSub]); refine awP (op_move rfl rfl) ?_; (simp only [nA]); refine AWL.nil ?_
     refine ⟨i + 1, by omega, by omega, ⟨rfl, rfl, rfl, rfl, congrArg (fstA l) hb.symm, congrArg (fun z => AV.v (.int .i64 (atI z))) hb.symm, congrArg (fun z => AV.v (.bool z)) hany.symm, rfl, rfl, rfl, trivial⟩, (by rfl), (by rfl)⟩
   have hb : bestI l f p (i + 1) = some j := (by rw [bestI, if_pos (by rw [hfl, had]; rfl), hbi]; exact if_neg (by simpa using hc))
   refine AW.skip ?_
   (try simp only [thenE, inBlk, Nat.reduceEqDiff, ↓reduceIte])
   (refine hK _ ?_; clear hK K; (skip))
   refine AW.region ?_; refine awP (op_addi rfl rfl rfl (by omega)) ?_; (try simp only [nA, Nat.reduceBEq, Nat.reduceEqDiff, ↓reduceIte, Nat.reduceAdd, Nat.reduceSub]); refine awP (op_move rfl rfl) ?_; (simp only [nA]); refine AWL.nil ?_
   refine ⟨i + 1, by omega, by omega, ⟨rfl, rfl, rfl, rfl, congrArg (fstA l) hb.symm, congrArg (fun z => AV.v (.int .i64 (atI z))) hb.symm, congrArg (fun z => AV.v (.bool z)) hany.symm, rfl, rfl, rfl, trivial⟩, (by rfl), (by rfl)⟩
  have hc1 := hc; have hnl : ¬ i < l.length := (by simpa using hc1); have hil : i = l.length := (by omega)
  refine AW.exit ?_; (try simp only [thenE, inBlk, Nat.reduceEqDiff, ↓reduceIte])
  clear hK K
  (refine hK _ ?_; clear hK K; (skip))
  (refine AW.seq_k ?_; intro K hK)
  refine AW.region ?_
  refine awP (op_move rfl rfl) ?_
  refine awP (op_move rfl rfl) ?_
  refine awP (op_assign rfl rfl) ?_
  refine awP (op_assign rfl rfl) ?_
  refine AWL.nil ?_
  (refine hK _ ?_; clear hK K; (simp only [nA, ↓reduceIte]))
  skip
  refine AW.ret ?_; (try simp only [thenE, inBlk, Nat.reduceEqDiff, ↓reduceIte]); rw [show bestV l f p = bestI l f p i by rw [hil]; rfl, show anyF l f = anyF (l.take i) f by rw [List.take_of_length_le (by omega)]]; exact RQ.of0 rfl (.tmp (bl rfl) rfl rfl (.tmp (bl rfl) rfl rfl .nil))
end Go.Proofs.YtmdohphcolffmaaGreat
namespace Go.Proofs.YtmdohphcolffmaaGreat
open Go.RowKit
set_option linter.unusedSimpArgs false
set_option linter.unusedVariables false
set_option maxRecDepth 100000
def listEq {α : Type} [Inhabited α] (eq : α → α → Bool) (a b : List α) : Bool := decide ((a.length : Int) = b.length) && (List.range a.length).all fun i => eq (a.getD i default) (b.getD i default)
structure Sml (l : List Container) : Prop where
  len : l.length ≤ 1000000
  p : ∀ c ∈ l, c.pieces.length ≤ 1000000000
set_option maxHeartbeats 8000000 in
theorem C21 {l : List Container} {f : Flight} {p : Piece} (hs : Sml l) : Fn Tryz.prog 21 [] [.ro (l.map Container.av), .agg f.av, .agg p.av] [.v (.int .i64 (choV l f p).1), .v (.int .i64 (choV l f p).2)] [] := by
  refine Spec.body Tryz.func21 rfl Tryz.ntmps21 (by simp) rfl ?_; intro S0 own0 v0 w0
  (refine AW.seq_k ?_; intro K hK)
  refine AW.region ?_
  refine awJ (op_box rfl rfl rfl sz25 rfl) ?_; (simp only [nA, Nat.reduceBEq, Nat.reduceEqDiff, ↓reduceIte])
  refine awJ (op_box rfl rfl rfl sz35 rfl) ?_; (simp only [nA, Nat.reduceBEq, Nat.reduceEqDiff, ↓reduceIte])
  refine awP (op_assign rfl rfl) ?_
  refine awP (op_assign rfl rfl) ?_
  refine AWL.nil ?_
  (refine hK _ ?_; clear hK K; (try simp only [nA, Nat.reduceBEq, Nat.reduceEqDiff, ↓reduceIte, Nat.reduceAdd, Nat.reduceSub]))
  (refine AW.seq_k ?_; intro K hK)
  (refine AW.seq_k ?_; intro K hK)
  refine AW.region ?_
  refine awP (op_move rfl rfl) ?_
  refine awJ (OpQ.j (op_callQ (b := true) rfl en37 (C37 (xs := l) hs.len) (RL.cons (by exact View.same rfl) (RL.nil)) rfl)) ?_; (simp only [nA, ↓reduceIte])
  refine awP (op_assign rfl rfl) ?_
  refine AWL.nil ?_
  (refine hK _ ?_; clear hK K; (simp only [nA]))
  (refine AW.seq_k ?_; intro K hK)
  refine AW.region ?_
  refine awP (op_move rfl rfl) ?_
  (refine awP (op_neq rfl rfl rfl) ?_)
  refine AWL.nil ?_
  (refine hK _ ?_; clear hK K; (simp only [nA]))
  refine AW.cond rfl rfl rfl (fun hc => ?_) (fun hc => ?_)
  ·
   have hc1 := hc; have g1 : chkL l ≠ 0 := (by simpa using hc1)
   (refine AW.seq_k ?_; intro K hK)
   refine AW.region ?_
   refine awP (op_move rfl rfl) ?_
   refine awP (op_assign rfl rfl) ?_
   refine awP (op_assign rfl rfl) ?_
   refine AWL.nil ?_
   (refine hK _ ?_; clear hK K; (simp only [nA, ↓reduceIte]))
   skip
   refine AW.ret ?_; (try simp only [thenE, inBlk, Nat.reduceEqDiff, ↓reduceIte]); rw [show choV l f p = (0, chkL l) by unfold choV; rw [if_pos g1]]; exact RQ.of0 rfl (.tmp (bl rfl) rfl rfl (.tmp (bl rfl) rfl rfl .nil))
  have hc1 := hc; have g1 : chkL l = 0 := (by simpa using hc1); have hfit := (InvO.of g1).fit
  refine AW.skip ?_
  (refine hK _ ?_; clear hK K; (skip))
  (refine AW.seq_k ?_; intro K hK)
  (refine AW.seq_k ?_; intro K hK)
  refine AW.region ?_
  (refine awR (op_load_ptr rfl rfl rfl rfl ag35 sz35 (bl rfl) rfl) ?_)
  refine awJ (OpQ.j (op_callQ (b := true) rfl en41 (C41 (p := p)) (RL.cons (by exact View.same rfl) (RL.nil)) rfl)) ?_; (try simp only [nA, Nat.reduceBEq, Nat.reduceEqDiff, ↓reduceIte, Nat.reduceAdd, Nat.reduceSub])
  refine awP (op_not rfl rfl rfl) ?_
  refine AWL.nil ?_
  (refine hK _ ?_; clear hK K; (try simp only [nA, Nat.reduceBEq, Nat.reduceEqDiff, ↓reduceIte, Nat.reduceAdd, Nat.reduceSub]))
  refine AW.cond rfl rfl rfl (fun hc => ?_) (fun hc => ?_)
  ·
   have hc2 := hc; have g2 : piB p = false := (by simpa using hc2)
   (refine AW.seq_k ?_; intro K hK)
   refine AW.region ?_
   refine awP (op_assign rfl rfl) ?_
   refine awP (op_assign rfl rfl) ?_
   refine AWL.nil ?_
   (refine hK _ ?_; clear hK K; (try simp only [nA, Nat.reduceBEq, Nat.reduceEqDiff, ↓reduceIte, Nat.reduceAdd, Nat.reduceSub]))
   skip
   refine AW.ret ?_; (try simp only [thenE, inBlk, Nat.reduceEqDiff, ↓reduceIte]); rw [show choV l f p = (0, 1) by unfold choV; rw [if_neg (by simp [g1]), if_pos g2]]; exact RQ.of0 rfl (.tmp (bl rfl) rfl rfl (.tmp (bl rfl) rfl rfl .nil))
  have hc2 := hc; have g2 : piB p = true := (by simpa using hc2)
  refine AW.skip ?_
  (refine hK _ ?_; clear hK K; (skip))
  (refine AW.seq_k ?_; intro K hK)
  (refine AW.seq_k ?_; intro K hK)
  refine AW.region ?_
  refine awP (op_move rfl rfl) ?_
  (refine awP (op_fa_ptr rfl rfl rfl fl35_0 (by exact sz23) (by decide) rfl) ?_)
  (refine awR (op_load_ptr rfl rfl rfl rfl ag23 sz23 (bl rfl) rfl) ?_)
  refine awJ (op_call (b := false) rfl en42 (C42 (xs := l) (p := p.plate) hs.len hs.p) (RL.cons (by exact View.same rfl) (RL.cons (by exact View.same rfl) (RL.nil))) rfl (fun h => by cases h) rfl rfl) ?_; (simp only [nA, ↓reduceIte])
  refine awP (op_move rfl rfl) ?_
  refine awP (op_extract rfl rfl rfl) ?_
  refine awP (op_extract rfl rfl rfl) ?_
  refine awP (op_assign rfl rfl) ?_
  refine awP (op_assign rfl rfl) ?_
  refine AWL.nil ?_
  (refine hK _ ?_; clear hK K; (simp only [nA, ↓reduceIte]))
  (refine AW.seq_k ?_; intro K hK)
  refine AW.region ?_
  refine awP (op_move rfl rfl) ?_
  refine AWL.nil ?_
  (refine hK _ ?_; clear hK K; (simp only [nA]))
  refine AW.cond rfl rfl rfl (fun hc => ?_) (fun hc => ?_)
  ·
   have hc3 := hc; have g3 : (findL l p.plate).2 = true := hc3
   (refine AW.seq_k ?_; intro K hK)
   refine AW.region ?_
   refine awP (op_assign rfl rfl) ?_
   refine awP (op_assign rfl rfl) ?_
   refine AWL.nil ?_
   (refine hK _ ?_; clear hK K; (try simp only [nA, Nat.reduceBEq, Nat.reduceEqDiff, ↓reduceIte, Nat.reduceAdd, Nat.reduceSub]))
   skip
   refine AW.ret ?_; (try simp only [thenE, inBlk, Nat.reduceEqDiff, ↓reduceIte]); rw [show choV l f p = (0, 5) by unfold choV; rw [if_neg (by simp [g1]), if_neg (by simp [g2]), if_pos g3]]; exact RQ.of0 rfl (.tmp (bl rfl) rfl rfl (.tmp (bl rfl) rfl rfl .nil))
  have hc3 := hc; have g3 : (findL l p.plate).2 = false := hc3
  refine AW.skip ?_
  (refine hK _ ?_; clear hK K; (skip))
  (refine AW.seq_k ?_; intro K hK)
  refine AW.region ?_
  refine awP (op_move rfl rfl) ?_
  (refine awR (op_load_ptr rfl rfl rfl rfl ag25 sz25 (bl rfl) rfl) ?_)
  (refine awR (op_load_ptr rfl rfl rfl rfl ag35 sz35 (bl rfl) rfl) ?_)
  refine awJ (op_call (b := false) rfl en43 (C43 (l := l) (f := f) (p := p) hfit g2) (RL.cons (by exact View.same rfl) (RL.cons (by exact View.same rfl) (RL.cons (by exact View.same rfl) (RL.nil)))) rfl (fun h => by cases h) rfl rfl) ?_; (simp only [nA, ↓reduceIte])
  refine awP (op_move rfl rfl) ?_
  refine awP (op_extract rfl rfl rfl) ?_
  refine awP (op_extract rfl rfl rfl) ?_
  refine awP (op_assign rfl rfl) ?_
  refine awP (op_assign rfl rfl) ?_
  refine AWL.nil ?_
  (refine hK _ ?_; clear hK K; (simp only [nA, ↓reduceIte]))
  (refine AW.seq_k ?_; intro K hK)
  refine AW.block ?_
  (refine AW.seq_k ?_; intro K hK)
  refine AW.region ?_
  refine awP (op_move rfl rfl) ?_
  refine awP (op_not rfl rfl rfl) ?_
  refine awP (op_assign rfl rfl) ?_
  refine AWL.nil ?_
  (refine hK _ ?_; clear hK K; (simp only [nA]))
  refine AW.cond rfl rfl rfl (fun hc => ?_) (fun hc => ?_)
  ·
   have hc4 := hc; have g4 : anyF l f = false := (by simpa using hc4)
   (refine AW.seq_k ?_; intro K hK)
   refine AW.region ?_
   refine awP (op_assign rfl rfl) ?_
   refine awP (op_assign rfl rfl) ?_
   refine AWL.nil ?_
   (refine hK _ ?_; clear hK K; (try simp only [nA, Nat.reduceBEq, Nat.reduceEqDiff, ↓reduceIte, Nat.reduceAdd, Nat.reduceSub]))
   skip
   refine AW.ret ?_; (try simp only [thenE, inBlk, Nat.reduceEqDiff, ↓reduceIte]); rw [show choV l f p = (0, 6) by unfold choV; rw [if_neg (by simp [g1]), if_neg (by simp [g2]), if_neg (by simp [g3]), if_pos g4]]; exact RQ.of0 rfl (.tmp (bl rfl) rfl rfl (.tmp (bl rfl) rfl rfl .nil))
  have hc4 := hc; have g4 : anyF l f = true := (by simpa using hc4)
  (refine AW.seq_k ?_; intro K hK)
  refine AW.region ?_
  refine awP (op_move rfl rfl) ?_
  refine awP (op_lss rfl rfl rfl) ?_
  refine awP (op_assign rfl rfl) ?_
  refine AWL.nil ?_
  (refine hK _ ?_; clear hK K; (simp only [nA, ↓reduceIte]))
  refine AW.cond rfl rfl rfl (fun hc => ?_) (fun hc => ?_)
  ·
   have hc5 := hc; have g5 : bestV l f p = none := (by cases hb : bestV l f p with | none => rfl | some i => rw [hb] at hc5; exact absurd (of_decide_eq_true hc5) (by show ¬ ((i : Nat) : Int) < 0; omega))
   (refine AW.seq_k ?_; intro K hK)
   refine AW.region ?_
   refine awP (op_assign rfl rfl) ?_
   refine awP (op_assign rfl rfl) ?_
   refine AWL.nil ?_
   (refine hK _ ?_; clear hK K; (try simp only [nA, Nat.reduceBEq, Nat.reduceEqDiff, ↓reduceIte, Nat.reduceAdd, Nat.reduceSub]))
   skip
   refine AW.ret ?_; (try simp only [thenE, inBlk, Nat.reduceEqDiff, ↓reduceIte]); rw [show choV l f p = (0, 8) by unfold choV; rw [if_neg (by simp [g1]), if_neg (by simp [g2]), if_neg (by simp [g3]), if_neg (by simp [g4]), g5]]; exact RQ.of0 rfl (.tmp (bl rfl) rfl rfl (.tmp (bl rfl) rfl rfl .nil))
  have hc5 := hc; obtain ⟨i, hbi⟩ : ∃ i, bestV l f p = some i := (by cases hb : bestV l f p with | some i => exact ⟨i, rfl⟩ | none => rw [hb] at hc5; exact absurd (of_decide_eq_false hc5) (by show ¬ ¬ (-1 : Int) < 0; decide)); obtain ⟨hil, _, _⟩ := bestV_some hbi; rw [hbi]
  refine AW.skip ?_
  (try simp only [thenE, inBlk, Nat.reduceEqDiff, ↓reduceIte])
  (refine hK _ ?_; clear hK K; (skip))
  (refine AW.seq_k ?_; intro K hK)
  refine AW.region ?_
  refine awP (op_move rfl rfl) ?_
  refine awP (op_move rfl rfl) ?_
  refine awP (op_ia_ro i rfl (.inl rfl) rfl Tryz.underlying42 rfl (get_mapD hil) (by exact sz33) (bl rfl)) ?_
  (refine awP (op_fa_rop rfl rfl fl33_0 (by exact sz3) (by decide) (bl rfl) rfl) ?_)
  (refine awR (op_load_rop1 rfl rfl ag3) ?_)
  refine awP (op_assign rfl rfl) ?_
  refine awP (op_assign rfl rfl) ?_
  refine AWL.nil ?_
  (refine hK _ ?_; clear hK K; (simp only [nA, ↓reduceIte]))
  skip
  refine AW.ret ?_; (try simp only [thenE, inBlk, Nat.reduceEqDiff, ↓reduceIte]); rw [show choV l f p = ((l.getD i default).number, 0) by unfold choV; rw [if_neg (by simp [g1]), if_neg (by simp [g2]), if_neg (by simp [g3]), if_neg (by simp [g4]), hbi]]; exact RQ.of0 rfl (.tmp (bl rfl) rfl rfl (.tmp (bl rfl) rfl rfl .nil))
set_option maxHeartbeats 8000000 in
theorem C19 {l : List Container} {f : Flight} (hs : Sml l) : Fn Tryz.prog 19 [] [.ro (l.map Container.av), .agg f.av] [.v (.int .i64 (momV l f))] [] := by
  refine Spec.body Tryz.func19 rfl Tryz.ntmps19 (by simp) rfl ?_; intro S0 own0 v0 w0
  (refine AW.seq_k ?_; intro K hK)
  refine AW.region ?_
  refine awJ (op_box rfl rfl rfl sz25 rfl) ?_; (simp only [nA, Nat.reduceBEq, Nat.reduceEqDiff, ↓reduceIte])
  refine awP (op_assign rfl rfl) ?_
  refine AWL.nil ?_
  (refine hK _ ?_; clear hK K; (try simp only [nA, Nat.reduceBEq, Nat.reduceEqDiff, ↓reduceIte, Nat.reduceAdd, Nat.reduceSub]))
  (refine AW.seq_k ?_; intro K hK)
  (refine AW.seq_k ?_; intro K hK)
  refine AW.region ?_
  refine awP (op_move rfl rfl) ?_
  refine awJ (OpQ.j (op_callQ (b := true) rfl en37 (C37 (xs := l) hs.len) (RL.cons (by exact View.same rfl) (RL.nil)) rfl)) ?_; (simp only [nA, ↓reduceIte])
  (refine awP (op_neq rfl rfl rfl) ?_)
  refine AWL.nil ?_
  (refine hK _ ?_; clear hK K; (try simp only [nA, Nat.reduceBEq, Nat.reduceEqDiff, ↓reduceIte, Nat.reduceAdd, Nat.reduceSub]))
  refine AW.cond rfl rfl rfl (fun hc => ?_) (fun hc => ?_)
  ·
   have hc1 := hc
   (refine AW.seq_k ?_; intro K hK)
   refine AW.region ?_
   refine awP (op_assign rfl rfl) ?_
   refine AWL.nil ?_
   (refine hK _ ?_; clear hK K; (try simp only [nA, Nat.reduceBEq, Nat.reduceEqDiff, ↓reduceIte, Nat.reduceAdd, Nat.reduceSub]))
   skip
   refine AW.ret ?_; (try simp only [thenE, inBlk, Nat.reduceEqDiff, ↓reduceIte]); rw [show momV l f = 0 by unfold momV; rw [if_pos (by simpa using hc1)]]; exact RQ.of0 rfl (.tmp (bl rfl) rfl rfl .nil)
  have hc1 := hc; have g1 : chkL l = 0 := (by simpa using hc1)
  refine AW.skip ?_
  (refine hK _ ?_; clear hK K; (skip))
  (refine AW.seq_k ?_; intro K hK)
  refine AW.region ?_
  refine awP (op_move rfl rfl) ?_
  (refine awR (op_load_ptr rfl rfl rfl rfl ag25 sz25 (bl rfl) rfl) ?_)
  refine awJ (OpQ.j (op_callQ (b := true) rfl en38 (C38 (l := l) (f := f) (InvO.of g1).fit) (RL.cons (by exact View.same rfl) (RL.cons (by exact View.same rfl) (RL.nil))) rfl)) ?_; (simp only [nA, ↓reduceIte])
  refine awP (op_assign rfl rfl) ?_
  refine AWL.nil ?_
  (refine hK _ ?_; clear hK K; (simp only [nA]))
  skip
  refine AW.ret ?_; (try simp only [thenE, inBlk, Nat.reduceEqDiff, ↓reduceIte]); rw [show momV l f = mom l f by unfold momV; rw [if_neg (by simp [g1])]]; exact RQ.of0 rfl (.tmp (bl rfl) rfl rfl .nil)
end Go.Proofs.YtmdohphcolffmaaGreat
namespace Go.Proofs.YtmdohphcolffmaaGreat
open Go.RowKit
set_option linter.unusedSimpArgs false
set_option linter.unusedVariables false
set_option maxRecDepth 100000
theorem getD_memC {l : List Container} {i : Nat} (h : i < l.length) : l.getD i default ∈ l := by rw [getD_c h]; exact List.getElem_mem h
theorem av_flatP (l : List Piece) : ∀ r ∈ l.map Piece.av, ∀ c ∈ r, flatA c = true := fun r hr c hc => by
  obtain ⟨x, _, rfl⟩ := List.mem_map.1 hr
  simp only [Piece.av, List.mem_cons, List.not_mem_nil, or_false] at hc
  rcases hc with rfl | rfl | rfl | rfl | rfl <;> rfl
theorem conv_lenC (l : List Container) : ∀ x ∈ l.map Container.av, x.length = 11 := fun x hx => by obtain ⟨g, _, rfl⟩ := List.mem_map.1 hx; rfl
set_option maxHeartbeats 8000000 in
theorem C50 {l : List Container} (hl : l.length ≤ 1000000) (hp : ∀ c ∈ l, c.pieces.length ≤ 1000000) : Fn Tryz.prog 50 [] [.ro (l.map Container.av)] [.own 33 (l.map Container.av)] [] := by
  refine Spec.body Tryz.func50 rfl Tryz.ntmps50 (by simp) rfl ?_; intro S0 own0 v0 w0
  (refine AW.seq_k ?_; intro K hK)
  refine AW.region ?_
  refine awP (op_assign rfl rfl) ?_
  refine AWL.nil ?_
  (refine hK _ ?_; clear hK K; (try simp only [nA, Nat.reduceBEq, Nat.reduceEqDiff, ↓reduceIte, Nat.reduceAdd, Nat.reduceSub]))
  (refine AW.seq_k ?_; intro K hK)
  refine AW.region ?_
  refine awP (op_move rfl rfl) ?_
  refine awJ (op_app_nil (rows := l.map Container.av) rfl rfl rfl .ro Tryz.underlying42 ze33 (by decide) (conv_lenC _) (by simp; omega) (by decide) (n := l.length) (by simp)) ?_; (simp only [nA, Nat.reduceBEq, Nat.reduceEqDiff, ↓reduceIte])
  refine awP (op_assign rfl rfl) ?_
  refine AWL.nil ?_
  (refine hK _ ?_; clear hK K; (simp only [nA]))
  (refine AW.seq_k ?_; intro K hK)
  (refine AW.seq_k ?_; intro K hK)
  refine AW.region ?_
  refine awP (op_move rfl rfl) ?_
  refine awP (op_len_sl rfl rfl rfl Tryz.underlying42) ?_
  refine awP (op_move rfl rfl) ?_
  refine AWL.nil ?_
  (refine hK _ ?_; clear hK K; (simp only [nA]))
  refine AW.block ?_
  refine AW.loopI (fun (i : Nat) => [(3, .sl 0 1 0 l.length), (7, .sl 0 1 0 l.length), (8, .v (.int .i64 (l.length : Nat))), (9, .v (.int .i64 (i : Nat)))]) (fun _ => ⟨[(1, .own 33 (l.map Container.av))], _⟩) (fun i => i ≤ l.length) (fun i => l.length - i) 0 (by simp) ⟨rfl, rfl, rfl, rfl, trivial⟩ rfl ?_; intro i ρ hi; simp only [updL]
  (refine AW.seq_k ?_; intro K hK)
  refine AW.region ?_
  refine awP (op_lss rfl rfl rfl) ?_
  refine AWL.nil ?_
  (refine hK _ ?_; clear hK K; (try simp only [nA, Nat.reduceBEq, Nat.reduceEqDiff, ↓reduceIte, Nat.reduceAdd, Nat.reduceSub]))
  (refine AW.seq_k ?_; intro K hK)
  refine AW.cond rfl rfl rfl (fun hc => ?_) (fun hc => ?_)
  ·
   have hc1 := hc; have hlt : i < l.length := (by simpa using hc1); have hpl := hp _ (getD_memC hlt)
   refine AW.skip ?_
   (refine hK _ ?_; clear hK K; (skip))
   (refine AW.seq_k ?_; intro K hK)
   refine AW.block ?_
   (refine AW.seq_k ?_; intro K hK)
   refine AW.region ?_
   refine awP (op_move rfl rfl) ?_
   refine awP (op_assign rfl rfl) ?_
   refine AWL.nil ?_
   (refine hK _ ?_; clear hK K; (simp only [nA, ↓reduceIte]))
   refine AW.region ?_
   refine awP (op_move rfl rfl) ?_
   refine awP (op_move rfl rfl) ?_
   refine awP (op_move rfl rfl) ?_
   refine awP (op_move rfl rfl) ?_
   refine awP (op_ia_sl i 11 rfl rfl rfl rfl Tryz.underlying42 rfl hlt (by exact sz33) (Nat.zero_add _)) ?_
   (refine awP (op_fa_ptr rfl rfl rfl fl33_7 (by exact sz31) (by decide) rfl) ?_)
   refine awR (op_load_ptr1 (row := ((l.getD i default)).av) rfl rfl rfl (get_mapD hlt) ag31 rfl rfl) ?_
   refine awJ (OpJ.frz (op_app_nil (rows := (((l.getD i default)).pieces.map Piece.av)) rfl rfl rfl .ro Tryz.underlying31 ze35 (by decide) (av_len _) (by simp only [List.length_map]; omega) (by decide) (n := ((l.getD i default)).pieces.length) (by simp)) (av_flatP _) (by simp)) ?_; (simp only [nA, ↓reduceIte])
   refine awP (op_ia_sl i 11 rfl rfl rfl rfl Tryz.underlying42 rfl hlt (by exact sz33) (Nat.zero_add _)) ?_
   (refine awP (op_fa_ptr rfl rfl rfl fl33_7 (by exact sz31) (by decide) rfl) ?_)
   refine awJ (op_store rfl rfl rfl rfl (get_mapD hlt) rfl sz31 rfl (bl rfl) (es' := l.map Container.av) (set_same (get_mapD hlt))) ?_; (try simp only [nA, Nat.reduceBEq, Nat.reduceEqDiff, ↓reduceIte, Nat.reduceAdd, Nat.reduceSub])
   refine AWL.nil ?_
   (try simp only [thenE, inBlk, Nat.reduceEqDiff, ↓reduceIte])
   (refine hK _ ?_; clear hK K; (skip))
   refine AW.region ?_
   (refine awP (op_addi rfl rfl rfl (by omega)) ?_)
   refine awP (op_move rfl rfl) ?_
   skip
   refine AWL.nil ?_
   refine ⟨i + 1, by omega, by omega, ⟨rfl, rfl, rfl, rfl, trivial⟩, (by rfl), (by rfl)⟩
  have hc1 := hc
  refine AW.exit ?_; (try simp only [thenE, inBlk, Nat.reduceEqDiff, ↓reduceIte])
  clear hK K
  (refine hK _ ?_; clear hK K; (skip))
  (refine AW.seq_k ?_; intro K hK)
  refine AW.region ?_
  refine awP (op_move rfl rfl) ?_
  refine awP (op_assign rfl rfl) ?_
  refine AWL.nil ?_
  (refine hK _ ?_; clear hK K; (simp only [nA, ↓reduceIte]))
  skip
  refine AW.ret ?_; (try simp only [thenE, inBlk, Nat.reduceEqDiff, ↓reduceIte]); exact RQ.of0 rfl (.own (bl rfl) rfl rfl (by simp) (by simp) .nil)
end Go.Proofs.YtmdohphcolffmaaGreat
namespace Go.Proofs.YtmdohphcolffmaaGreat
open Go.RowKit
set_option linter.unusedSimpArgs false
set_option linter.unusedVariables false
section
variable {C : Cx} {o : Oper} {ev : Operand → AV} {T : Sl}
theorem RL.take {α β : Type} {R : α → β → Prop} {us : List α} {xs : List β} (h : RL R us xs) (n : Nat) : RL R (us.take n) (xs.take n) := by
  refine ⟨by rw [List.length_take, List.length_take, h.1], fun i u x hu hx => ?_⟩
  rw [List.getElem?_take] at hu hx
  split at hu
  · rename_i hi
    rw [if_pos hi] at hx
    exact h.2 i u x hu hx
  cases hu
end
end Go.Proofs.YtmdohphcolffmaaGreat
namespace Go.Proofs.YtmdohphcolffmaaGreat
open Go.RowKit
set_option linter.unusedSimpArgs false
set_option linter.unusedVariables false
set_option maxRecDepth 100000
abbrev Z0 : Piece := ⟨⟨0, 0, 0⟩, 0, 0⟩
def ordT (l : List Piece) (i : Nat) : List Piece := (l.take i).foldl insB []
/-- The list behind the copy: everything from k on lies one place further. -/
def cpL (out : List Piece) (k : Nat) : List Piece := out.take k ++ (out ++ [Z0]).getD k default :: out.drop k
end Go.Proofs.YtmdohphcolffmaaGreat
namespace Go.Proofs.YtmdohphcolffmaaGreat
open Go.RowKit
set_option linter.unusedSimpArgs false
set_option linter.unusedVariables false
section
variable {C : Cx} {o : Oper} {ev : Operand → AV} {T : Sl}
/-- A row of one's own may be read where its block may be. -/
theorem Rep.own_ro {P : Program} {S : Nat → Prop} {w : World} {bs : List Nat} {u : Value} {e : TypeId} {es : List (List AV)} (h : Rep P S w bs u (.own e es)) (hf : ∀ r ∈ es, ∀ c ∈ r, flatA c = true) : Rep P (fun k => S k ∨ k ∈ bs) w [] u (.ro es) := by
  obtain ⟨us, sz, bss, hbs, hi, hsz, hown, hul, hbl, hc⟩ := h.own_inv
  rcases hown.2 with ⟨rfl, h0⟩ | ⟨g, cap, cur, rfl, -, hg, h1, h2, h3, h4⟩
  · obtain rfl := List.eq_nil_of_length_eq_zero h0
    exact rep_ro_nil
  refine Rep.ro (us := us) h1 h2 hsz (fun hn => ⟨g, 0, rfl, .inr (by rw [hbs]; simp [Value.ownBlock]), fun j u hu => ?_⟩) hul fun i u x q1 q2 => ?_
  · rw [Nat.zero_add]
    simp only [World.cell?, hg]
    have hj : j < es.length * sz := by rw [← hown.1]; exact (List.getElem?_eq_some_iff.1 hu).1
    have : cur.toList[j]? = some u := by rw [← hu, ← h4, List.getElem?_take_of_lt hj]
    simpa using this
  have hi' := (List.getElem?_eq_some_iff.1 q1).1
  have h5 := hc i u x (bss[i]'(by omega)) q1 q2 (List.getElem?_eq_getElem _)
  have hx : flatA x = true := by
    obtain ⟨r, hr, hcr⟩ := List.mem_flatten.1 (List.mem_of_getElem? q2)
    exact hf r hr x hcr
  have h6 := h5.flat hx
  rw [h6] at h5
  exact h5.mono fun _ _ h => .inl h
/-- A box that holds a named slice's address: what it is while the slice is lent for reading. -/
theorem rop_up {S : Nat → Prop} {vals : List Value} {bss : List (List Nat)} {w : World} (hm : Mem C T S vals bss w) {r k : Nat} {u : Value} {e : TypeId} {es : List (List AV)} (hT : T.slots[r]? = some (k, .nm u e es)) (hf : ∀ r ∈ es, ∀ c ∈ r, flatA c = true)
    {p : Value} (h : Rep C.P S w [] p (.rop [.v u])) : Rep C.P (lent true S bss) w [] p (.rop [.ro es]) := by
  obtain ⟨v, bs, hv, hb, hrep⟩ := hm.slot hT
  have hnm : v = u ∧ Rep C.P S w bs u (.own e es) := by
    cases hrep with
    | nm h => exact ⟨rfl, h⟩
  have hr := (hnm.2.own_ro hf).mono (S' := lent true S bss) fun q _ h => h.elim .inl fun h => .inr ⟨rfl, r, bs, hb, h⟩
  generalize hcs : [AV.v u] = cs at h
  generalize hbs : ([] : List Nat) = bs0 at h
  cases h with
  | @rop A us _ hr0 hl hc =>
    subst hcs
    obtain ⟨u1, rfl⟩ : ∃ u1, us = [u1] := by
      match us, hl with
      | [u1], _ => exact ⟨u1, rfl⟩
    have h1 := (hc 0 u1 (.v u) rfl rfl).v_inv.1
    subst h1
    refine Rep.rop (us := [u1]) (hr0.mono fun _ _ h => .inl h) rfl fun i x y q1 q2 => ?_
    cases i with
    | zero => simp at q1 q2; subst q1; subst q2; exact hr
    | succ i => simp at q1
/-- A closure that captures a box with a named slice's address, called to read. -/
theorem op_lessQ {f : FuncId} {p : Operand} {args : Array Operand} {ts : Array TypeId} {xs : List AV} {y : Value} {r k : Nat} {u : Value} {e : TypeId} {es : List (List AV)} (ho : o.op = .call { callee := .value p, args := args, argTypes := ts }) (hp : ev p = .clo f [.rop [.v u]])
    (hT : T.slots[r]? = some (k, .nm u e es)) (hfl : ∀ r ∈ es, ∀ c ∈ r, flatA c = true) (hf : Enters C.P f) (hsp : Fn C.P f [] (xs ++ [.rop [.ro es]]) [.v y] []) (hv : RL (View T true) (args.toList.map ev) xs) (hx : y.oneCell' = true) : OpQ C o ev T (.v y) := by
  intro a w S vals bss hm h
  refine ⟨y, fun w' hk => ?_, TmpOK.v_ hx⟩
  have hp1 := h p (by simp [ho, Op.operands, Call.operands])
  rw [hp] at hp1
  obtain ⟨us, hfv, hul, hur⟩ := (show Rep C.P S w [] _ (.clo f [.rop [.v u]]) from hp1).clo_inv
  have hargs : ∀ y ∈ args, TmpOK C.P S w' T vals (a.eval y) (ev y) := fun y hy => TmpOK.follows (Follows.kept hk (fun _ _ _ => trivial) fun _ h => h) (h y (by simp [ho, Op.operands, Call.operands]; exact .inr hy))
  have hcame := came0 (hm.grow hk) hv hargs
  have hcaps : RL (AggOK C.P (lent true S bss) w' (insT []) []) us [.rop [.ro es]] := ⟨hul, fun i u1 x h1 h2 => by
    cases i with
    | zero =>
      simp at h2
      subst h2
      exact (rop_up (hm.grow hk) hT hfl ((hur 0 u1 (.rop [.v u]) h1 rfl).kept hk (fun _ _ _ => trivial) (by simp))).aggOK
    | succ i => simp at h2⟩
  have hc := hsp w' (lent true S bss) [] [] (args.toList.map a.eval ++ us) { hcame with args := hcame.args.append hcaps }
  have hrun : (execOp a.eval o).run C.P w' = .ok (.enter f (args.toList.map a.eval ++ us).toArray) w' := by
    have e1 : (args.map a.eval ++ us.toArray) = (args.toList.map a.eval ++ us).toArray := by apply Array.toList_inj.1; simp
    simp only [execOp, ho, resolve, hfv, Deferred.ofValue, Sem.run_bind, Sem.run_pure, Result.andThen_ok, invoke]
    rw [← e1]
    simpa using hf _ w'
  unfold Oper.quietAt
  rw [hrun]
  refine ⟨rfl, hc.mono ?_⟩
  rintro e w'' ⟨us, ys', outs, bsr, bss', rfl, went, rfl, rfl⟩
  have hk2 : Kept (fun _ => True) w' w'' := went.kept.mono fun k _ _ ⟨r, bs, h, _⟩ => by simp at h
  refine ⟨?_, hk.trans hk2⟩
  match us, went.nu with
  | [u], _ =>
    have hr := went.res 0 u (.v y) (bsr[0]'(by rw [went.nr]; simp)) rfl rfl (List.getElem?_eq_getElem _)
    rcases hr with h | ⟨_, h⟩
    · rw [retV, h.v_inv.1]
    rw [retV, (show Rep C.P _ w'' [] u (.v y) from h).v_inv.1]
end
section
variable {C : Cx} {T : Sl} {S : Nat → Prop} {vals : List Value} {bss : List (List Nat)} {w : World}
variable {o : Oper} {ev : Operand → AV}
/-- A call to which a named slot is lent for writing. -/
theorem op_callN {f : FuncId} {args : Array Operand} {ts : Array TypeId} {r k : Nat} {x0 x1 : AV} {xs ys : List AV} (ho : o.op = .call { callee := .value (.func f), args := args, argTypes := ts }) (hf : Enters C.P f) (hsp : Fn C.P f [x0] xs ys [x1]) (hs : T.slots[r]? = some (k, x0)) (hv : RL (View1 T r k) (args.toList.map ev) xs)
    (hx1 : ∃ u0 e es es', x0 = .nm u0 e es ∧ x1 = .nm u0 e es') (hn : ys.all (cloA 1) = true) {x : AV} {T' : Sl} (hx : packR (unp (ys.map (renA r k)) ⟨T.slots.set r (k, x1), T.ep⟩).1 = x) (hT : (unp (ys.map (renA r k)) ⟨T.slots.set r (k, x1), T.ep⟩).2 = T') : OpJ C o ev T x T' := by
  intro a w S vals bss hm h K hK Q
  have hrl : r < T.slots.length := (List.getElem?_eq_some_iff.1 hs).1
  have hargs : ∀ y ∈ args, TmpOK C.P S w T vals (a.eval y) (ev y) := fun y hy => h y (by simp [ho, Op.operands, Call.operands]; exact .inr hy)
  obtain ⟨v, bs, hvr, hbr, hrep⟩ := hm.slot hs
  have hcame : Came C.P [x0] xs w S [v] [bs] (args.toList.map a.eval) := by
    refine ⟨hm.lt, rfl, rfl, fun q x u b h1 h2 h3 => ?_, ⟨fun q b h1 => ?_, fun q q' b b' hne h1 h2 => ?_⟩, fun b ⟨q, b1, h1, h2⟩ => ?_, by have := hv.1; simpa using this, fun i u x h1 h2 => ?_⟩
    · cases q with
      | zero => simp at h1 h2 h3; subst h1; subst h2; subst h3; exact hrep
      | succ q => simp at h1
    · cases q with
      | zero => simp at h1; subst h1; exact hm.nodup r _ hbr
      | succ q => simp at h1
    · cases q with
      | zero => cases q' with
        | zero => exact absurd rfl hne
        | succ q' => simp at h2
      | succ q => simp at h1
    · cases q with
      | zero => simp at h1; subst h1; exact hm.apart r _ hbr b h2
      | succ q => simp at h1
    rw [List.getElem?_map] at h1
    cases hq : args.toList[i]? with
    | none => rw [hq] at h1; cases h1
    | some y =>
      rw [hq] at h1
      simp only [Option.map_some, Option.some.injEq] at h1
      subst h1
      exact view1_ok hm hs hvr (hv.2 i (ev y) x (by rw [List.getElem?_map, hq]; rfl) h2) (hargs y (Array.mem_toList_iff.1 (List.mem_of_getElem? hq)))
  have hc := hsp w S [v] [bs] _ hcame
  have hrun : (execOp a.eval o).run C.P w = .ok (.enter f (args.toList.map a.eval).toArray) w := by
    have e1 : (args.map a.eval) = (args.toList.map a.eval).toArray := by apply Array.toList_inj.1; simp
    simp only [execOp, ho, resolve, Act.eval, Deferred.ofValue, Sem.run_bind, Sem.run_pure, Result.andThen_ok, invoke]
    rw [← e1]
    simpa using hf _ w
  unfold Oper.wp
  rw [hrun, Oper.upon_enter]
  refine hc.mono ?_
  rintro e w' ⟨us, ys', outs, bsr, bss', rfl, went, rfl, rfl⟩
  simp only
  obtain ⟨bs', rfl⟩ : ∃ b, bss' = [b] := by
    match bss', went.nb with
    | [b], _ => exact ⟨b, rfl⟩
  have hin1 : ∀ (b : List Nat) (q : Nat), InL [b] q ↔ q ∈ b := fun b q => by
    constructor
    · rintro ⟨i, b1, h1, h2⟩
      cases i with
      | zero => simp at h1; subst h1; exact h2
      | succ i => simp at h1
    intro h; exact ⟨0, b, rfl, h⟩
  have hk : Kept (fun q => q ∉ bs) w w' := went.kept.mono fun q _ h h' => h ((hin1 _ _).1 h')
  have hinR : ∀ q, InL bsr q → InL (bsr ++ [bs']) q := fun q ⟨i, b, h1, h2⟩ => ⟨i, b, by rw [List.getElem?_append_left (List.getElem?_eq_some_iff.1 h1).1]; exact h1, h2⟩
  have hinS : ∀ q, q ∈ bs' → InL (bsr ++ [bs']) q := fun q h => ⟨bsr.length, bs', by simp, h⟩
  have hown' := went.own
  have hownR : Own2 bsr := ⟨fun i b h => hown'.nodup i b (by rw [List.getElem?_append_left (List.getElem?_eq_some_iff.1 h).1]; exact h), fun i j b b' hne h1 h2 => hown'.disj i j b b' hne (by rw [List.getElem?_append_left (List.getElem?_eq_some_iff.1 h1).1]; exact h1) (by rw [List.getElem?_append_left (List.getElem?_eq_some_iff.1 h2).1]; exact h2)⟩
  have hmine : ∀ q, InL (bsr ++ [bs']) q → w.heap.size ≤ q ∨ q ∈ bs := fun q h => (went.mine q h).imp id (hin1 _ _).1
  obtain ⟨u0, e0, es, es', rfl, rfl⟩ := hx1
  obtain ⟨hm2, hf2⟩ := hm.set2 (S2 := After S w w' [bs] (bsr ++ [bs'])) (x' := .nm u0 e0 es') (bs' := bs') hs hvr hbr hk (fun q h => .inl h) (fun q h => h.imp id fun ⟨h1, h2, h3⟩ => ⟨h1.imp id (hin1 _ _).1, h2, fun h => h3 (hinS q h)⟩)
    (went.rep 0 _ v bs' rfl rfl rfl) (hown'.nodup bsr.length bs' (by simp)) (fun q h => (hmine q (hinS q h)).symm) (fun e es2 h => by cases h) (fun b ks h => by cases h)
  have hs2 : (T.slots.set r (k, AV.nm u0 e0 es'))[r]? = some (k, .nm u0 e0 es') := by simp [hrl]
  have hcl : ∀ (i : Nat) (y : AV), ys'[i]? = some y → cloA 1 y = true := fun i y h => List.all_eq_true.1 hn y (List.mem_of_getElem? h)
  obtain ⟨vals', bss'', g1, g2, g3⟩ := unp_ok2 (ys'.map (renA r k)) us bsr _ vals _ hm2 (by simp [went.nu]) (by simp [went.nr]) (fun i u y b q1 q2 q3 => by
    rw [List.getElem?_map] at q2
    cases hq : ys'[i]? with
    | none => rw [hq] at q2; cases q2
    | some y0 =>
      rw [hq] at q2
      simp only [Option.map_some, Option.some.injEq] at q2
      subst q2
      rcases went.res i u y0 b q1 hq q3 with h | ⟨h1, h2⟩
      · exact .inl (h.ren r k)
      · exact .inr ⟨h1, renA_ok (T' := ⟨T.slots.set r (k, .nm u0 e0 es'), T.ep⟩) hs2 hvr (hm.ver r k _ hs) h2 (hcl i y0 hq)⟩) hownR (fun q hq => by
      refine ⟨fun ⟨i, b, h1, h2⟩ => ?_, fun h => ?_, ?_⟩
      · rw [getElem?_set_ _ _ _ _ (by rw [hm.nb]; exact hrl)] at h1
        obtain ⟨j, bj, h3, h4⟩ := hq
        split at h1
        · injection h1 with h1; subst h1
          refine hown'.disj j bsr.length bj bs' ?_ (by rw [List.getElem?_append_left (List.getElem?_eq_some_iff.1 h3).1]; exact h3) (by simp) q h4 h2
          have := (List.getElem?_eq_some_iff.1 h3).1; omega
        rename_i hne
        rcases hmine q (hinR q ⟨j, bj, h3, h4⟩) with h | h
        · have := hm.blt h1 q h2; omega
        exact hm.disj r i bs b hne hbr h1 q h h2
      · rcases h with h | ⟨_, _, h⟩
        · rcases hmine q (hinR q hq) with h' | h'
          · have := hm.lt q h; omega
          exact hm.apart r bs hbr q h' h
        exact h (hinR q hq)
      rcases hmine q (hinR q hq) with h | h
      · have := hm.kept.size; exact .inr (by omega)
      exact hm.mine r bs hbr q h)
  subst hT
  refine hK _ _ _ _ _ g1 (fun u x h => g2 u x (hf2 u x h)) ?_
  subst hx
  match us, hz : (unp (ys'.map (renA r k)) ⟨T.slots.set r (k, .nm u0 e0 es'), T.ep⟩).1, g3 with
  | [], zs, rl =>
    have : zs = [] := List.eq_nil_of_length_eq_zero rl.1.symm
    subst this
    exact ⟨#[], rfl, RL.nil⟩
  | [u], zs, rl =>
    obtain ⟨z, rfl⟩ : ∃ z, zs = [z] := by
      match zs, rl.1 with
      | [z], _ => exact ⟨z, rfl⟩
    have := rl.2 0 u z rfl rfl
    cases z with
    | tup cs => exact absurd rfl (Rep.plain (show Rep _ _ _ _ _ (.tup cs) from this) cs).2
    | _ => exact this
  | u :: u2 :: us, zs, rl =>
    obtain ⟨z1, z2, zs', rfl⟩ : ∃ z1 z2 zs', zs = z1 :: z2 :: zs' := by
      match zs, rl.1 with
      | z1 :: z2 :: zs', _ => exact ⟨z1, z2, zs', rfl⟩
    exact ⟨_, rfl, by simpa using rl⟩
end
end Go.Proofs.YtmdohphcolffmaaGreat
namespace Go.Proofs.YtmdohphcolffmaaGreat
open Go.RowKit
set_option linter.unusedSimpArgs false
set_option linter.unusedVariables false
section
variable {C : Cx} {T : Sl} {S : Nat → Prop} {vals : List Value} {bss : List (List Nat)} {w : World} {o : Oper} {ev : Operand → AV}
/-- A call, its arguments having come in whatever way. -/
theorem op_callC {f : FuncId} {args : Array Operand} {ts : Array TypeId} {b : Bool} {xs ys : List AV} (ho : o.op = .call { callee := .value (.func f), args := args, argTypes := ts }) (hf : Enters C.P f) (hsp : Fn C.P f [] xs ys []) (hv : ∀ (a : Act) w S vals bss, Mem C T S vals bss w → (∀ y ∈ args, TmpOK C.P S w T vals (a.eval y) (ev y)) → Came C.P [] xs w (lent b S bss) [] [] (args.toList.map a.eval))
    (hn : ys.all nrefA = true) (hsol : b = true → ∀ y ∈ ys, SolidA C.P y) {x : AV} {T' : Sl} (hx : packR (unp ys T).1 = x) (hT : (unp ys T).2 = T') : OpJ C o ev T x T' := by
  intro a w S vals bss hm h K hK Q
  have hargs : ∀ y ∈ args, TmpOK C.P S w T vals (a.eval y) (ev y) := fun y hy => h y (by simp [ho, Op.operands, Call.operands]; exact .inr hy)
  have hc := hsp w (lent b S bss) [] [] _ (hv a w S vals bss hm hargs)
  have hrun : (execOp a.eval o).run C.P w = .ok (.enter f (args.toList.map a.eval).toArray) w := by
    have e1 : (args.map a.eval) = (args.toList.map a.eval).toArray := by apply Array.toList_inj.1; simp
    simp only [execOp, ho, resolve, Act.eval, Deferred.ofValue, Sem.run_bind, Sem.run_pure, Result.andThen_ok, invoke]
    rw [← e1]
    simpa using hf _ w
  unfold Oper.wp
  rw [hrun, Oper.upon_enter]
  refine hc.mono ?_
  rintro e w' ⟨us, ys', outs, bsr, bss', rfl, went, rfl, rfl⟩
  simp only
  have hb0 : bss' = [] := List.eq_nil_of_length_eq_zero went.nb
  subst hb0
  have hk : Kept (fun _ => True) w w' := went.kept.mono fun k _ _ ⟨r, bs, h, _⟩ => by simp at h
  have hown : Own2 bsr := by have := went.own; rwa [List.append_nil] at this
  have hmine : ∀ q, InL bsr q → w.heap.size ≤ q := fun q hq => by
    have := went.mine q (by rw [List.append_nil]; exact hq)
    exact this.resolve_right fun ⟨r, bs, h, _⟩ => by simp at h
  have hS2 : ∀ k, S k → S k ∨ (w.heap.size ≤ k ∧ k < w'.heap.size ∧ ¬ InL bsr k) := fun k h => .inl h
  have hm1 := (hm.grow hk).more (S' := fun k => S k ∨ (w.heap.size ≤ k ∧ k < w'.heap.size ∧ ¬ InL bsr k)) hS2 fun k h => by
    rcases h with h | ⟨h1, h2, h3⟩
    · exact .inl h
    refine .inr ⟨.inr (.inr (by have := hm.kept.size; omega)), h2, fun ⟨r, bs, q1, q2⟩ => ?_⟩
    have := hm.blt q1 k q2; omega
  have hf1 : Follows C.P S w T vals (fun k => S k ∨ (w.heap.size ≤ k ∧ k < w'.heap.size ∧ ¬ InL bsr k)) w' T vals := Follows.kept hk (fun _ _ _ => trivial) hS2
  have hAf : ∀ k, After (lent b S bss) w w' [] (bsr ++ []) k → (S k ∨ (w.heap.size ≤ k ∧ k < w'.heap.size ∧ ¬ InL bsr k)) ∨ (b = true ∧ InL bss k) := fun k h => by
    rcases h with h | ⟨h1, h2, h3⟩
    · rcases h with h | h
      · exact .inl (.inl h)
      exact .inr h
    rcases h1 with h1 | ⟨r, bs, h, _⟩
    · rw [List.append_nil] at h3; exact .inl (.inr ⟨h1, h2, h3⟩)
    simp at h
  obtain ⟨vals', bss'', g1, g2, g3⟩ := unp_ok ys' us bsr T vals bss hm1 went.nu went.nr (fun i u y bs q1 q2 q3 => by
    have hny : nrefA y = true := List.all_eq_true.1 hn y (List.mem_of_getElem? q2)
    cases b with
    | false =>
      have hA : ∀ k, After (lent false S bss) w w' [] (bsr ++ []) k → S k ∨ (w.heap.size ≤ k ∧ k < w'.heap.size ∧ ¬ InL bsr k) := fun k h => (hAf k h).resolve_right (by simp)
      rcases went.res i u y bs q1 q2 q3 with h | ⟨h1, h2⟩
      · exact .inl (h.mono fun k _ => hA k)
      exact .inr ⟨h1, hny, T, vals, h2.nref hny hA⟩
    | true =>
      have hs := hsol rfl y (List.mem_of_getElem? q2)
      rcases went.res i u y bs q1 q2 q3 with h | ⟨h1, h2⟩
      · left
        cases y with
        | agg cs => exact absurd rfl (h.plain cs).1
        | _ => exact hs _ _ _ _ _ h
      · refine .inr ⟨h1, hny, T, vals, ?_⟩
        cases y with
        | any => trivial
        | agg cs =>
          obtain ⟨us', e, r⟩ := h2
          simp only [nrefA, List.all_eq_true] at hny
          refine ⟨us', e, r.1, fun i u x hu hx => ?_⟩
          have h3 := r.2 i u x hu hx
          have h4 := hny x (List.mem_of_getElem? hx)
          have h5 := hs x (List.mem_of_getElem? hx)
          cases x with
          | sl => cases h4
          | ptr => cases h4
          | mp => cases h4
          | nm => exact h3
          | byt => exact h3
          | om => exact h3
          | _ => exact h5 _ _ _ _ _ h3
        | sl => cases hny
        | ptr => cases hny
        | mp => cases hny
        | tup => cases hny
        | nm => exact h2
        | byt => exact h2
        | om => exact h2
        | _ => simp only [AggOK] at h2 ⊢; exact hs _ _ _ _ _ h2) hown (fun q hq => by
      have hge := hmine q hq
      refine ⟨fun ⟨r, bs, q1, q2⟩ => by have := hm.blt q1 q q2; omega, fun h => ?_, .inr (by have := hm.kept.size; omega)⟩
      rcases h with h | h
      · have := hm.lt q h; omega
      exact h.2.2 hq)
  subst hT
  refine hK _ _ _ _ _ g1 (fun u x h => g2 u x (hf1 u x h)) ?_
  subst hx
  match us, hz : (unp ys' T).1, g3 with
  | [], zs, r =>
    have : zs = [] := List.eq_nil_of_length_eq_zero r.1.symm
    subst this
    exact ⟨#[], rfl, RL.nil⟩
  | [u], zs, r =>
    obtain ⟨z, rfl⟩ : ∃ z, zs = [z] := by
      match zs, r.1 with
      | [z], _ => exact ⟨z, rfl⟩
    exact (r.2 0 u z rfl rfl).tmp
  | u :: u2 :: us, zs, r =>
    obtain ⟨z1, z2, zs', rfl⟩ : ∃ z1 z2 zs', zs = z1 :: z2 :: zs' := by
      match zs, r.1 with
      | z1 :: z2 :: zs', _ => exact ⟨z1, z2, zs', rfl⟩
    exact ⟨_, rfl, by simpa using r⟩
/-- What an argument is seen as while a named slice is lent for reading. -/
inductive ViewN (T : Sl) (r k : Nat) (u : Value) (e : TypeId) (es : List (List AV)) : AV → AV → Prop
  | base {y x} (h : View T true y x) : ViewN T r k u e es y x
  | up {f : FuncId} {c : AV} (hc : nref1 c = true) : ViewN T r k u e es (.agg [.clo f [.rop [.v u]], c]) (.agg [.clo f [.rop [.ro es]], c])
theorem viewN_ok (hm : Mem C T S vals bss w) {r k : Nat} {u : Value} {e : TypeId} {es : List (List AV)} (hT : T.slots[r]? = some (k, .nm u e es)) (hf : ∀ r ∈ es, ∀ c ∈ r, flatA c = true) {y x : AV} (h : ViewN T r k u e es y x) {v : Value} (hv : TmpOK C.P S w T vals v y) : AggOK C.P (lent true S bss) w (insT []) [] v x := by
  cases h with
  | base h => exact view_ok hm h hv
  | @up f c hc =>
    obtain ⟨us, rfl, rl⟩ := (show ∃ us, v = .agg us ∧ RL (RefOK C.P S w T vals) us.toList [.clo f [.rop [.v u]], c] from hv)
    refine ⟨us, rfl, rl.1, fun i z q h1 h2 => ?_⟩
    match i, h2 with
    | 0, h2 =>
      injection h2 with h2
      subst h2
      obtain ⟨cu, rfl, g1, g2⟩ := (show Rep C.P S w [] z (.clo f [.rop [.v u]]) from rl.2 0 z _ h1 rfl).clo_inv
      refine Rep.clo (us := cu) g1 fun j z1 q1 h3 h4 => ?_
      match j, h4 with
      | 0, h4 =>
        injection h4 with h4
        subst h4
        exact rop_up hm hT hf (g2 0 z1 _ h3 rfl)
    | 1, h2 =>
      injection h2 with h2
      subst h2
      exact (rl.2 1 z _ h1 rfl).nref hc fun k h => .inl h
theorem cameN (hm : Mem C T S vals bss w) {r k : Nat} {u : Value} {e : TypeId} {es : List (List AV)} (hT : T.slots[r]? = some (k, .nm u e es)) (hf : ∀ r ∈ es, ∀ c ∈ r, flatA c = true) {args : Array Operand} {a : Act} {xs : List AV} (hv : RL (ViewN T r k u e es) (args.toList.map ev) xs) (ho : ∀ y ∈ args, TmpOK C.P S w T vals (a.eval y) (ev y)) : Came C.P [] xs w (lent true S bss) [] [] (args.toList.map a.eval) := by
  refine ⟨fun k h => ?_, rfl, rfl, by simp, ⟨by simp, by simp⟩, fun b ⟨r, bs, h, _⟩ => by simp at h, by have := hv.1; simpa using this, fun i u x h1 h2 => ?_⟩
  · rcases h with h | ⟨_, r, bs, h1, h2⟩
    · exact hm.lt k h
    exact hm.blt h1 k h2
  rw [List.getElem?_map] at h1
  cases hq : args.toList[i]? with
  | none => rw [hq] at h1; cases h1
  | some y =>
    rw [hq] at h1
    simp only [Option.map_some, Option.some.injEq] at h1
    subst h1
    exact viewN_ok hm hT hf (hv.2 i (ev y) x (by rw [List.getElem?_map, hq]; rfl) h2) (ho y (Array.mem_toList_iff.1 (List.mem_of_getElem? hq)))
/-- A call to which a named slice is lent for reading. -/
theorem op_callRd {f : FuncId} {args : Array Operand} {ts : Array TypeId} {xs ys : List AV} {r k : Nat} {u : Value} {e : TypeId} {es : List (List AV)} (ho : o.op = .call { callee := .value (.func f), args := args, argTypes := ts }) (hf : Enters C.P f) (hsp : Fn C.P f [] xs ys [])
    (hs : T.slots[r]? = some (k, .nm u e es)) (hfl : ∀ r ∈ es, ∀ c ∈ r, flatA c = true) (hv : RL (ViewN T r k u e es) (args.toList.map ev) xs)
    (hn : ys.all nrefA = true) (hsol : ∀ y ∈ ys, SolidA C.P y) {x : AV} {T' : Sl} (hx : packR (unp ys T).1 = x) (hT : (unp ys T).2 = T') : OpJ C o ev T x T' :=
  op_callC (b := true) ho hf hsp (fun a w S vals bss hm h => cameN hm hs hfl hv h) hn (fun _ => hsol) hx hT
end
section
open Go.Sort
variable {α : Type} {enc : α → List Value} {k : Nat}
def rowK (enc : α → List Value) (x : α) : List AV := (enc x).map .v
theorem flat_rowK (l : List α) : (l.map (rowK enc)).flatten = (l.map enc).flatten.map .v := by
  induction l with
  | nil => rfl
  | cons x l ih => simp only [List.map_cons, List.flatten_cons, List.map_append, ih]; rfl
theorem len_flatE (hk : ∀ x, (enc x).length = k) (l : List α) : (l.map enc).flatten.length = l.length * k := by
  induction l with
  | nil => simp
  | cons x l ih => rw [List.map_cons, List.flatten_cons, List.length_append, ih, hk, List.length_cons, Nat.add_mul, Nat.one_mul, Nat.add_comm]
variable [Inhabited α]
theorem get_flatE (hk : ∀ x, (enc x).length = k) : ∀ (l : List α) (t : Nat), t < l.length * k → (l.map enc).flatten[t]? = (enc (l.getD (t / k) default))[t % k]?
  | [], t, h => by simp at h
  | x :: l, t, h => by
    rw [List.map_cons, List.flatten_cons]
    have h0 : 0 < k := Nat.pos_of_ne_zero fun e => by subst e; simp at h
    by_cases ht : t < k
    · rw [List.getElem?_append_left (by rw [hk]; exact ht), Nat.div_eq_of_lt ht, Nat.mod_eq_of_lt ht]; rfl
    rw [List.getElem?_append_right (by rw [hk]; omega), hk, get_flatE hk l (t - k) (by rw [List.length_cons, Nat.add_mul, Nat.one_mul] at h; omega)]
    obtain ⟨s, rfl⟩ : ∃ s, t = s + k := ⟨t - k, by omega⟩
    rw [Nat.add_sub_cancel, Nat.add_div_right _ h0, Nat.add_mod_right]; rfl
theorem flatK_list (hk : ∀ x, (enc x).length = k) (l : List α) : (flatK enc k l.toArray).toList = (l.map enc).flatten := by
  apply List.ext_getElem?
  intro t
  by_cases ht : t < l.length * k
  · rw [get_flatE hk l t ht]
    have h0 : 0 < k := Nat.pos_of_ne_zero fun e => by subst e; simp at ht
    have h1 : t % k < k := Nat.mod_lt _ h0
    have h2 : t < (flatK enc k l.toArray).size := by simpa using ht
    have h3 := get_flatK enc k l.toArray t (by simpa using ht)
    rw [getElem!_pos _ t h2] at h3
    rw [Array.getElem?_toList, Array.getElem?_eq_getElem h2, h3, show l.toArray[t / k]! = l.getD (t / k) default by simp [List.getD_eq_getElem?_getD, Array.getElem!_eq_getD, Array.getD]; split <;> simp_all]
    rw [List.getElem?_eq_getElem (by rw [hk]; exact h1), getElem!_pos _ _ (by rw [hk]; exact h1)]
  rw [List.getElem?_eq_none (by simpa using ht), List.getElem?_eq_none (by rw [len_flatE hk]; omega)]
omit [Inhabited α] in
/-- A row of one's own of k plain cells an element: what lies there. -/
theorem repK_inv (hk : ∀ x, (enc x).length = k) {P : Program} {S : Nat → Prop} {w : World} {bs : List Nat} {u : Value} {e : TypeId} {ds : List α} (h : Rep P S w bs u (.own e (ds.map (rowK enc)))) (hi : sizeIs P e k) (hd : 0 < ds.length) :
    ∃ g cap cur, u = .slice (some ⟨g, 0, none⟩) ds.length cap ∧ w.heap[g]? = some (.cells cur e (0, 0)) ∧ ds.length ≤ cap ∧ cap ≤ maxLen ∧ cur.size = cap * k ∧ cur.toList.take (ds.length * k) = (ds.map enc).flatten ∧ bs = [g] := by
  obtain ⟨us, sz, bss, rfl, hi', hsz, hown, hul, hbl, hc⟩ := h.own_inv
  obtain rfl := sizeIs.inj hi hi'
  rw [List.length_map] at hown
  have hlf : us.length = (ds.map enc).flatten.length := by rw [hul, flat_rowK, List.length_map]
  have key : ∀ j (hj : j < us.length) (hj' : j < (ds.map enc).flatten.length), Rep P S w (bss[j]'(by rw [hbl]; exact hj)) us[j] (.v (ds.map enc).flatten[j]) := fun j hj hj' => by
    have hx : (ds.map (rowK enc)).flatten[j]? = some (.v (ds.map enc).flatten[j]) := by
      have := congrArg (fun l => l[j]?) (flat_rowK (enc := enc) ds)
      simp only [List.getElem?_map, List.getElem?_eq_getElem hj'] at this
      exact this
    exact hc j _ _ _ (List.getElem?_eq_getElem hj) hx (List.getElem?_eq_getElem _)
  rcases hown.2 with ⟨-, h0⟩ | ⟨g, cap, cur, rfl, -, hg, h1, h2, h3, h4⟩
  · omega
  have hus : us = (ds.map enc).flatten := by
    refine List.ext_getElem (by rw [hul, flat_rowK, List.length_map]) fun j h5 h6 => ?_
    exact (key j h5 h6).v_inv.1
  have hbs : bss.flatten = [] := by
    rw [List.flatten_eq_nil_iff]
    intro b hb
    obtain ⟨j, hj, rfl⟩ := List.getElem_of_mem hb
    exact (key j (by rw [← hbl]; exact hj) (by rw [← hlf, ← hbl]; exact hj)).v_inv.2.1
  exact ⟨g, cap, cur, rfl, hg, h1, h2, h3, by rw [h4, hus], by rw [hbs]; rfl⟩
omit [Inhabited α] in
theorem repK (hk : ∀ x, (enc x).length = k) {P : Program} {S : Nat → Prop} {w : World} {e : TypeId} {ds : List α} {g cap : Nat} {cur : Array Value} (h1c : ∀ x, ∀ v ∈ enc x, v.oneCell' = true) (hi : sizeIs P e k) (hg : w.heap[g]? = some (.cells cur e (0, 0))) (h1 : ds.length ≤ cap) (h2 : cap ≤ maxLen) (h3 : cur.size = cap * k) (h4 : cur.toList.take (ds.length * k) = (ds.map enc).flatten) :
    Rep P S w [g] (.slice (some ⟨g, 0, none⟩) ds.length cap) (.own e (ds.map (rowK enc))) := by
  have := Rep.own (P := P) (S := S) (w := w) (v := .slice (some ⟨g, 0, none⟩) ds.length cap) (e := e) (es := ds.map (rowK enc)) (us := (ds.map enc).flatten) (sz := k) (bss := List.replicate (ds.length * k) []) hi
    (fun x hx => by obtain ⟨p, _, rfl⟩ := List.mem_map.1 hx; rw [rowK, List.length_map, hk])
    ⟨by rw [len_flatE hk, List.length_map], .inr ⟨g, cap, cur, by rw [List.length_map], Nat.zero_le _, hg, by rw [List.length_map]; exact h1, h2, h3, by rw [List.length_map]; exact h4⟩⟩
    (by rw [flat_rowK, List.length_map]) (by rw [List.length_replicate, len_flatE hk])
    (fun i u x bs q1 q2 q3 => by
      rw [flat_rowK, List.getElem?_map, q1] at q2
      injection q2 with q2
      subst q2
      rw [List.getElem?_replicate] at q3
      split at q3
      · injection q3 with q3; subst q3
        obtain ⟨r, hr, hur⟩ := List.mem_flatten.1 (List.mem_of_getElem? q1)
        obtain ⟨z, _, rfl⟩ := List.mem_map.1 hr
        exact .v (h1c z u hur)
      cases q3)
  simpa [Value.ownBlock] using this
theorem holdsKE (hk : ∀ x, (enc x).length = k) {w : World} {g : Nat} {cur : Array Value} {e : TypeId} {ds : List α} (hb : w.heap[g]? = some (.cells cur e (0, 0))) (ht : cur.toList.take (ds.length * k) = (ds.map enc).flatten) : HoldsK enc k w g 0 ds.toArray := by
  have := holdsE (enc := id) (ss := (flatK enc k ds.toArray).toList) hb (by rw [flatK_list hk, len_flatE hk, List.map_id]; exact ht)
  simpa [HoldsK] using this
theorem heapKE {w : World} {g : Nat} {cur : Array Value} {e : TypeId} {fr : Nat × Nat} (d : Array α) (hb : w.heap[g]? = some (.cells cur e fr)) : (putRowK enc k w g 0 d).heap[g]? = some (.cells (putCells id 0 (flatK enc k d) cur) e fr) := by
  have := heapE (enc := id) (n := 0) (os := #[]) (flatK enc k d) hb
  simpa [putRowK] using this
theorem takeKE (hk : ∀ x, (enc x).length = k) (cur : Array Value) (l : List α) (h : l.length * k ≤ cur.size) : (putCells id 0 (flatK enc k l.toArray) cur).toList.take (l.length * k) = (l.map enc).flatten := by
  have := takeE (enc := id) cur (flatK enc k l.toArray).toList (by rw [flatK_list hk, len_flatE hk]; exact h)
  rw [flatK_list hk, len_flatE hk, List.map_id] at this
  rw [← this, ← flatK_list hk]
theorem keptKE {w : World} {g : Nat} (d : Array α) : Kept (fun q => q ≠ g) w (putRowK enc k w g 0 d) := by
  have := keptE (enc := id) (w := w) (g := g) (n := 0) (os := #[]) (flatK enc k d)
  simpa [putRowK] using this
end
section
open Go.Sort
variable {C : Cx} {o : Oper} {ev : Operand → AV} {T : Sl} {α : Type} [Inhabited α] {enc : α → List Value} {k : Nat}
/-- The library's swap of two rows, by a function value, in a slice that bears a name. -/
theorem op_swapN (hk : ∀ x, (enc x).length = k) (h1c : ∀ x, ∀ v ∈ enc x, v.oneCell' = true) {sf : FuncId} {p p1 p2 : Operand} {ts : Array TypeId} {r k0 : Nat} {u th : Value} {e : TypeId} {ds : List α} {i j : Nat} {ui uj : Int}
    (ho : o.op = .call { callee := .value p, args := #[p1, p2], argTypes := ts }) (hp : ev p = .clo sf [.v u, .v th]) (h1 : ev p1 = .v (.int .i64 ui)) (h2 : ev p2 = .v (.int .i64 uj)) (hT : T.slots[r]? = some (k0, .nm u e (ds.map (rowK enc)))) (hsz : sizeIs C.P e k)
    (hui : ui = i) (huj : uj = j) (hi : i < ds.length) (hj : j < ds.length) (hsw : ∀ blk n c, u = .slice (some ⟨blk, 0, none⟩) n c → SwapSwapsK C.P sf #[u, th] enc k blk 0 n)
    {T' : Sl} (hT' : (⟨T.slots.set r (k0, .nm u e ((swp ds.toArray i j).toList.map (rowK enc))), T.ep⟩ : Sl) = T') : OpJ C o ev T .any T' := by
  subst hT' hui huj
  intro a w S vals bss hm h K hK Q
  have q0 := h p (by simp [ho, Op.operands, Call.operands])
  have q1 := h p1 (by simp [ho, Op.operands, Call.operands])
  have q2 := h p2 (by simp [ho, Op.operands, Call.operands])
  rw [hp] at q0
  rw [h1] at q1
  rw [h2] at q2
  obtain ⟨us, hfv, hul, hur⟩ := (show Rep C.P S w [] _ (.clo sf [.v u, .v th]) from q0).clo_inv
  obtain ⟨a1, a2, rfl⟩ : ∃ a1 a2, us = [a1, a2] := by
    match us, hul with
    | [a1, a2], _ => exact ⟨a1, a2, rfl⟩
  have e1 := (hur 0 a1 (.v u) rfl rfl).v_inv.1
  have e2 := (hur 1 a2 (.v th) rfl rfl).v_inv.1
  subst e1 e2
  obtain ⟨v, bs, hv, hb, hrep⟩ := hm.slot hT
  have hnm : v = a1 ∧ Rep C.P S w bs a1 (.own e (ds.map (rowK enc))) := by
    cases hrep with
    | nm h => exact ⟨rfl, h⟩
  obtain ⟨rfl, hr1⟩ := hnm
  have hbn := hm.nodup r bs hb
  obtain ⟨g0, cap, cur, rfl, hg, c1, c2, c3, c4, rfl⟩ := repK_inv hk hr1 hsz (by omega)
  have hH := holdsKE hk hg c4
  have hs := hsw g0 ds.length cap rfl w ds.toArray hH (by simp) i j hi hj
  have hlk : ds.length * k ≤ cap * k := Nat.mul_le_mul_right k c1
  have hw' : (w.setCells g0 (0 + i * k) (enc ds.toArray[j]!)).setCells g0 (0 + j * k) (enc ds.toArray[i]!) = putRowK enc k w g0 0 (swp ds.toArray i j) := by
    have := putRowK_swp enc k hk w g0 0 ds.toArray i j (by simpa using hi) (by simpa using hj)
    rwa [putRowK_self enc k w g0 0 _ hH] at this
  rw [hw'] at hs
  have hrun : (execOp a.eval o).run C.P w = .ok (.value (.tuple #[])) (putRowK enc k w g0 0 (swp ds.toArray i j)) := by
    simp only [execOp, ho, resolve, hfv, Deferred.ofValue, Sem.run_bind, Sem.run_pure, Result.andThen_ok, invoke]
    have e1 : (#[p1, p2].map a.eval) = #[.int .i64 (i : Int), .int .i64 (j : Int)] := by
      simp only [List.map_toArray, List.map_cons, List.map_nil]
      rw [q1.v, q2.v]
    rw [show (#[p1, p2].map fun o => a.eval o) = (#[p1, p2].map a.eval) from rfl] at *
    simpa [e1] using hs
  unfold Oper.wp
  rw [hrun]
  have hln : (swp ds.toArray i j).toList.length = ds.length := by simp [size_swp]
  have hk' : Kept (fun q => q ∉ [g0]) w (putRowK enc k w g0 0 (swp ds.toArray i j)) := (keptKE _).mono fun q _ h => by simpa using h
  have hr2 : Rep C.P S (putRowK enc k w g0 0 (swp ds.toArray i j)) [g0] (.slice (some ⟨g0, 0, none⟩) ds.length cap) (.own e ((swp ds.toArray i j).toList.map (rowK enc))) := by
    have ht := takeKE hk cur (swp ds.toArray i j).toList (by rw [hln, c3]; exact hlk)
    have := repK (P := C.P) (S := S) (e := e) (ds := (swp ds.toArray i j).toList) hk h1c hsz (heapKE (swp ds.toArray i j).toList.toArray hg) (by rw [hln]; exact c1) c2 (by simp [putCells, c3]) ht
    rw [hln] at this
    exact this
  obtain ⟨hm1, hf1⟩ := hm.set (k' := k0) (ep' := T.ep) hT hv hb hk' (.nm hr2) hbn (fun b h => .inl h) (.inl ⟨rfl, rfl, rfl, (fun e es h => by cases h), fun b ks h => by cases h⟩)
  exact hK _ _ _ _ _ hm1 hf1 TmpOK.any_
end
end Go.Proofs.YtmdohphcolffmaaGreat
namespace Go.Proofs.YtmdohphcolffmaaGreat
open Go.RowKit
set_option linter.unusedSimpArgs false
set_option linter.unusedVariables false
set_option maxRecDepth 100000
set_option maxHeartbeats 8000000 in
theorem C48 {l : List Piece} {i j : Nat} (hi : i < l.length) (hj : j < l.length) (hl : l.length ≤ 1000) : Fn Tryz.prog 48 [] [.v (.int .i64 i), .v (.int .i64 j), .rop [.ro (l.map Piece.av)]] [.v (.bool (befB l[i] l[j]))] [] := by
  refine Spec.body Tryz.func48 rfl Tryz.ntmps48 (by simp) rfl ?_; intro S0 own0 v0 w0
  (refine AW.seq_k ?_; intro K hK)
  refine AW.region ?_
  refine awP (op_assign rfl rfl) ?_; (try simp only [nA, Nat.reduceBEq, Nat.reduceEqDiff, ↓reduceIte, Nat.reduceAdd, Nat.reduceSub])
  refine AWL.nil ?_
  (refine hK _ ?_; clear hK K; (try simp only [nA, Nat.reduceBEq, Nat.reduceEqDiff, ↓reduceIte, Nat.reduceAdd, Nat.reduceSub]))
  (refine AW.seq_k ?_; intro K hK)
  (refine AW.seq_k ?_; intro K hK)
  refine AW.quiet mix (by kernel_rfl) ?_
  (refine aqR (op_load_rop1 rfl rfl ag31) ?_); (try simp only [nA, Nat.reduceBEq, Nat.reduceEqDiff, ↓reduceIte, Nat.reduceAdd, Nat.reduceSub])
  refine aqP (op_move rfl rfl) ?_; (simp only [nA, ↓reduceIte])
  (refine aqP (op_ia_ro _ rfl (.inl rfl) rfl Tryz.underlying31 rfl (get_map (by omega)) (by exact sz35) (bl rfl)) ?_); (try simp only [nA, Nat.reduceBEq, Nat.reduceEqDiff, ↓reduceIte, Nat.reduceAdd, Nat.reduceSub])
  (refine aqP (op_fa_rop rfl rfl fl35_1 (by exact sz3) (by decide) (bl rfl) rfl) ?_); (try simp only [nA, Nat.reduceBEq, Nat.reduceEqDiff, ↓reduceIte, Nat.reduceAdd, Nat.reduceSub])
  (refine aqR (op_load_rop1 rfl rfl ag3) ?_); (try simp only [nA, Nat.reduceBEq, Nat.reduceEqDiff, ↓reduceIte, Nat.reduceAdd, Nat.reduceSub])
  (refine aqR (op_load_rop1 rfl rfl ag31) ?_); (try simp only [nA, Nat.reduceBEq, Nat.reduceEqDiff, ↓reduceIte, Nat.reduceAdd, Nat.reduceSub])
  refine aqP (op_move rfl rfl) ?_; (simp only [nA, ↓reduceIte])
  (refine aqP (op_ia_ro _ rfl (.inl rfl) rfl Tryz.underlying31 rfl (get_map (by omega)) (by exact sz35) (bl rfl)) ?_); (try simp only [nA, Nat.reduceBEq, Nat.reduceEqDiff, ↓reduceIte, Nat.reduceAdd, Nat.reduceSub])
  (refine aqP (op_fa_rop rfl rfl fl35_1 (by exact sz3) (by decide) (bl rfl) rfl) ?_); (try simp only [nA, Nat.reduceBEq, Nat.reduceEqDiff, ↓reduceIte, Nat.reduceAdd, Nat.reduceSub])
  (refine aqR (op_load_rop1 rfl rfl ag3) ?_); (try simp only [nA, Nat.reduceBEq, Nat.reduceEqDiff, ↓reduceIte, Nat.reduceAdd, Nat.reduceSub])
  (refine aqP (op_neq rfl rfl rfl) ?_); (try simp only [nA, Nat.reduceBEq, Nat.reduceEqDiff, ↓reduceIte, Nat.reduceAdd, Nat.reduceSub])
  refine AQ.nil ?_
  (refine hK _ ?_; clear hK K; (skip))
  refine AW.cond rfl rfl rfl (fun hc => ?_) (fun hc => ?_)
  ·
   (try simp only [hcS] at hc); have hc1 := hc
   (refine AW.seq_k ?_; intro K hK)
   refine AW.quiet mix (by kernel_rfl) ?_
   (refine aqR (op_load_rop1 rfl rfl ag31) ?_); (try simp only [nA, Nat.reduceBEq, Nat.reduceEqDiff, ↓reduceIte, Nat.reduceAdd, Nat.reduceSub])
   refine aqP (op_move rfl rfl) ?_; (simp only [nA, ↓reduceIte])
   (refine aqP (op_ia_ro _ rfl (.inl rfl) rfl Tryz.underlying31 rfl (get_map (by omega)) (by exact sz35) (bl rfl)) ?_); (try simp only [nA, Nat.reduceBEq, Nat.reduceEqDiff, ↓reduceIte, Nat.reduceAdd, Nat.reduceSub])
   (refine aqP (op_fa_rop rfl rfl fl35_1 (by exact sz3) (by decide) (bl rfl) rfl) ?_); (try simp only [nA, Nat.reduceBEq, Nat.reduceEqDiff, ↓reduceIte, Nat.reduceAdd, Nat.reduceSub])
   (refine aqR (op_load_rop1 rfl rfl ag3) ?_); (try simp only [nA, Nat.reduceBEq, Nat.reduceEqDiff, ↓reduceIte, Nat.reduceAdd, Nat.reduceSub])
   (refine aqR (op_load_rop1 rfl rfl ag31) ?_); (try simp only [nA, Nat.reduceBEq, Nat.reduceEqDiff, ↓reduceIte, Nat.reduceAdd, Nat.reduceSub])
   refine aqP (op_move rfl rfl) ?_; (simp only [nA, ↓reduceIte])
   (refine aqP (op_ia_ro _ rfl (.inl rfl) rfl Tryz.underlying31 rfl (get_map (by omega)) (by exact sz35) (bl rfl)) ?_); (try simp only [nA, Nat.reduceBEq, Nat.reduceEqDiff, ↓reduceIte, Nat.reduceAdd, Nat.reduceSub])
   (refine aqP (op_fa_rop rfl rfl fl35_1 (by exact sz3) (by decide) (bl rfl) rfl) ?_); (try simp only [nA, Nat.reduceBEq, Nat.reduceEqDiff, ↓reduceIte, Nat.reduceAdd, Nat.reduceSub])
   (refine aqR (op_load_rop1 rfl rfl ag3) ?_); (try simp only [nA, Nat.reduceBEq, Nat.reduceEqDiff, ↓reduceIte, Nat.reduceAdd, Nat.reduceSub])
   refine aqP (op_gtr rfl rfl rfl) ?_; (try simp only [nA, Nat.reduceBEq, Nat.reduceEqDiff, ↓reduceIte, Nat.reduceAdd, Nat.reduceSub])
   refine aqP (op_assign rfl rfl) ?_; (simp only [nA])
   refine AQ.nil ?_
   (refine hK _ ?_; clear hK K; (skip))
   skip
   refine AW.ret ?_; (try simp only [thenE, inBlk, Nat.reduceEqDiff, ↓reduceIte]); rw [show befB l[i] l[j] = decide (l[i].weight > l[j].weight) by unfold befB; simp [hc]]; exact RQ.of0 rfl (.tmp (bl rfl) rfl rfl .nil)
  (try simp only [hcS] at hc); have hc1 := hc
  refine AW.skip ?_
  (refine hK _ ?_; clear hK K; (skip))
  (refine AW.seq_k ?_; intro K hK)
  refine AW.quiet mix (by kernel_rfl) ?_
  (refine aqR (op_load_rop1 rfl rfl ag31) ?_); (try simp only [nA, Nat.reduceBEq, Nat.reduceEqDiff, ↓reduceIte, Nat.reduceAdd, Nat.reduceSub])
  refine aqP (op_move rfl rfl) ?_; (simp only [nA, ↓reduceIte])
  (refine aqP (op_ia_ro _ rfl (.inl rfl) rfl Tryz.underlying31 rfl (get_map (by omega)) (by exact sz35) (bl rfl)) ?_); (try simp only [nA, Nat.reduceBEq, Nat.reduceEqDiff, ↓reduceIte, Nat.reduceAdd, Nat.reduceSub])
  (refine aqP (op_fa_rop rfl rfl fl35_0 (by exact sz23) (by decide) (bl rfl) rfl) ?_); (try simp only [nA, Nat.reduceBEq, Nat.reduceEqDiff, ↓reduceIte, Nat.reduceAdd, Nat.reduceSub])
  (refine aqR (op_load_rop rfl rfl ag23 sz23 (bl rfl) (by decide) rfl) ?_); (try simp only [nA, Nat.reduceBEq, Nat.reduceEqDiff, ↓reduceIte, Nat.reduceAdd, Nat.reduceSub])
  (refine aqR (op_load_rop1 rfl rfl ag31) ?_); (try simp only [nA, Nat.reduceBEq, Nat.reduceEqDiff, ↓reduceIte, Nat.reduceAdd, Nat.reduceSub])
  refine aqP (op_move rfl rfl) ?_; (simp only [nA, ↓reduceIte])
  (refine aqP (op_ia_ro _ rfl (.inl rfl) rfl Tryz.underlying31 rfl (get_map (by omega)) (by exact sz35) (bl rfl)) ?_); (try simp only [nA, Nat.reduceBEq, Nat.reduceEqDiff, ↓reduceIte, Nat.reduceAdd, Nat.reduceSub])
  (refine aqP (op_fa_rop rfl rfl fl35_0 (by exact sz23) (by decide) (bl rfl) rfl) ?_); (try simp only [nA, Nat.reduceBEq, Nat.reduceEqDiff, ↓reduceIte, Nat.reduceAdd, Nat.reduceSub])
  (refine aqR (op_load_rop rfl rfl ag23 sz23 (bl rfl) (by decide) rfl) ?_); (try simp only [nA, Nat.reduceBEq, Nat.reduceEqDiff, ↓reduceIte, Nat.reduceAdd, Nat.reduceSub])
  refine aqQ (op_callQ (b := true) rfl en49 (C49) (RL.cons (by exact View.same rfl) (RL.cons (by exact View.same rfl) (RL.nil))) rfl) ?_; (try simp only [nA, Nat.reduceBEq, Nat.reduceEqDiff, ↓reduceIte, Nat.reduceAdd, Nat.reduceSub])
  refine aqP (op_lss rfl rfl rfl) ?_; (try simp only [nA, Nat.reduceBEq, Nat.reduceEqDiff, ↓reduceIte, Nat.reduceAdd, Nat.reduceSub])
  refine aqP (op_assign rfl rfl) ?_; (simp only [nA])
  refine AQ.nil ?_
  (refine hK _ ?_; clear hK K; (skip))
  skip
  refine AW.ret ?_; (try simp only [thenE, inBlk, Nat.reduceEqDiff, ↓reduceIte]); rw [show befB l[i] l[j] = decide (cmpP l[i].plate l[j].plate < 0) by unfold befB; simp [hc]]; exact RQ.of0 rfl (.tmp (bl rfl) rfl rfl .nil)
end Go.Proofs.YtmdohphcolffmaaGreat
namespace Go.Proofs.YtmdohphcolffmaaGreat
open Go.RowKit Go.Shelf
section
open Go.Sort Go.Lib
noncomputable def pcT : TypeInfo := (Tryz.prog.info? 31).get (by kernel_rfl)
noncomputable def pcE : TypeInfo := (Tryz.prog.info? 35).get (by kernel_rfl)
theorem pcK (n : Nat) (h2 : 2 ≤ n) : Lib.swapperK n pcE 25 = 9 := by
  have a : pcE.hasPointers = false := by kernel_rfl
  have b : pcE.bytes = 40 := by kernel_rfl
  have c : (n == 0) = false := by simp; omega
  have d : (n == 1) = false := by simp; omega
  simp [Lib.swapperK, a, b, c, d]
def encP (p : Piece) : List Value := [.int .i64 p.plate.lead, .int .i64 p.plate.airline, .int .i64 p.plate.serial, .int .i64 p.weight, .int .i64 p.category]
theorem one_encP : ∀ x, ∀ v ∈ encP x, v.oneCell' = true := fun x v h => by
  simp only [encP, List.mem_cons, List.not_mem_nil, or_false] at h
  rcases h with rfl | rfl | rfl | rfl | rfl <;> rfl
noncomputable def th41 : Value := typeHandle Tryz.prog 35
theorem swp71 (blk n c : Nat) : SwapSwapsK Tryz.prog 92 #[.slice (some ⟨blk, 0, none⟩) n c, th41] encP 5 blk 0 n :=
  swapSwapsK_of_literal false 92 (fun args W => run_callFunc_extern Tryz.func92 (by kernel_rfl) (by kernel_rfl) (by kernel_rfl) (e := Extern.ReflectliteSwapper.swap false) (by kernel_rfl) args W) 35 pcE (by kernel_rfl) encP 5 (fun _ => rfl) (by kernel_rfl)
    (fun w => by first | exact Tryz.isAgg35 w | kernel_rfl) one_encP blk 0 n c
end
abbrev rowsP (d : Array Piece) : List (List AV) := d.toList.map Piece.av
theorem rowsP_flat (d : Array Piece) : ∀ r ∈ rowsP d, ∀ c ∈ r, flatA c = true := fun r hr c hc => by
  obtain ⟨p, _, rfl⟩ := List.mem_map.1 hr
  simp only [Piece.av, List.mem_cons, List.not_mem_nil, or_false] at hc
  rcases hc with rfl | rfl | rfl | rfl | rfl <;> rfl
/-- The two function values over the slice at u. -/
noncomputable abbrev dataW (u : Value) : List AV := [.clo 48 [.rop [.v u]], .clo 92 [.v u, .v th41]]
/-- .. while the slice is only read. -/
noncomputable abbrev dataR (d : Array Piece) (u : Value) : List AV := [.clo 48 [.rop [.ro (rowsP d)]], .clo 92 [.v u, .v th41]]
set_option maxHeartbeats 8000000 in
theorem C48a {d : Array Piece} {i j : Int} (hi : 0 ≤ i ∧ i < d.size) (hj : 0 ≤ j ∧ j < d.size) (hl : d.size ≤ 1000) : Fn Tryz.prog 48 [] ([.v (.int .i64 i), .v (.int .i64 j)] ++ [.rop [.ro (rowsP d)]]) [.v (.bool (befB d[i.toNat]! d[j.toNat]!))] [] := by
  have h := C48 (l := d.toList) (i := i.toNat) (j := j.toNat) (by simp; omega) (by simp; omega) (by simpa using hl)
  rw [show ((i.toNat : Nat) : Int) = i by omega, show ((j.toNat : Nat) : Int) = j by omega] at h
  rw [getElem!_pos d _ (by omega), getElem!_pos d _ (by omega)]
  simpa using h
section
variable {S0 : Nat → Prop} {own0 : List Nat} {v0 : List Value} {w0 : World} {o : Oper} {ev : Operand → AV} {T : Sl} {p p1 p2 : Operand} {ts : Array TypeId} {r k : Nat} {u : Value} {d : Array Piece} {i j : Int}
theorem op_lt (ho : o.op = .call { callee := .value p, args := #[p1, p2], argTypes := ts }) (hp : ev p = .clo 48 [.rop [.v u]]) (h1 : ev p1 = .v (.int .i64 i)) (h2 : ev p2 = .v (.int .i64 j)) (hT : T.slots[r]? = some (k, .nm u 35 (rowsP d)))
    (hl : d.size ≤ 1000) (hi : 0 ≤ i ∧ i < d.size) (hj : 0 ≤ j ∧ j < d.size) : OpQ ⟨Tryz.prog, S0, own0, v0, w0⟩ o ev T (.v (.bool (befB d[i.toNat]! d[j.toNat]!))) :=
  op_lessQ (xs := [.v (.int .i64 i), .v (.int .i64 j)]) ho hp hT (rowsP_flat d) (enters_of Tryz.func48 (by kernel_rfl) rfl) (C48a hi hj hl) (by rw [show (#[p1, p2] : Array Operand).toList.map ev = [ev p1, ev p2] from rfl, h1, h2]; exact ⟨rfl, fun q a b e1 e2 => by match q, e1, e2 with | 0, e1, e2 => injection e1 with e1; injection e2 with e2; subst e1; subst e2; exact .same rfl | 1, e1, e2 => injection e1 with e1; injection e2 with e2; subst e1; subst e2; exact .same rfl⟩) rfl
theorem op_ltR (ho : o.op = .call { callee := .value p, args := #[p1, p2], argTypes := ts }) (hp : ev p = .clo 48 [.rop [.ro (rowsP d)]]) (h1 : ev p1 = .v (.int .i64 i)) (h2 : ev p2 = .v (.int .i64 j))
    (hl : d.size ≤ 1000) (hi : 0 ≤ i ∧ i < d.size) (hj : 0 ≤ j ∧ j < d.size) : OpQ ⟨Tryz.prog, S0, own0, v0, w0⟩ o ev T (.v (.bool (befB d[i.toNat]! d[j.toNat]!))) :=
  op_cloQ (b := true) (xs := [.v (.int .i64 i), .v (.int .i64 j)]) ho hp (enters_of Tryz.func48 (by kernel_rfl) rfl) (C48a hi hj hl) (by rw [show (#[p1, p2] : Array Operand).toList.map ev = [ev p1, ev p2] from rfl, h1, h2]; exact ⟨rfl, fun q a b e1 e2 => by match q, e1, e2 with | 0, e1, e2 => injection e1 with e1; injection e2 with e2; subst e1; subst e2; exact .same rfl | 1, e1, e2 => injection e1 with e1; injection e2 with e2; subst e1; subst e2; exact .same rfl⟩) rfl
theorem op_sw (ho : o.op = .call { callee := .value p, args := #[p1, p2], argTypes := ts }) (hp : ev p = .clo 92 [.v u, .v th41]) (h1 : ev p1 = .v (.int .i64 i)) (h2 : ev p2 = .v (.int .i64 j)) (hT : T.slots[r]? = some (k, .nm u 35 (rowsP d)))
    (hi : 0 ≤ i ∧ i < d.size) (hj : 0 ≤ j ∧ j < d.size) {T' : Sl} (hT' : (⟨T.slots.set r (k, .nm u 35 (rowsP (Go.Sort.swp d i.toNat j.toNat))), T.ep⟩ : Sl) = T') : OpJ ⟨Tryz.prog, S0, own0, v0, w0⟩ o ev T .any T' :=
  op_swapN (C := ⟨Tryz.prog, S0, own0, v0, w0⟩) (enc := encP) (k := 5) (ds := d.toList) (i := i.toNat) (j := j.toNat) (ui := i) (uj := j) (u := u) (th := th41) (e := 35) (r := r) (k0 := k) (sf := 92) (fun _ => rfl) one_encP ho hp h1 h2 hT sz35 (by omega) (by omega) (by rw [Array.length_toList]; omega) (by rw [Array.length_toList]; omega) (fun blk n c e => by rw [e]; exact swp71 blk n c) hT'
end
end Go.Proofs.YtmdohphcolffmaaGreat
namespace Go.Proofs.YtmdohphcolffmaaGreat
open Go.RowKit
set_option linter.unusedSimpArgs false
set_option linter.unusedVariables false
set_option maxRecDepth 100000
section
open Go.Sort
variable {lt : Piece → Piece → Bool}
theorem inner_pos {a j : Nat} {d : Array Piece} (h : a < j) (hl : lt d[j]! d[j - 1]! = true) : insInner lt a j d = insInner lt a (j - 1) (swp d j (j - 1)) := by
  obtain ⟨j, rfl⟩ : ∃ q, j = q + 1 := ⟨j - 1, by omega⟩
  rw [insInner, if_pos (by simp at hl ⊢; exact ⟨h, hl⟩)]; rfl
theorem inner_neg {a j : Nat} {d : Array Piece} (h : ¬ (a < j ∧ lt d[j]! d[j - 1]! = true)) : insInner lt a j d = d := by
  cases j with
  | zero => rfl
  | succ j => rw [insInner, if_neg (by simp at h ⊢; exact h)]
theorem outer_pos {a b i : Nat} {d : Array Piece} (h : i < b) : insOuter lt a b i d = insOuter lt a b (i + 1) (insInner lt a i d) := by rw [insOuter, if_pos h]
theorem outer_neg {a b i : Nat} {d : Array Piece} (h : ¬ i < b) : insOuter lt a b i d = d := by rw [insOuter, if_neg h]
end
theorem ag87 : aggB Tryz.prog 87 = some false := by kernel_rfl
theorem ag108 : aggB Tryz.prog 108 = some false := by kernel_rfl
theorem vint {a b : Int} (h : a = b) : AV.v (.int .i64 a) = AV.v (.int .i64 b) := by rw [h]
abbrev srt (u : Value) (d : Array Piece) : AV := .nm u 35 (rowsP d)
set_option maxHeartbeats 8000000 in
theorem C95 {u : Value} {d : Array Piece} {a b : Nat} (hab : a ≤ b) (hb : b ≤ d.size) (hl : d.size ≤ 1000) : Fn Tryz.prog 95 [srt u d] [.agg (dataW u), .v (.int .i64 a), .v (.int .i64 b)] [] [srt u (Go.Sort.insertionSort befB d a b)] := by
  refine Spec.body Tryz.func95 rfl Tryz.ntmps95 (by simp) rfl ?_; intro S0 own0 v0 w0
  (refine AW.seq_k ?_; intro K hK)
  refine AW.region ?_
  refine awJ (op_box rfl rfl rfl sz114 rfl) ?_; (simp only [nA, Nat.reduceBEq, Nat.reduceEqDiff, ↓reduceIte])
  refine AWL.nil ?_
  (refine hK _ ?_; clear hK K; (try simp only [nA, Nat.reduceBEq, Nat.reduceEqDiff, ↓reduceIte, Nat.reduceAdd, Nat.reduceSub]))
  (refine AW.seq_k ?_; intro K hK)
  refine AW.region ?_
  refine awP (op_move rfl rfl) ?_; (simp only [nA, ↓reduceIte])
  (refine awP (op_addi rfl rfl rfl (by omega)) ?_); (try simp only [nA, Nat.reduceBEq, Nat.reduceEqDiff, ↓reduceIte, Nat.reduceAdd, Nat.reduceSub])
  refine awP (op_assign rfl rfl) ?_; (simp only [nA])
  refine AWL.nil ?_
  (refine hK _ ?_; clear hK K; (skip))
  refine AW.block ?_
  refine AW.loopI (fun (q : Nat × Array Piece) => [(1, .v (.int .i64 a)), (2, .v (.int .i64 b)), (3, .ptr 1 1 0 0), (6, .v (.int .i64 (q.1 : Nat)))]) (fun q => ⟨[(0, srt u q.2), (1, .own 114 [dataW u])], 2⟩) (fun q => a < q.1 ∧ q.1 ≤ b + 1 ∧ q.2.size = d.size ∧ Go.Sort.insOuter befB a b q.1 q.2 = Go.Sort.insOuter befB a b (a + 1) d) (fun q => b + 1 - q.1) (a + 1, d) ⟨by omega, by omega, rfl, rfl⟩ ⟨rfl, rfl, rfl, rfl, trivial⟩ rfl ?_; rintro ⟨i, dk⟩ ρ ⟨hi1, hi2, hs, hO⟩; dsimp only at hi1 hi2 hs hO ⊢; simp only [updL]
  (refine AW.seq_k ?_; intro K hK)
  (refine AW.seq_k ?_; intro K hK)
  refine AW.region ?_
  refine awP (op_move rfl rfl) ?_; (simp only [nA, ↓reduceIte])
  refine awP (op_move rfl rfl) ?_; (simp only [nA, ↓reduceIte])
  refine awP (op_lss rfl rfl rfl) ?_; (try simp only [nA, Nat.reduceBEq, Nat.reduceEqDiff, ↓reduceIte, Nat.reduceAdd, Nat.reduceSub])
  refine AWL.nil ?_
  (refine hK _ ?_; clear hK K; (skip))
  refine AW.cond rfl rfl rfl (fun hc => ?_) (fun hc => ?_)
  ·
   (try simp only [hcS] at hc); have hc1 := hc
   refine AW.skip ?_
   (refine hK _ ?_; clear hK K; (skip))
   (refine AW.seq_k ?_; intro K hK)
   refine AW.block ?_
   (refine AW.seq_k ?_; intro K hK)
   refine AW.region ?_
   refine awP (op_move rfl rfl) ?_; (simp only [nA, ↓reduceIte])
   refine awP (op_assign rfl rfl) ?_; (simp only [nA])
   refine AWL.nil ?_
   (refine hK _ ?_; clear hK K; (skip))
   refine AW.block ?_
   refine AW.loopI (fun (q : Nat × Array Piece) => [(1, .v (.int .i64 a)), (2, .v (.int .i64 b)), (3, .ptr 1 1 0 0), (6, .v (.int .i64 (i : Nat))), (7, .v (.int .i64 (q.1 : Nat)))]) (fun q => ⟨[(0, srt u q.2), (1, .own 114 [dataW u])], 2⟩) (fun q => a ≤ q.1 ∧ q.1 ≤ i ∧ q.2.size = d.size ∧ Go.Sort.insInner befB a q.1 q.2 = Go.Sort.insInner befB a i dk) (fun q => q.1) (i, dk) ⟨by omega, by omega, hs, rfl⟩ ⟨rfl, rfl, rfl, rfl, rfl, trivial⟩ rfl ?_; rintro ⟨j, dj⟩ ρ ⟨hj1, hj2, hs2, hI⟩; dsimp only at hj1 hj2 hs2 hI ⊢; simp only [updL]
   (refine AW.seq_k ?_; intro K hK)
   (refine AW.seq_k ?_; intro K hK)
   refine AW.region (AWL.quiet ?_)
   refine aqP (op_move rfl rfl) ?_; (simp only [nA, ↓reduceIte])
   refine aqP (op_move rfl rfl) ?_; (simp only [nA, ↓reduceIte])
   refine aqP (op_gtr rfl rfl rfl) ?_; (try simp only [nA, Nat.reduceBEq, Nat.reduceEqDiff, ↓reduceIte, Nat.reduceAdd, Nat.reduceSub])
   refine aqP (op_move rfl rfl) ?_; (simp only [nA])
   refine' aqAnd' [_, _, _, _, _, _] [20,21,22,23,24,25] rfl rfl rfl rfl rfl rfl rfl rfl rfl rfl rfl rfl (fun hb => ?_) ?_; rotate_left
   ·
    (try simp only [hcS] at hb)
    (refine aqP (op_fa_ptr rfl rfl rfl fl114_0 (by exact sz2) (by decide) rfl) ?_); (try simp only [nA, Nat.reduceBEq, Nat.reduceEqDiff, ↓reduceIte, Nat.reduceAdd, Nat.reduceSub])
    (refine aqR (op_load_ptr1 rfl rfl rfl rfl ag87 rfl rfl) ?_); (try simp only [nA, Nat.reduceBEq, Nat.reduceEqDiff, ↓reduceIte, Nat.reduceAdd, Nat.reduceSub])
    refine aqP (op_move rfl rfl) ?_; (simp only [nA, ↓reduceIte])
    refine aqP (op_move rfl rfl) ?_; (simp only [nA, ↓reduceIte])
    (refine aqP (op_subi rfl rfl rfl (by omega)) ?_); (try simp only [nA, Nat.reduceBEq, Nat.reduceEqDiff, ↓reduceIte, Nat.reduceAdd, Nat.reduceSub])
    refine aqQ (op_lt (r := 0) (d := dj) rfl rfl rfl rfl rfl (by omega) (by omega) (by omega)) ?_; (try simp only [nA, Nat.reduceBEq, Nat.reduceEqDiff, ↓reduceIte, Nat.reduceAdd, Nat.reduceSub])
    (refine aqSeg rfl rfl rfl ?_; repeat (first | exact fun _ _ => rfl | refine upd_out rfl ?_))
   refine AQ.nil ?_
   (refine hK _ ?_; clear hK K; (skip))
   refine AW.cond rfl rfl rfl (fun hc => ?_) (fun hc => ?_)
   ·
    (try simp only [hcS] at hc); have hc2 := hc; simp only [Int.toNat_natCast, Bool.and_eq_true, decide_eq_true_eq, show ((j : Int) - 1).toNat = j - 1 by omega] at hc
    refine AW.skip ?_
    (refine hK _ ?_; clear hK K; (skip))
    (refine AW.seq_k ?_; intro K hK)
    refine AW.block ?_
    refine AW.region ?_
    (refine awP (op_fa_ptr rfl rfl rfl fl114_1 (by exact sz2) (by decide) rfl) ?_); (try simp only [nA, Nat.reduceBEq, Nat.reduceEqDiff, ↓reduceIte, Nat.reduceAdd, Nat.reduceSub])
    (refine awR (op_load_ptr1 rfl rfl rfl rfl ag108 rfl rfl) ?_); (try simp only [nA, Nat.reduceBEq, Nat.reduceEqDiff, ↓reduceIte, Nat.reduceAdd, Nat.reduceSub])
    refine awP (op_move rfl rfl) ?_; (simp only [nA, Nat.reduceEqDiff, ↓reduceIte])
    refine awP (op_move rfl rfl) ?_; (simp only [nA, Nat.reduceEqDiff, ↓reduceIte])
    (refine awP (op_subi rfl rfl rfl (by omega)) ?_); (try simp only [nA, Nat.reduceBEq, Nat.reduceEqDiff, ↓reduceIte, Nat.reduceAdd, Nat.reduceSub])
    refine awJ (op_sw (r := 0) (d := dj) rfl rfl rfl rfl rfl (by omega) (by omega) rfl) ?_; (try simp only [nA, Nat.reduceBEq, Nat.reduceEqDiff, ↓reduceIte, Nat.reduceAdd, Nat.reduceSub])
    refine AWL.nil ?_
    (try simp only [thenE, inBlk, Nat.reduceEqDiff, ↓reduceIte])
    (refine hK _ ?_; clear hK K; (skip))
    refine AW.region ?_
    refine awP (op_move rfl rfl) ?_; (simp only [nA, Nat.reduceEqDiff, ↓reduceIte])
    (refine awP (op_subi rfl rfl rfl (by omega)) ?_); (try simp only [nA, Nat.reduceBEq, Nat.reduceEqDiff, ↓reduceIte, Nat.reduceAdd, Nat.reduceSub])
    refine awP (op_assign rfl rfl) ?_; (simp only [nA])
    skip
    refine AWL.nil ?_
    refine ⟨(j - 1, Go.Sort.swp dj j (j - 1)), ⟨by omega, by omega, by simp [Go.Sort.size_swp, hs2], by rw [← hI]; exact (inner_pos (lt := befB) (a := a) (j := j) (d := dj) (by omega) hc.2).symm⟩, by omega, ⟨rfl, rfl, rfl, rfl, vint (by omega), trivial⟩, (by simp only [Int.toNat_natCast, show ((j : Int) - 1).toNat = j - 1 by omega]), rfl⟩
   (try simp only [hcS] at hc); have hc2 := hc; simp only [Int.toNat_natCast, Bool.and_eq_true, decide_eq_true_eq, show ((j : Int) - 1).toNat = j - 1 by omega] at hc
   refine AW.exit ?_; (try simp only [thenE, inBlk, Nat.reduceEqDiff, ↓reduceIte])
   clear hK K
   (try simp only [thenE, inBlk, Nat.reduceEqDiff, ↓reduceIte])
   (refine hK _ ?_; clear hK K; (skip))
   refine AW.region ?_
   refine awP (op_move rfl rfl) ?_; (simp only [nA, Nat.reduceEqDiff, ↓reduceIte])
   (refine awP (op_addi rfl rfl rfl (by omega)) ?_); (try simp only [nA, Nat.reduceBEq, Nat.reduceEqDiff, ↓reduceIte, Nat.reduceAdd, Nat.reduceSub])
   refine awP (op_assign rfl rfl) ?_; (simp only [nA])
   skip
   refine AWL.nil ?_
   refine ⟨(i + 1, dj), ⟨by omega, by omega, hs2, by rw [← hO, outer_pos (d := dk) (show i < b by omega), ← hI, inner_neg (by rintro ⟨h1, h2⟩; rcases hc with h | h; omega; rw [h] at h2; cases h2)]⟩, by omega, ⟨rfl, rfl, rfl, rfl, trivial⟩, rfl, rfl⟩
  (try simp only [hcS] at hc); have hc1 := hc
  refine AW.exit ?_; (try simp only [thenE, inBlk, Nat.reduceEqDiff, ↓reduceIte])
  clear hK K
  rw [show Go.Sort.insertionSort befB d a b = dk by unfold Go.Sort.insertionSort; rw [← hO]; exact outer_neg (by omega)]; exact RQ.of (.inr rfl) rfl .nil (by simp) rfl (one_out rfl)
end Go.Proofs.YtmdohphcolffmaaGreat
namespace Go.Proofs.YtmdohphcolffmaaGreat
open Go.RowKit
set_option linter.unusedSimpArgs false
set_option linter.unusedVariables false
set_option maxRecDepth 100000
section
open Go.Sort
variable {lt : Piece → Piece → Bool} {hi f r : Nat} {d : Array Piece}
theorem sift_end (h : hi ≤ 2 * r + 1) : siftDown lt hi f r d = d := by unfold siftDown; rw [dif_pos h]
theorem sift_R0 (h : 2 * r + 2 < hi) (h1 : lt d[f + (2 * r + 1)]! d[f + (2 * r + 1) + 1]! = true) (h2 : lt d[f + r]! d[f + (2 * r + 2)]! = false) : siftDown lt hi f r d = d := by
  unfold siftDown
  rw [dif_neg (by omega), if_pos (by simp only [Bool.and_eq_true, decide_eq_true_eq]; exact ⟨by omega, h1⟩), if_pos (by rw [h2]; rfl)]
theorem sift_R1 (h : 2 * r + 2 < hi) (h1 : lt d[f + (2 * r + 1)]! d[f + (2 * r + 1) + 1]! = true) (h2 : lt d[f + r]! d[f + (2 * r + 2)]! = true) : siftDown lt hi f r d = siftDown lt hi f (2 * r + 2) (swp d (f + r) (f + (2 * r + 2))) := by
  rw [siftDown]
  rw [dif_neg (by omega), if_pos (by simp only [Bool.and_eq_true, decide_eq_true_eq]; exact ⟨by omega, h1⟩), if_neg (by rw [h2]; decide), dif_pos h]
theorem sift_L0 (h : 2 * r + 1 < hi) (h1 : ¬ (2 * r + 2 < hi ∧ lt d[f + (2 * r + 1)]! d[f + (2 * r + 1) + 1]! = true)) (h2 : lt d[f + r]! d[f + (2 * r + 1)]! = false) : siftDown lt hi f r d = d := by
  unfold siftDown
  rw [dif_neg (by omega), if_neg (by simp only [Bool.and_eq_true, decide_eq_true_eq]; exact h1), if_pos (by rw [h2]; rfl)]
theorem sift_L1 (h : 2 * r + 1 < hi) (h1 : ¬ (2 * r + 2 < hi ∧ lt d[f + (2 * r + 1)]! d[f + (2 * r + 1) + 1]! = true)) (h2 : lt d[f + r]! d[f + (2 * r + 1)]! = true) : siftDown lt hi f r d = siftDown lt hi f (2 * r + 1) (swp d (f + r) (f + (2 * r + 1))) := by
  rw [siftDown]
  rw [dif_neg (by omega), if_neg (by simp only [Bool.and_eq_true, decide_eq_true_eq]; exact h1), if_neg (by rw [h2]; decide)]
theorem size_sift : ∀ (n r : Nat) (d : Array Piece), hi - r = n → (siftDown lt hi f r d).size = d.size := by
  intro n
  induction n using Nat.strongRecOn with
  | _ n ih =>
    intro r d hn
    rw [siftDown]
    split
    · rfl
    split
    · split
      · rfl
      split
      · rw [ih _ (by omega) _ _ rfl, size_swp]
      rfl
    split
    · rfl
    rw [ih _ (by omega) _ _ rfl, size_swp]
end
set_option maxHeartbeats 8000000 in
theorem C109 {u : Value} {d : Array Piece} {lo hi f : Nat} (hlo : lo ≤ 1000) (hb : f + hi ≤ d.size) (hl : d.size ≤ 1000) : Fn Tryz.prog 109 [srt u d] [.agg (dataW u), .v (.int .i64 lo), .v (.int .i64 hi), .v (.int .i64 f)] [] [srt u (Go.Sort.siftDown befB hi f lo d)] := by
  refine Spec.body Tryz.func109 rfl Tryz.ntmps109 (by simp) rfl ?_; intro S0 own0 v0 w0
  (refine AW.seq_k ?_; intro K hK)
  refine AW.region ?_
  refine awJ (op_box rfl rfl rfl sz114 rfl) ?_; (simp only [nA, Nat.reduceBEq, Nat.reduceEqDiff, ↓reduceIte])
  refine AWL.nil ?_
  (refine hK _ ?_; clear hK K; (try simp only [nA, Nat.reduceBEq, Nat.reduceEqDiff, ↓reduceIte, Nat.reduceAdd, Nat.reduceSub]))
  (refine AW.seq_k ?_; intro K hK)
  refine AW.region ?_
  refine awP (op_move rfl rfl) ?_; (simp only [nA, ↓reduceIte])
  refine awP (op_assign rfl rfl) ?_; (simp only [nA])
  refine AWL.nil ?_
  (refine hK _ ?_; clear hK K; (skip))
  refine AW.block ?_
  refine AW.loopI (fun (q : Nat × Array Piece) => [(2, .v (.int .i64 hi)), (3, .v (.int .i64 f)), (4, .ptr 1 1 0 0), (8, .v (.int .i64 (q.1 : Nat)))]) (fun q => ⟨[(0, srt u q.2), (1, .own 114 [dataW u])], 2⟩) (fun q => q.1 ≤ 1000 ∧ q.2.size = d.size ∧ Go.Sort.siftDown befB hi f q.1 q.2 = Go.Sort.siftDown befB hi f lo d) (fun q => hi - q.1) (lo, d) ⟨by omega, rfl, rfl⟩ ⟨rfl, rfl, rfl, rfl, trivial⟩ rfl ?_; rintro ⟨r, dk⟩ ρ ⟨hr, hs, hO⟩; dsimp only at hr hs hO ⊢; simp only [updL]
  refine AW.block ?_
  (refine AW.seq_k ?_; intro K hK)
  refine AW.region ?_
  refine awP (op_move rfl rfl) ?_; (simp only [nA, ↓reduceIte])
  (refine awP (op_muli rfl rfl rfl (by omega)) ?_); (try simp only [nA, Nat.reduceBEq, Nat.reduceEqDiff, ↓reduceIte, Nat.reduceAdd, Nat.reduceSub])
  (refine awP (op_addi rfl rfl rfl (by omega)) ?_); (try simp only [nA, Nat.reduceBEq, Nat.reduceEqDiff, ↓reduceIte, Nat.reduceAdd, Nat.reduceSub])
  refine awP (op_assign rfl rfl) ?_; (simp only [nA])
  refine AWL.nil ?_
  (refine hK _ ?_; clear hK K; (skip))
  (refine AW.seq_k ?_; intro K hK)
  (refine AW.seq_k ?_; intro K hK)
  refine AW.region ?_
  refine awP (op_move rfl rfl) ?_; (simp only [nA])
  refine awP (op_move rfl rfl) ?_; (simp only [nA, ↓reduceIte])
  refine awP (op_geq rfl rfl rfl) ?_; (try simp only [nA, Nat.reduceBEq, Nat.reduceEqDiff, ↓reduceIte, Nat.reduceAdd, Nat.reduceSub])
  refine AWL.nil ?_
  (refine hK _ ?_; clear hK K; (skip))
  refine AW.cond rfl rfl rfl (fun hc => ?_) (fun hc => ?_)
  ·
   (try simp only [hcS] at hc); have hc1 := hc
   refine AW.exit ?_; (try simp only [thenE, inBlk, Nat.reduceEqDiff, ↓reduceIte])
   clear hK K
   rw [← hO, sift_end (d := dk) (by omega)]; exact RQ.of (by exact .inr rfl) rfl .nil (by simp) rfl (one_out rfl)
  (try simp only [hcS] at hc); have hc1 := hc
  refine AW.skip ?_
  (refine hK _ ?_; clear hK K; (skip))
  (refine AW.seq_k ?_; intro K hK)
  (refine AW.seq_k ?_; intro K hK)
  refine AW.region (AWL.quiet ?_)
  refine aqP (op_move rfl rfl) ?_; (simp only [nA, ↓reduceIte])
  (refine aqP (op_addi rfl rfl rfl (by omega)) ?_); (try simp only [nA, Nat.reduceBEq, Nat.reduceEqDiff, ↓reduceIte, Nat.reduceAdd, Nat.reduceSub])
  refine aqP (op_move rfl rfl) ?_; (simp only [nA, ↓reduceIte])
  refine aqP (op_lss rfl rfl rfl) ?_; (try simp only [nA, Nat.reduceBEq, Nat.reduceEqDiff, ↓reduceIte, Nat.reduceAdd, Nat.reduceSub])
  refine aqP (op_move rfl rfl) ?_; (simp only [nA])
  refine' aqAnd' [_, _, _, _, _, _, _, _, _, _] [22,23,24,25,26,27,28,29,30,31] rfl rfl rfl rfl rfl rfl rfl rfl rfl rfl rfl rfl (fun hb => ?_) ?_; rotate_left
  ·
   (try simp only [hcS] at hb)
   (refine aqP (op_fa_ptr rfl rfl rfl fl114_0 (by exact sz2) (by decide) rfl) ?_); (try simp only [nA, Nat.reduceBEq, Nat.reduceEqDiff, ↓reduceIte, Nat.reduceAdd, Nat.reduceSub])
   (refine aqR (op_load_ptr1 rfl rfl rfl rfl ag87 rfl rfl) ?_); (try simp only [nA, Nat.reduceBEq, Nat.reduceEqDiff, ↓reduceIte, Nat.reduceAdd, Nat.reduceSub])
   refine aqP (op_move rfl rfl) ?_; (simp only [nA, ↓reduceIte])
   refine aqP (op_move rfl rfl) ?_; (simp only [nA, ↓reduceIte])
   (refine aqP (op_addi rfl rfl rfl (by omega)) ?_); (try simp only [nA, Nat.reduceBEq, Nat.reduceEqDiff, ↓reduceIte, Nat.reduceAdd, Nat.reduceSub])
   refine aqP (op_move rfl rfl) ?_; (simp only [nA, ↓reduceIte])
   refine aqP (op_move rfl rfl) ?_; (simp only [nA, ↓reduceIte])
   (refine aqP (op_addi rfl rfl rfl (by omega)) ?_); (try simp only [nA, Nat.reduceBEq, Nat.reduceEqDiff, ↓reduceIte, Nat.reduceAdd, Nat.reduceSub])
   (refine aqP (op_addi rfl rfl rfl (by omega)) ?_); (try simp only [nA, Nat.reduceBEq, Nat.reduceEqDiff, ↓reduceIte, Nat.reduceAdd, Nat.reduceSub])
   refine aqQ (op_lt (r := 0) (d := dk) rfl rfl rfl rfl rfl (by omega) (by omega) (by omega)) ?_; (try simp only [nA, Nat.reduceBEq, Nat.reduceEqDiff, ↓reduceIte, Nat.reduceAdd, Nat.reduceSub])
   (refine aqSeg rfl rfl rfl ?_; repeat (first | exact fun _ _ => rfl | refine upd_out rfl ?_))
  refine AQ.nil ?_
  (refine hK _ ?_; clear hK K; (skip))
  refine AW.cond rfl rfl rfl (fun hc => ?_) (fun hc => ?_)
  ·
   (try simp only [hcS] at hc); have hc2 := hc; have e1 : ((f : Int) + (r : Int)).toNat = f + r := (by omega); have e2 : ((f : Int) + (2 * (r : Int) + 1)).toNat = f + (2 * r + 1) := (by omega); have e3 : ((f : Int) + (2 * (r : Int) + 1) + 1).toNat = f + (2 * r + 1) + 1 := (by omega); have e4 : ((f : Int) + (2 * (r : Int) + 1 + 1)).toNat = f + (2 * r + 2) := (by omega); simp only [Bool.and_eq_true, decide_eq_true_eq, e2, e3] at hc hc2
   refine AW.region ?_
   refine awP (op_move rfl rfl) ?_; (simp only [nA, Nat.reduceEqDiff, ↓reduceIte])
   (refine awP (op_addi rfl rfl rfl (by omega)) ?_); (try simp only [nA, Nat.reduceBEq, Nat.reduceEqDiff, ↓reduceIte, Nat.reduceAdd, Nat.reduceSub])
   refine awP (op_assign rfl rfl) ?_; (simp only [nA])
   refine AWL.nil ?_
   (refine hK _ ?_; clear hK K; (skip))
   (refine AW.seq_k ?_; intro K hK)
   (refine AW.seq_k ?_; intro K hK)
   refine AW.region ?_
   (refine awP (op_fa_ptr rfl rfl rfl fl114_0 (by exact sz2) (by decide) rfl) ?_); (try simp only [nA, Nat.reduceBEq, Nat.reduceEqDiff, ↓reduceIte, Nat.reduceAdd, Nat.reduceSub])
   (refine awR (op_load_ptr1 rfl rfl rfl rfl ag87 rfl rfl) ?_); (try simp only [nA, Nat.reduceBEq, Nat.reduceEqDiff, ↓reduceIte, Nat.reduceAdd, Nat.reduceSub])
   refine awP (op_move rfl rfl) ?_; (simp only [nA, Nat.reduceEqDiff, ↓reduceIte])
   refine awP (op_move rfl rfl) ?_; (simp only [nA, Nat.reduceEqDiff, ↓reduceIte])
   (refine awP (op_addi rfl rfl rfl (by omega)) ?_); (try simp only [nA, Nat.reduceBEq, Nat.reduceEqDiff, ↓reduceIte, Nat.reduceAdd, Nat.reduceSub])
   refine awP (op_move rfl rfl) ?_; (simp only [nA, Nat.reduceEqDiff, ↓reduceIte])
   refine awP (op_move rfl rfl) ?_; (simp only [nA, ↓reduceIte])
   (refine awP (op_addi rfl rfl rfl (by omega)) ?_); (try simp only [nA, Nat.reduceBEq, Nat.reduceEqDiff, ↓reduceIte, Nat.reduceAdd, Nat.reduceSub])
   refine awJ (OpQ.j (op_lt (r := 0) (d := dk) rfl rfl rfl rfl rfl (by omega) (by omega) (by omega))) ?_; (try simp only [nA, Nat.reduceBEq, Nat.reduceEqDiff, ↓reduceIte, Nat.reduceAdd, Nat.reduceSub])
   refine awP (op_not rfl rfl rfl) ?_; (try simp only [nA, Nat.reduceBEq, Nat.reduceEqDiff, ↓reduceIte, Nat.reduceAdd, Nat.reduceSub])
   refine AWL.nil ?_
   (refine hK _ ?_; clear hK K; (skip))
   refine AW.cond rfl rfl rfl (fun hc => ?_) (fun hc => ?_)
   ·
    (try simp only [hcS] at hc); have hc3 := hc; simp only [e1, e4] at hc hc3
    skip
    refine AW.ret ?_; (try simp only [thenE, inBlk, Nat.reduceEqDiff, ↓reduceIte]); rw [← hO, sift_R0 (d := dk) (by omega) hc2.2 hc3]; exact RQ.of (by exact .inl rfl) rfl .nil (by simp) rfl (one_out rfl)
   (try simp only [hcS] at hc); have hc3 := hc; simp only [e1, e4] at hc hc3
   refine AW.skip ?_
   (refine hK _ ?_; clear hK K; (skip))
   (refine AW.seq_k ?_; intro K hK)
   refine AW.region ?_
   (refine awP (op_fa_ptr rfl rfl rfl fl114_1 (by exact sz2) (by decide) rfl) ?_); (try simp only [nA, Nat.reduceBEq, Nat.reduceEqDiff, ↓reduceIte, Nat.reduceAdd, Nat.reduceSub])
   (refine awR (op_load_ptr1 rfl rfl rfl rfl ag108 rfl rfl) ?_); (try simp only [nA, Nat.reduceBEq, Nat.reduceEqDiff, ↓reduceIte, Nat.reduceAdd, Nat.reduceSub])
   refine awP (op_move rfl rfl) ?_; (simp only [nA, Nat.reduceEqDiff, ↓reduceIte])
   refine awP (op_move rfl rfl) ?_; (simp only [nA, Nat.reduceEqDiff, ↓reduceIte])
   (refine awP (op_addi rfl rfl rfl (by omega)) ?_); (try simp only [nA, Nat.reduceBEq, Nat.reduceEqDiff, ↓reduceIte, Nat.reduceAdd, Nat.reduceSub])
   refine awP (op_move rfl rfl) ?_; (simp only [nA, Nat.reduceEqDiff, ↓reduceIte])
   refine awP (op_move rfl rfl) ?_; (simp only [nA, ↓reduceIte])
   (refine awP (op_addi rfl rfl rfl (by omega)) ?_); (try simp only [nA, Nat.reduceBEq, Nat.reduceEqDiff, ↓reduceIte, Nat.reduceAdd, Nat.reduceSub])
   refine awJ (op_sw (r := 0) (d := dk) rfl rfl rfl rfl rfl (by omega) (by omega) rfl) ?_; (try simp only [nA, Nat.reduceBEq, Nat.reduceEqDiff, ↓reduceIte, Nat.reduceAdd, Nat.reduceSub])
   refine AWL.nil ?_
   (refine hK _ ?_; clear hK K; (skip))
   refine AW.region ?_
   refine awP (op_move rfl rfl) ?_; (simp only [nA, ↓reduceIte])
   refine awP (op_assign rfl rfl) ?_; (simp only [nA])
   refine AWL.nil ?_
   (try simp only [thenE, inBlk, Nat.reduceEqDiff, ↓reduceIte])
   refine ⟨(2 * r + 2, Go.Sort.swp dk (f + r) (f + (2 * r + 2))), ⟨by omega, by simp [Go.Sort.size_swp, hs], by rw [← hO]; exact (sift_R1 (lt := befB) (hi := hi) (f := f) (r := r) (d := dk) (by omega) hc2.2 hc3).symm⟩, by omega, ⟨rfl, rfl, rfl, vint (by omega), trivial⟩, (by simp only [e1, e4]), (by trivial)⟩
  (try simp only [hcS] at hc); have hc2 := hc; have e1 : ((f : Int) + (r : Int)).toNat = f + r := (by omega); have e2 : ((f : Int) + (2 * (r : Int) + 1)).toNat = f + (2 * r + 1) := (by omega); have e3 : ((f : Int) + (2 * (r : Int) + 1) + 1).toNat = f + (2 * r + 1) + 1 := (by omega); have e4 : ((f : Int) + (2 * (r : Int) + 1 + 1)).toNat = f + (2 * r + 2) := (by omega); simp only [Bool.and_eq_true, decide_eq_true_eq, e2, e3] at hc hc2
  refine AW.skip ?_
  (refine hK _ ?_; clear hK K; (skip))
  (refine AW.seq_k ?_; intro K hK)
  (refine AW.seq_k ?_; intro K hK)
  refine AW.region ?_
  (refine awP (op_fa_ptr rfl rfl rfl fl114_0 (by exact sz2) (by decide) rfl) ?_); (try simp only [nA, Nat.reduceBEq, Nat.reduceEqDiff, ↓reduceIte, Nat.reduceAdd, Nat.reduceSub])
  (refine awR (op_load_ptr1 rfl rfl rfl rfl ag87 rfl rfl) ?_); (try simp only [nA, Nat.reduceBEq, Nat.reduceEqDiff, ↓reduceIte, Nat.reduceAdd, Nat.reduceSub])
  refine awP (op_move rfl rfl) ?_; (simp only [nA, Nat.reduceEqDiff, ↓reduceIte])
  refine awP (op_move rfl rfl) ?_; (simp only [nA, Nat.reduceEqDiff, ↓reduceIte])
  (refine awP (op_addi rfl rfl rfl (by omega)) ?_); (try simp only [nA, Nat.reduceBEq, Nat.reduceEqDiff, ↓reduceIte, Nat.reduceAdd, Nat.reduceSub])
  refine awP (op_move rfl rfl) ?_; (simp only [nA, Nat.reduceEqDiff, ↓reduceIte])
  refine awP (op_move rfl rfl) ?_; (simp only [nA, Nat.reduceEqDiff, ↓reduceIte])
  (refine awP (op_addi rfl rfl rfl (by omega)) ?_); (try simp only [nA, Nat.reduceBEq, Nat.reduceEqDiff, ↓reduceIte, Nat.reduceAdd, Nat.reduceSub])
  refine awJ (OpQ.j (op_lt (r := 0) (d := dk) rfl rfl rfl rfl rfl (by omega) (by omega) (by omega))) ?_; (try simp only [nA, Nat.reduceBEq, Nat.reduceEqDiff, ↓reduceIte, Nat.reduceAdd, Nat.reduceSub])
  refine awP (op_not rfl rfl rfl) ?_; (try simp only [nA, Nat.reduceBEq, Nat.reduceEqDiff, ↓reduceIte, Nat.reduceAdd, Nat.reduceSub])
  refine AWL.nil ?_
  (refine hK _ ?_; clear hK K; (skip))
  refine AW.cond rfl rfl rfl (fun hc => ?_) (fun hc => ?_)
  ·
   (try simp only [hcS] at hc); have hc4 := hc; simp only [e1, e2] at hc hc4
   skip
   refine AW.ret ?_; (try simp only [thenE, inBlk, Nat.reduceEqDiff, ↓reduceIte]); rw [← hO, sift_L0 (d := dk) (by omega) (by rintro ⟨h1, h2⟩; rcases hc2 with h | h; omega; rw [h] at h2; cases h2) hc4]; exact RQ.of (by exact .inl rfl) rfl .nil (by simp) rfl (one_out rfl)
  (try simp only [hcS] at hc); have hc4 := hc; simp only [e1, e2] at hc hc4
  refine AW.skip ?_
  (refine hK _ ?_; clear hK K; (skip))
  (refine AW.seq_k ?_; intro K hK)
  refine AW.region ?_
  (refine awP (op_fa_ptr rfl rfl rfl fl114_1 (by exact sz2) (by decide) rfl) ?_); (try simp only [nA, Nat.reduceBEq, Nat.reduceEqDiff, ↓reduceIte, Nat.reduceAdd, Nat.reduceSub])
  (refine awR (op_load_ptr1 rfl rfl rfl rfl ag108 rfl rfl) ?_); (try simp only [nA, Nat.reduceBEq, Nat.reduceEqDiff, ↓reduceIte, Nat.reduceAdd, Nat.reduceSub])
  refine awP (op_move rfl rfl) ?_; (simp only [nA, Nat.reduceEqDiff, ↓reduceIte])
  refine awP (op_move rfl rfl) ?_; (simp only [nA, Nat.reduceEqDiff, ↓reduceIte])
  (refine awP (op_addi rfl rfl rfl (by omega)) ?_); (try simp only [nA, Nat.reduceBEq, Nat.reduceEqDiff, ↓reduceIte, Nat.reduceAdd, Nat.reduceSub])
  refine awP (op_move rfl rfl) ?_; (simp only [nA, Nat.reduceEqDiff, ↓reduceIte])
  refine awP (op_move rfl rfl) ?_; (simp only [nA, Nat.reduceEqDiff, ↓reduceIte])
  (refine awP (op_addi rfl rfl rfl (by omega)) ?_); (try simp only [nA, Nat.reduceBEq, Nat.reduceEqDiff, ↓reduceIte, Nat.reduceAdd, Nat.reduceSub])
  refine awJ (op_sw (r := 0) (d := dk) rfl rfl rfl rfl rfl (by omega) (by omega) rfl) ?_; (try simp only [nA, Nat.reduceBEq, Nat.reduceEqDiff, ↓reduceIte, Nat.reduceAdd, Nat.reduceSub])
  refine AWL.nil ?_
  (refine hK _ ?_; clear hK K; (skip))
  refine AW.region ?_
  refine awP (op_move rfl rfl) ?_; (simp only [nA, Nat.reduceEqDiff, ↓reduceIte])
  refine awP (op_assign rfl rfl) ?_; (simp only [nA])
  refine AWL.nil ?_
  (try simp only [thenE, inBlk, Nat.reduceEqDiff, ↓reduceIte])
  refine ⟨(2 * r + 1, Go.Sort.swp dk (f + r) (f + (2 * r + 1))), ⟨by omega, by simp [Go.Sort.size_swp, hs], by rw [← hO]; exact (sift_L1 (lt := befB) (hi := hi) (f := f) (r := r) (d := dk) (by omega) (by rintro ⟨h1, h2⟩; rcases hc2 with h | h; omega; rw [h] at h2; cases h2) hc4).symm⟩, by omega, ⟨rfl, rfl, rfl, vint (by omega), trivial⟩, (by simp only [e1, e2]), (by trivial)⟩
end Go.Proofs.YtmdohphcolffmaaGreat
