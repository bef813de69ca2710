import Derived.Test.YtmdohphcolffmaaGreatCmf
import Derived.Sort.AssemblyPlain
import Derived.Deep.Slices
import Derived.OpenShut
import Derived.WalkKit
import Derived.ProofKit
namespace Go.Proofs.YtmdohphcolffmaaGreat
open Go.RowKit
set_option linter.unusedSimpArgs false
set_option linter.unusedVariables false
set_option maxRecDepth 100000
theorem hint_2 {h : Go.Sort.Hint} : hintI h = 2 ↔ h = .decreasing := by cases h <;> decide
theorem hint_1 {h : Go.Sort.Hint} : hintI h = 1 ↔ h = .increasing := by cases h <;> decide
theorem en95 : Enters Tryz.prog 95 := enters_of Tryz.func95 (by kernel_rfl) rfl
theorem en96 : Enters Tryz.prog 96 := enters_of Tryz.func96 (by kernel_rfl) rfl
theorem en97 : Enters Tryz.prog 97 := enters_of Tryz.func97 (by kernel_rfl) rfl
theorem en98 : Enters Tryz.prog 98 := enters_of Tryz.func98 (by kernel_rfl) rfl
theorem en99 : Enters Tryz.prog 99 := enters_of Tryz.func99 (by kernel_rfl) rfl
theorem en100 : Enters Tryz.prog 100 := enters_of Tryz.func100 (by kernel_rfl) rfl
theorem en101 : Enters Tryz.prog 101 := enters_of Tryz.func101 (by kernel_rfl) rfl
theorem en102 : Enters Tryz.prog 102 := enters_of Tryz.func102 (by kernel_rfl) rfl
theorem en72 : Enters Tryz.prog 72 := enters_of Tryz.func72 (by kernel_rfl) rfl
theorem sol2 {P : Program} {x y : Value} : ∀ z ∈ [AV.v x, AV.v y], SolidA P z := fun z h => by
  simp only [List.mem_cons, List.not_mem_nil, or_false] at h
  rcases h with rfl | rfl <;> exact Solid.v _
theorem vbool {a b : Prop} [Decidable a] [Decidable b] (h : a ↔ b) : AV.v (.bool (decide a)) = AV.v (.bool (decide b)) := by rw [decide_eq_decide.2 h]
set_option maxHeartbeats 8000000 in
theorem C72 : ∀ (n : Nat) {u : Value} {d : Array Piece} {a b lim : Nat}, b - a = n → a ≤ b → b ≤ d.size → d.size ≤ 50 → 0 < d.size → lim ≤ 100 → Fn Tryz.prog 72 [srt u d] [.agg (dataW u), .v (.int .i64 a), .v (.int .i64 b), .v (.int .i64 lim)] [] [srt u (Go.Sort.pdq befB d a b lim true true)] := by
  intro n
  induction n using Nat.strongRecOn with
  | _ n ih =>
  intro u d a b lim hn hab hb hl h0 hlim
  refine Spec.body Tryz.func72 rfl Tryz.ntmps72 (by simp) rfl ?_; intro S0 own0 v0 w0
  (refine AW.seq_k ?_; intro K hK)
  refine AW.region ?_
  refine awJ (op_box rfl rfl rfl sz114 rfl) ?_; (simp only [nA, Nat.reduceBEq, Nat.reduceEqDiff, ↓reduceIte])
  refine AWL.nil ?_
  (refine hK _ ?_; clear hK K; (try simp only [nA, Nat.reduceBEq, Nat.reduceEqDiff, ↓reduceIte, Nat.reduceAdd, Nat.reduceSub]))
  (refine AW.seq_k ?_; intro K hK)
  refine AW.region ?_
  refine awP (op_assign rfl rfl) ?_; (try simp only [nA, Nat.reduceBEq, Nat.reduceEqDiff, ↓reduceIte, Nat.reduceAdd, Nat.reduceSub])
  refine AWL.nil ?_
  (refine hK _ ?_; clear hK K; (skip))
  (refine AW.seq_k ?_; intro K hK)
  refine AW.region ?_
  refine awP (op_assign rfl rfl) ?_; (try simp only [nA, Nat.reduceBEq, Nat.reduceEqDiff, ↓reduceIte, Nat.reduceAdd, Nat.reduceSub])
  refine AWL.nil ?_
  (refine hK _ ?_; clear hK K; (skip))
  refine AW.block ?_
  refine AW.loopI (fun (q : Nat × Nat × Nat × Bool × Bool × Array Piece) => [(1, .v (.int .i64 (q.1 : Nat))), (2, .v (.int .i64 (q.2.1 : Nat))), (3, .v (.int .i64 (q.2.2.1 : Nat))), (4, .ptr 1 1 0 0), (8, .v (.bool q.2.2.2.1)), (9, .v (.bool q.2.2.2.2.1))]) (fun q => ⟨[(0, srt u q.2.2.2.2.2), (1, .own 114 [dataW u])], 2⟩) (fun q => q.1 ≤ q.2.1 ∧ q.2.1 ≤ d.size ∧ q.2.1 - q.1 ≤ b - a ∧ q.2.2.1 ≤ 100 ∧ q.2.2.2.2.2.size = d.size ∧ Go.Sort.pdq befB q.2.2.2.2.2 q.1 q.2.1 q.2.2.1 q.2.2.2.1 q.2.2.2.2.1 = Go.Sort.pdq befB d a b lim true true) (fun q => q.2.1 - q.1) (a, b, lim, true, true, d) ⟨hab, hb, Nat.le_refl _, hlim, rfl, rfl⟩ ⟨rfl, rfl, rfl, rfl, rfl, rfl, trivial⟩ rfl ?_; rintro ⟨x, y, l, wb, wp, dk⟩ ρ ⟨hxy, hy, hxa, hl1, hs, hP⟩; dsimp only at hxy hy hxa hl1 hs hP ⊢; simp only [updL]
  refine AW.block ?_
  (refine AW.seq_k ?_; intro K hK)
  refine AW.region ?_
  refine awP (op_move rfl rfl) ?_; (simp only [nA, ↓reduceIte])
  refine awP (op_move rfl rfl) ?_; (simp only [nA, ↓reduceIte])
  (refine awP (op_subi rfl rfl rfl (by omega)) ?_); (try simp only [nA, Nat.reduceBEq, Nat.reduceEqDiff, ↓reduceIte, Nat.reduceAdd, Nat.reduceSub])
  refine awP (op_assign rfl rfl) ?_; (simp only [nA])
  refine AWL.nil ?_
  (refine hK _ ?_; clear hK K; (skip))
  (refine AW.seq_k ?_; intro K hK)
  (refine AW.seq_k ?_; intro K hK)
  refine AW.region ?_
  refine awP (op_move rfl rfl) ?_; (simp only [nA])
  refine awP (op_leq rfl rfl rfl) ?_; (try simp only [nA, Nat.reduceBEq, Nat.reduceEqDiff, ↓reduceIte, Nat.reduceAdd, Nat.reduceSub])
  refine AWL.nil ?_
  (refine hK _ ?_; clear hK K; (skip))
  refine AW.cond rfl rfl rfl (fun hc => ?_) (fun hc => ?_)
  ·
   (try simp only [hcS] at hc); have hc1 := hc; have h12 : y - x ≤ 12 := by omega
   (refine AW.seq_k ?_; intro K hK)
   refine AW.region ?_
   (refine awR (op_load_ptr rfl rfl rfl rfl ag114 sz114 (bl rfl) rfl) ?_); (try simp only [nA, Nat.reduceBEq, Nat.reduceEqDiff, ↓reduceIte, Nat.reduceAdd, Nat.reduceSub])
   refine awP (op_move rfl rfl) ?_; (simp only [nA, ↓reduceIte])
   refine awP (op_move rfl rfl) ?_; (simp only [nA, ↓reduceIte])
   refine awJ (op_callN (r := 0) rfl en95 (C95 (u := u) (d := dk) (a := x) (b := y) hxy (by omega) (by omega)) (by exact rfl) (RL.cons (.base (.same (by exact rfl))) (RL.cons (.base (.same (by exact rfl))) (RL.cons (.base (.same (by exact rfl))) RL.nil))) (by exact ⟨_, _, _, _, rfl, rfl⟩) (by exact rfl) (by exact rfl) (by exact rfl)) ?_; (try simp only [nA, Nat.reduceBEq, Nat.reduceEqDiff, ↓reduceIte, Nat.reduceAdd, Nat.reduceSub])
   refine AWL.nil ?_
   (refine hK _ ?_; clear hK K; (skip))
   skip
   refine AW.ret ?_; (try simp only [thenE, inBlk, Nat.reduceEqDiff, ↓reduceIte]); rw [← hP, pdq_ins h12]; exact RQ.of (.inl rfl) rfl .nil (by simp) rfl (one_out rfl)
  (try simp only [hcS] at hc); have hc1 := hc; have h12 : ¬ y - x ≤ 12 := by omega
  refine AW.skip ?_
  (refine hK _ ?_; clear hK K; (skip))
  (refine AW.seq_k ?_; intro K hK)
  (refine AW.seq_k ?_; intro K hK)
  refine AW.region ?_
  refine awP (op_move rfl rfl) ?_; (simp only [nA, ↓reduceIte])
  (refine awP (op_eql rfl rfl rfl) ?_); (try simp only [nA, Nat.reduceBEq, Nat.reduceEqDiff, ↓reduceIte, Nat.reduceAdd, Nat.reduceSub])
  refine AWL.nil ?_
  (refine hK _ ?_; clear hK K; (skip))
  refine AW.cond rfl rfl rfl (fun hc => ?_) (fun hc => ?_)
  ·
   (try simp only [hcS] at hc); have hc2 := hc
   (refine AW.seq_k ?_; intro K hK)
   refine AW.region ?_
   (refine awR (op_load_ptr rfl rfl rfl rfl ag114 sz114 (bl rfl) rfl) ?_); (try simp only [nA, Nat.reduceBEq, Nat.reduceEqDiff, ↓reduceIte, Nat.reduceAdd, Nat.reduceSub])
   refine awP (op_move rfl rfl) ?_; (simp only [nA, ↓reduceIte])
   refine awP (op_move rfl rfl) ?_; (simp only [nA, ↓reduceIte])
   refine awJ (op_callN (r := 0) rfl en96 (C96 (u := u) (d := dk) (a := x) (b := y) (by omega) (by omega) (by omega)) (by exact rfl) (RL.cons (.base (.same (by exact rfl))) (RL.cons (.base (.same (by exact rfl))) (RL.cons (.base (.same (by exact rfl))) RL.nil))) (by exact ⟨_, _, _, _, rfl, rfl⟩) (by exact rfl) (by exact rfl) (by exact rfl)) ?_; (try simp only [nA, Nat.reduceBEq, Nat.reduceEqDiff, ↓reduceIte, Nat.reduceAdd, Nat.reduceSub])
   refine AWL.nil ?_
   (refine hK _ ?_; clear hK K; (skip))
   skip
   refine AW.ret ?_; (try simp only [thenE, inBlk, Nat.reduceEqDiff, ↓reduceIte]); rw [← hP, pdq_heap h12 (by omega)]; exact RQ.of (.inl rfl) rfl .nil (by simp) rfl (one_out rfl)
  (try simp only [hcS] at hc); have hc2 := hc
  refine AW.skip ?_
  (refine hK _ ?_; clear hK K; (skip))
  refine AW.join (ι := Unit) (fun _ => [(1, .v (.int .i64 (x : Nat))), (2, .v (.int .i64 (y : Nat))), (4, .ptr 1 1 0 0), (8, .v (.bool wb)), (9, .v (.bool wp)), (10, .v (.int .i64 ((y : Int) - (x : Int)))), (3, .v (.int .i64 ((if !wb then l - 1 else l : Nat) : Int)))]) (fun _ => ⟨[(0, srt u (if !wb then Go.Sort.breakPatterns dk x y else dk)), (1, .own 114 [dataW u])], 2⟩) (fun _ => True) ?_ ?_
  ·
   (refine AW.seq_k ?_; intro K hK)
   refine AW.region ?_
   refine awP (op_move rfl rfl) ?_; (simp only [nA, ↓reduceIte])
   refine awP (op_not rfl rfl rfl) ?_; (try simp only [nA, Nat.reduceBEq, Nat.reduceEqDiff, ↓reduceIte, Nat.reduceAdd, Nat.reduceSub])
   refine AWL.nil ?_
   (refine hK _ ?_; clear hK K; (try simp only [nA, Nat.reduceBEq, Nat.reduceEqDiff, ↓reduceIte, Nat.reduceAdd, Nat.reduceSub]))
   refine AW.cond rfl rfl rfl (fun hc => ?_) (fun hc => ?_)
   ·
    (try simp only [hcS] at hc); have hc3 := hc
    (refine AW.seq_k ?_; intro K hK)
    refine AW.region ?_
    (refine awR (op_load_ptr rfl rfl rfl rfl ag114 sz114 (bl rfl) rfl) ?_); (try simp only [nA, Nat.reduceBEq, Nat.reduceEqDiff, ↓reduceIte, Nat.reduceAdd, Nat.reduceSub])
    refine awP (op_move rfl rfl) ?_; (simp only [nA, ↓reduceIte])
    refine awP (op_move rfl rfl) ?_; (simp only [nA, ↓reduceIte])
    refine awJ (op_callN (r := 0) rfl en97 (C97 (u := u) (d := dk) (a := x) (b := y) (by omega) hxy (by omega) (by omega)) (by exact rfl) (RL.cons (.base (.same (by exact rfl))) (RL.cons (.base (.same (by exact rfl))) (RL.cons (.base (.same (by exact rfl))) RL.nil))) (by exact ⟨_, _, _, _, rfl, rfl⟩) (by exact rfl) (by exact rfl) (by exact rfl)) ?_; (try simp only [nA, Nat.reduceBEq, Nat.reduceEqDiff, ↓reduceIte, Nat.reduceAdd, Nat.reduceSub])
    refine AWL.nil ?_
    (refine hK _ ?_; clear hK K; (skip))
    refine AW.region ?_
    refine awP (op_move rfl rfl) ?_; (simp only [nA, ↓reduceIte])
    (refine awP (op_subi rfl rfl rfl (by omega)) ?_); (try simp only [nA, Nat.reduceBEq, Nat.reduceEqDiff, ↓reduceIte, Nat.reduceAdd, Nat.reduceSub])
    refine awP (op_assign rfl rfl) ?_; (simp only [nA])
    refine AWL.nil ?_
    cases wb <;> first | (cases hc3; done) | exact ⟨(), trivial, ⟨rfl, rfl, rfl, rfl, rfl, rfl, vint (by simp; omega), trivial⟩, rfl, rfl⟩
   (try simp only [hcS] at hc); have hc3 := hc
   refine AW.skip ?_
   cases wb <;> first | (cases hc3; done) | exact ⟨(), trivial, ⟨rfl, rfl, rfl, rfl, rfl, rfl, rfl, trivial⟩, rfl, rfl⟩
  intro _ ρ _; simp only [updL]; generalize he1 : (if !wb then Go.Sort.breakPatterns dk x y else dk) = d1; generalize he2 : (if !wb then l - 1 else l) = l1; have hs1 : d1.size = d.size := (by rw [← he1, ← hs]; split; exact (Go.Sort.breakPatterns_holds dk x y hxy (by omega)).1; rfl); have hl2 : l1 ≤ 100 := (by rw [← he2]; split <;> omega); have hcp := Go.Sort.choosePivot_holds befB d1 x y (by omega)
  (refine AW.seq_k ?_; intro K hK)
  refine AW.region ?_
  (refine awR (op_load_ptr rfl rfl rfl rfl ag114 sz114 (bl rfl) rfl) ?_); (try simp only [nA, Nat.reduceBEq, Nat.reduceEqDiff, ↓reduceIte, Nat.reduceAdd, Nat.reduceSub])
  refine awP (op_move rfl rfl) ?_; (simp only [nA, ↓reduceIte])
  refine awP (op_move rfl rfl) ?_; (simp only [nA, ↓reduceIte])
  refine awJ (op_callRd (r := 0) rfl en98 (C98 (u := u) (d := d1) (a := x) (b := y) (by omega) (by omega) (by omega)) (by exact rfl) (rowsP_flat d1) (RL.cons (.up (by exact rfl)) (RL.cons (.base (.same (by exact rfl))) (RL.cons (.base (.same (by exact rfl))) RL.nil))) (by exact rfl) sol2 (by exact rfl) (by exact rfl)) ?_; (try simp only [nA, Nat.reduceBEq, Nat.reduceEqDiff, ↓reduceIte, Nat.reduceAdd, Nat.reduceSub])
  refine awP (op_move rfl rfl) ?_; (simp only [nA])
  refine awP (op_extract rfl rfl rfl) ?_; (try simp only [nA, Nat.reduceBEq, Nat.reduceEqDiff, ↓reduceIte, Nat.reduceAdd, Nat.reduceSub])
  refine awP (op_extract rfl rfl rfl) ?_; (try simp only [nA, Nat.reduceBEq, Nat.reduceEqDiff, ↓reduceIte, Nat.reduceAdd, Nat.reduceSub])
  refine awP (op_assign rfl rfl) ?_; (simp only [nA, ↓reduceIte])
  refine awP (op_assign rfl rfl) ?_; (simp only [nA, ↓reduceIte])
  refine AWL.nil ?_
  (refine hK _ ?_; clear hK K; (skip))
  refine AW.join (ι := Unit) (fun _ => [(1, .v (.int .i64 (x : Nat))), (2, .v (.int .i64 (y : Nat))), (4, .ptr 1 1 0 0), (8, .v (.bool wb)), (9, .v (.bool wp)), (10, .v (.int .i64 ((y : Int) - (x : Int)))), (3, .v (.int .i64 (l1 : Nat))), (11, .v (.int .i64 ((if (Go.Sort.choosePivot befB d1 x y).2 = .decreasing then (y - 1) - ((Go.Sort.choosePivot befB d1 x y).1 - x) else (Go.Sort.choosePivot befB d1 x y).1 : Nat) : Int))), (12, .v (.int .i64 (hintI (if (Go.Sort.choosePivot befB d1 x y).2 = .decreasing then Go.Sort.Hint.increasing else (Go.Sort.choosePivot befB d1 x y).2))))]) (fun _ => ⟨[(0, srt u (if (Go.Sort.choosePivot befB d1 x y).2 = .decreasing then Go.Sort.reverseRange d1 x y else d1)), (1, .own 114 [dataW u])], 2⟩) (fun _ => True) ?_ ?_
  ·
   (refine AW.seq_k ?_; intro K hK)
   refine AW.region ?_
   refine awP (op_move rfl rfl) ?_; (simp only [nA])
   (refine awP (op_eql rfl rfl rfl) ?_); (try simp only [nA, Nat.reduceBEq, Nat.reduceEqDiff, ↓reduceIte, Nat.reduceAdd, Nat.reduceSub])
   refine AWL.nil ?_
   (refine hK _ ?_; clear hK K; (try simp only [nA, Nat.reduceBEq, Nat.reduceEqDiff, ↓reduceIte, Nat.reduceAdd, Nat.reduceSub]))
   refine AW.cond rfl rfl rfl (fun hc => ?_) (fun hc => ?_)
   ·
    (try simp only [hcS] at hc); have hc4 := hc
    (refine AW.seq_k ?_; intro K hK)
    refine AW.region ?_
    (refine awR (op_load_ptr rfl rfl rfl rfl ag114 sz114 (bl rfl) rfl) ?_); (try simp only [nA, Nat.reduceBEq, Nat.reduceEqDiff, ↓reduceIte, Nat.reduceAdd, Nat.reduceSub])
    refine awP (op_move rfl rfl) ?_; (simp only [nA, ↓reduceIte])
    refine awP (op_move rfl rfl) ?_; (simp only [nA, ↓reduceIte])
    refine awJ (op_callN (r := 0) rfl en99 (C99 (u := u) (d := d1) (a := x) (b := y) (by omega) hxy (by omega) (by omega)) (by exact rfl) (RL.cons (.base (.same (by exact rfl))) (RL.cons (.base (.same (by exact rfl))) (RL.cons (.base (.same (by exact rfl))) RL.nil))) (by exact ⟨_, _, _, _, rfl, rfl⟩) (by exact rfl) (by exact rfl) (by exact rfl)) ?_; (try simp only [nA, Nat.reduceBEq, Nat.reduceEqDiff, ↓reduceIte, Nat.reduceAdd, Nat.reduceSub])
    refine AWL.nil ?_
    (refine hK _ ?_; clear hK K; (skip))
    (refine AW.seq_k ?_; intro K hK)
    refine AW.region ?_
    refine awP (op_move rfl rfl) ?_; (simp only [nA, ↓reduceIte])
    (refine awP (op_subi rfl rfl rfl (by omega)) ?_); (try simp only [nA, Nat.reduceBEq, Nat.reduceEqDiff, ↓reduceIte, Nat.reduceAdd, Nat.reduceSub])
    refine awP (op_move rfl rfl) ?_; (simp only [nA, ↓reduceIte])
    refine awP (op_move rfl rfl) ?_; (simp only [nA, ↓reduceIte])
    (refine awP (op_subi rfl rfl rfl (by omega)) ?_); (try simp only [nA, Nat.reduceBEq, Nat.reduceEqDiff, ↓reduceIte, Nat.reduceAdd, Nat.reduceSub])
    (refine awP (op_subi rfl rfl rfl (by omega)) ?_); (try simp only [nA, Nat.reduceBEq, Nat.reduceEqDiff, ↓reduceIte, Nat.reduceAdd, Nat.reduceSub])
    refine awP (op_assign rfl rfl) ?_; (simp only [nA])
    refine AWL.nil ?_
    (refine hK _ ?_; clear hK K; (skip))
    refine AW.region ?_
    refine awP (op_assign rfl rfl) ?_; (try simp only [nA, Nat.reduceBEq, Nat.reduceEqDiff, ↓reduceIte, Nat.reduceAdd, Nat.reduceSub])
    refine AWL.nil ?_
    rw [hint_2] at hc; simp only [if_pos hc]; exact ⟨(), trivial, ⟨rfl, rfl, rfl, rfl, rfl, rfl, rfl, vint (by omega), rfl, trivial⟩, rfl, rfl⟩
   (try simp only [hcS] at hc); have hc4 := hc
   refine AW.skip ?_
   rw [hint_2] at hc; simp only [if_neg hc]; exact ⟨(), trivial, ⟨rfl, rfl, rfl, rfl, rfl, rfl, rfl, rfl, rfl, trivial⟩, rfl, rfl⟩
  intro _ ρ _; simp only [updL]; have R : Round befB dk x y l wb _ _ _ _ _ := ⟨h12, (by omega), he1, he2, rfl, rfl, rfl⟩; have hs2 := R.size (by omega); have hpv := Go.Sort.pivot_range hcp.1 hcp.2 ((Go.Sort.choosePivot befB d1 x y).2 = .decreasing); simp only [dite_eq_ite] at hpv; revert R hs2 hpv; generalize (if (Go.Sort.choosePivot befB d1 x y).2 = .decreasing then Go.Sort.reverseRange d1 x y else d1) = d2; generalize (if (Go.Sort.choosePivot befB d1 x y).2 = .decreasing then (y - 1) - ((Go.Sort.choosePivot befB d1 x y).1 - x) else (Go.Sort.choosePivot befB d1 x y).1) = pv; generalize (if (Go.Sort.choosePivot befB d1 x y).2 = .decreasing then Go.Sort.Hint.increasing else (Go.Sort.choosePivot befB d1 x y).2) = hint; intro R hs2 hpv
  refine AW.join (ι := Array Piece) (fun _ => [(1, .v (.int .i64 (x : Nat))), (2, .v (.int .i64 (y : Nat))), (4, .ptr 1 1 0 0), (8, .v (.bool wb)), (9, .v (.bool wp)), (10, .v (.int .i64 ((y : Int) - (x : Int)))), (3, .v (.int .i64 (l1 : Nat))), (11, .v (.int .i64 (pv : Nat)))]) (fun d3 => ⟨[(0, srt u d3), (1, .own 114 [dataW u])], 2⟩) (fun d3 => part3 befB d2 x y wb wp hint = d3 ∧ ¬ ((wb = true ∧ wp = true ∧ hint = .increasing) ∧ (Go.Sort.partialInsertionSort befB d2 x y).2 = true)) ?_ ?_
  ·
   (refine AW.seq_k ?_; intro K hK)
   refine AW.region (AWL.quiet ?_)
   refine aqP (op_move rfl rfl) ?_; (simp only [nA, ↓reduceIte])
   refine aqP (op_move rfl rfl) ?_; (simp only [nA])
   refine' aqAnd' [_] [63] rfl rfl rfl rfl rfl rfl rfl rfl rfl rfl rfl rfl (fun hb => ?_) ?_; rotate_left
   ·
    (try simp only [hcS] at hb)
    refine aqP (op_move rfl rfl) ?_; (simp only [nA, ↓reduceIte])
    (refine aqSeg rfl rfl rfl ?_; repeat (first | exact fun _ _ => rfl | refine upd_out rfl ?_))
   refine aqP (op_move rfl rfl) ?_; (simp only [nA])
   refine' aqAnd' [_, _] [66,67] rfl rfl rfl rfl rfl rfl rfl rfl rfl rfl rfl rfl (fun hb => ?_) ?_; rotate_left
   ·
    (try simp only [hcS] at hb)
    refine aqP (op_move rfl rfl) ?_; (simp only [nA, Nat.reduceEqDiff, ↓reduceIte])
    (refine aqP (op_eql rfl rfl rfl) ?_); (try simp only [nA, Nat.reduceBEq, Nat.reduceEqDiff, ↓reduceIte, Nat.reduceAdd, Nat.reduceSub])
    (refine aqSeg rfl rfl rfl ?_; repeat (first | exact fun _ _ => rfl | refine upd_out rfl ?_))
   refine AQ.nil ?_
   (refine hK _ ?_; clear hK K; (try simp only [nA, Nat.reduceBEq, Nat.reduceEqDiff, ↓reduceIte, Nat.reduceAdd, Nat.reduceSub]))
   refine AW.cond rfl rfl rfl (fun hc => ?_) (fun hc => ?_)
   ·
    (try simp only [hcS] at hc); have hc5 := hc; simp only [Bool.and_eq_true, decide_eq_true_eq, hint_1] at hc hc5
    (refine AW.seq_k ?_; intro K hK)
    refine AW.region ?_
    (refine awR (op_load_ptr rfl rfl rfl rfl ag114 sz114 (bl rfl) rfl) ?_); (try simp only [nA, Nat.reduceBEq, Nat.reduceEqDiff, ↓reduceIte, Nat.reduceAdd, Nat.reduceSub])
    refine awP (op_move rfl rfl) ?_; (simp only [nA, Nat.reduceEqDiff, ↓reduceIte])
    refine awP (op_move rfl rfl) ?_; (simp only [nA, Nat.reduceEqDiff, ↓reduceIte])
    refine awJ (op_callN (r := 0) rfl en100 (C100 (u := u) (d := d2) (a := x) (b := y) (by omega) (by omega) (by omega)) (by exact rfl) (RL.cons (.base (.same (by exact rfl))) (RL.cons (.base (.same (by exact rfl))) (RL.cons (.base (.same (by exact rfl))) RL.nil))) (by exact ⟨_, _, _, _, rfl, rfl⟩) (by exact rfl) (by exact rfl) (by exact rfl)) ?_; (try simp only [nA, Nat.reduceBEq, Nat.reduceEqDiff, ↓reduceIte, Nat.reduceAdd, Nat.reduceSub])
    refine AWL.nil ?_
    (refine hK _ ?_; clear hK K; (skip))
    refine AW.cond rfl rfl rfl (fun hc => ?_) (fun hc => ?_)
    ·
     (try simp only [hcS] at hc); have hc6 := hc
     skip
     refine AW.ret ?_; (try simp only [thenE, inBlk, Nat.reduceEqDiff, ↓reduceIte]); rw [← hP, R.done ⟨hc5.1.1, hc5.1.2, hc5.2⟩ (by simpa using hc)]; exact RQ.of (.inl rfl) rfl .nil (by simp) rfl (one_out rfl)
    (try simp only [hcS] at hc); have hc6 := hc
    refine AW.skip ?_
    exact ⟨(Go.Sort.partialInsertionSort befB d2 x y).1, ⟨by unfold part3; rw [if_pos ⟨hc5.1.1, hc5.1.2, hc5.2⟩], fun h => (by simp [h.2] at hc)⟩, ⟨rfl, rfl, rfl, rfl, rfl, rfl, rfl, rfl, trivial⟩, rfl, rfl⟩
   (try simp only [hcS] at hc); have hc5 := hc; simp only [Bool.and_eq_true, decide_eq_true_eq, hint_1] at hc hc5
   refine AW.skip ?_
   exact ⟨d2, ⟨by unfold part3; rw [if_neg (fun h => by simp [h.1, h.2.1, h.2.2, hintI] at hc)], fun h => (by simp [h.1.1, h.1.2.1, h.1.2.2, hintI] at hc)⟩, ⟨rfl, rfl, rfl, rfl, rfl, rfl, rfl, rfl, trivial⟩, rfl, rfl⟩
  rintro d3 ρ ⟨hq3, hnd⟩; simp only [updL]; have hs3 : d3.size = d2.size := (by rw [← hq3]; exact part3_size)
  (refine AW.seq_k ?_; intro K hK)
  (refine AW.seq_k ?_; intro K hK)
  refine AW.region (AWL.quiet ?_)
  refine aqP (op_move rfl rfl) ?_; (simp only [nA])
  refine aqP (op_gtr rfl rfl rfl) ?_; (try simp only [nA, Nat.reduceBEq, Nat.reduceEqDiff, ↓reduceIte, Nat.reduceAdd, Nat.reduceSub])
  refine aqP (op_move rfl rfl) ?_; (simp only [nA])
  refine' aqAnd' [_, _, _, _, _, _, _] [76,77,78,79,80,81,82] rfl rfl rfl rfl rfl rfl rfl rfl rfl rfl rfl rfl (fun hb => ?_) ?_; rotate_left
  ·
   (try simp only [hcS] at hb)
   (refine aqP (op_fa_ptr rfl rfl rfl fl114_0 (by exact sz2) (by decide) rfl) ?_); (try simp only [nA, Nat.reduceBEq, Nat.reduceEqDiff, ↓reduceIte, Nat.reduceAdd, Nat.reduceSub])
   (refine aqR (op_load_ptr1 rfl rfl rfl rfl ag87 rfl rfl) ?_); (try simp only [nA, Nat.reduceBEq, Nat.reduceEqDiff, ↓reduceIte, Nat.reduceAdd, Nat.reduceSub])
   refine aqP (op_move rfl rfl) ?_; (simp only [nA, ↓reduceIte])
   (refine aqP (op_subi rfl rfl rfl (by omega)) ?_); (try simp only [nA, Nat.reduceBEq, Nat.reduceEqDiff, ↓reduceIte, Nat.reduceAdd, Nat.reduceSub])
   refine aqP (op_move rfl rfl) ?_; (simp only [nA, ↓reduceIte])
   refine aqQ (op_lt (r := 0) (d := d3) rfl rfl rfl rfl rfl (by omega) (by omega) (by omega)) ?_; (try simp only [nA, Nat.reduceBEq, Nat.reduceEqDiff, ↓reduceIte, Nat.reduceAdd, Nat.reduceSub])
   refine aqP (op_not rfl rfl rfl) ?_; (try simp only [nA, Nat.reduceBEq, Nat.reduceEqDiff, ↓reduceIte, Nat.reduceAdd, Nat.reduceSub])
   (refine aqSeg rfl rfl rfl ?_; repeat (first | exact fun _ _ => rfl | refine upd_out rfl ?_))
  refine AQ.nil ?_
  (refine hK _ ?_; clear hK K; (skip))
  refine AW.cond rfl rfl rfl (fun hc => ?_) (fun hc => ?_)
  ·
   (try simp only [hcS] at hc); have hc7 := hc; rw [Int.toNat_natCast, show ((x : Int) - 1).toNat = x - 1 by omega] at hc7; have hg : (decide (x > 0) && !befB d3[x - 1]! d3[pv]!) = true := (by rw [hc7.2, decide_eq_true (by omega)]; rfl); have he := eq_facts (lt := befB) (d := d3) (a := x) (b := y) (pv := pv) (by omega)
   (refine AW.seq_k ?_; intro K hK)
   refine AW.region ?_
   (refine awR (op_load_ptr rfl rfl rfl rfl ag114 sz114 (bl rfl) rfl) ?_); (try simp only [nA, Nat.reduceBEq, Nat.reduceEqDiff, ↓reduceIte, Nat.reduceAdd, Nat.reduceSub])
   refine awP (op_move rfl rfl) ?_; (simp only [nA, Nat.reduceEqDiff, ↓reduceIte])
   refine awP (op_move rfl rfl) ?_; (simp only [nA, Nat.reduceEqDiff, ↓reduceIte])
   refine awP (op_move rfl rfl) ?_; (simp only [nA, Nat.reduceEqDiff, ↓reduceIte])
   refine awJ (op_callN (r := 0) rfl en101 (C101 (u := u) (d := d3) (a := x) (b := y) (pv := pv) (by omega) hpv (by omega) (by omega)) (by exact rfl) (RL.cons (.base (.same (by exact rfl))) (RL.cons (.base (.same (by exact rfl))) (RL.cons (.base (.same (by exact rfl))) (RL.cons (.base (.same (by exact rfl))) RL.nil)))) (by exact ⟨_, _, _, _, rfl, rfl⟩) (by exact rfl) (by exact rfl) (by exact rfl)) ?_; (try simp only [nA, Nat.reduceBEq, Nat.reduceEqDiff, ↓reduceIte, Nat.reduceAdd, Nat.reduceSub])
   refine awP (op_assign rfl rfl) ?_; (simp only [nA])
   refine AWL.nil ?_
   (refine hK _ ?_; clear hK K; (skip))
   (refine AW.seq_k ?_; intro K hK)
   refine AW.region ?_
   refine awP (op_move rfl rfl) ?_; (simp only [nA])
   refine awP (op_assign rfl rfl) ?_; (simp only [nA])
   refine AWL.nil ?_
   (refine hK _ ?_; clear hK K; (skip))
   refine AW.exit ?_; (try simp only [thenE, inBlk, Nat.reduceEqDiff, ↓reduceIte])
   clear hK K
   exact ⟨((Go.Sort.partitionEqual befB d3 x y pv).1, y, l1, wb, wp, (Go.Sort.partitionEqual befB d3 x y pv).2), ⟨(by dsimp only; omega), (by dsimp only; omega), (by dsimp only; omega), hl2, (by dsimp only; omega), (by dsimp only; rw [← hP, R.rest hnd hq3, if_pos hg, dif_pos ⟨he.1, he.2.1⟩])⟩, (by dsimp only; omega), ⟨rfl, rfl, rfl, rfl, rfl, rfl, trivial⟩, rfl, trivial⟩
  (try simp only [hcS] at hc); have hc7 := hc; rw [Int.toNat_natCast, show ((x : Int) - 1).toNat = x - 1 by omega] at hc7; have hg : ¬ (decide (x > 0) && !befB d3[x - 1]! d3[pv]!) = true := (by rcases hc7 with h | h; (rw [decide_eq_false (by omega)]; simp); (rw [h]; simp)); have hp := p_facts (lt := befB) (d := d3) (a := x) (b := y) (pv := pv) (by omega); have hrest := R.rest hnd hq3; rw [if_neg hg, dif_pos ⟨hp.1, hp.2.1⟩] at hrest; have z1 := pdq_size (lt := befB) _ (Go.Sort.partition befB d3 x y pv).2.2 x (Go.Sort.partition befB d3 x y pv).1 l1 true true rfl (by omega); have z2 := pdq_size (lt := befB) _ (Go.Sort.partition befB d3 x y pv).2.2 ((Go.Sort.partition befB d3 x y pv).1 + 1) y l1 true true rfl (by omega)
  refine AW.skip ?_
  (refine hK _ ?_; clear hK K; (skip))
  (refine AW.seq_k ?_; intro K hK)
  refine AW.region ?_
  (refine awR (op_load_ptr rfl rfl rfl rfl ag114 sz114 (bl rfl) rfl) ?_); (try simp only [nA, Nat.reduceBEq, Nat.reduceEqDiff, ↓reduceIte, Nat.reduceAdd, Nat.reduceSub])
  refine awP (op_move rfl rfl) ?_; (simp only [nA, Nat.reduceEqDiff, ↓reduceIte])
  refine awP (op_move rfl rfl) ?_; (simp only [nA, Nat.reduceEqDiff, ↓reduceIte])
  refine awP (op_move rfl rfl) ?_; (simp only [nA, Nat.reduceEqDiff, ↓reduceIte])
  refine awJ (op_callN (r := 0) rfl en102 (C102 (u := u) (d := d3) (a := x) (b := y) (pv := pv) (by omega) hpv (by omega) (by omega)) (by exact rfl) (RL.cons (.base (.same (by exact rfl))) (RL.cons (.base (.same (by exact rfl))) (RL.cons (.base (.same (by exact rfl))) (RL.cons (.base (.same (by exact rfl))) RL.nil)))) (by exact ⟨_, _, _, _, rfl, rfl⟩) (by exact rfl) (by exact rfl) (by exact rfl)) ?_; (try simp only [nA, Nat.reduceBEq, Nat.reduceEqDiff, ↓reduceIte, Nat.reduceAdd, Nat.reduceSub])
  refine awP (op_move rfl rfl) ?_; (simp only [nA])
  refine awP (op_extract rfl rfl rfl) ?_; (try simp only [nA, Nat.reduceBEq, Nat.reduceEqDiff, ↓reduceIte, Nat.reduceAdd, Nat.reduceSub])
  refine awP (op_extract rfl rfl rfl) ?_; (try simp only [nA, Nat.reduceBEq, Nat.reduceEqDiff, ↓reduceIte, Nat.reduceAdd, Nat.reduceSub])
  refine awP (op_assign rfl rfl) ?_; (simp only [nA, ↓reduceIte])
  refine awP (op_assign rfl rfl) ?_; (simp only [nA, ↓reduceIte])
  refine AWL.nil ?_
  (refine hK _ ?_; clear hK K; (skip))
  (refine AW.seq_k ?_; intro K hK)
  refine AW.region ?_
  refine awP (op_move rfl rfl) ?_; (simp only [nA])
  refine awP (op_assign rfl rfl) ?_; (simp only [nA])
  refine AWL.nil ?_
  (refine hK _ ?_; clear hK K; (skip))
  (refine AW.seq_k ?_; intro K hK)
  refine AW.region ?_
  refine awP (op_move rfl rfl) ?_; (simp only [nA, ↓reduceIte])
  refine awP (op_move rfl rfl) ?_; (simp only [nA, Nat.reduceEqDiff, ↓reduceIte])
  (refine awP (op_subi rfl rfl rfl (by omega)) ?_); (try simp only [nA, Nat.reduceBEq, Nat.reduceEqDiff, ↓reduceIte, Nat.reduceAdd, Nat.reduceSub])
  refine awP (op_move rfl rfl) ?_; (simp only [nA, Nat.reduceEqDiff, ↓reduceIte])
  refine awP (op_move rfl rfl) ?_; (simp only [nA, ↓reduceIte])
  (refine awP (op_subi rfl rfl rfl (by omega)) ?_); (try simp only [nA, Nat.reduceBEq, Nat.reduceEqDiff, ↓reduceIte, Nat.reduceAdd, Nat.reduceSub])
  refine awP (op_assign rfl rfl) ?_; (simp only [nA, ↓reduceIte])
  refine awP (op_assign rfl rfl) ?_; (simp only [nA, ↓reduceIte])
  refine AWL.nil ?_
  (refine hK _ ?_; clear hK K; (skip))
  (refine AW.seq_k ?_; intro K hK)
  refine AW.region ?_
  refine awP (op_move rfl rfl) ?_; (simp only [nA, Nat.reduceEqDiff, ↓reduceIte])
  (refine awP (op_quoi rfl rfl rfl (by omega)) ?_); (try simp only [nA, Nat.reduceBEq, Nat.reduceEqDiff, ↓reduceIte, Nat.reduceAdd, Nat.reduceSub])
  refine awP (op_assign rfl rfl) ?_; (simp only [nA])
  refine AWL.nil ?_
  (refine hK _ ?_; clear hK K; (skip))
  (refine AW.seq_k ?_; intro K hK)
  refine AW.region ?_
  refine awP (op_move rfl rfl) ?_; (simp only [nA, ↓reduceIte])
  refine awP (op_move rfl rfl) ?_; (simp only [nA, ↓reduceIte])
  refine awP (op_lss rfl rfl rfl) ?_; (try simp only [nA, Nat.reduceBEq, Nat.reduceEqDiff, ↓reduceIte, Nat.reduceAdd, Nat.reduceSub])
  refine AWL.nil ?_
  (refine hK _ ?_; clear hK K; (skip))
  refine AW.cond rfl rfl rfl (fun hc => ?_) (fun hc => ?_)
  ·
   (try simp only [hcS] at hc); have hc8 := hc; (try simp only [decide_eq_true_eq] at hc8); rw [if_pos (by omega)] at hrest
   (refine AW.seq_k ?_; intro K hK)
   refine AW.region ?_
   refine awP (op_move rfl rfl) ?_; (simp only [nA, ↓reduceIte])
   refine awP (op_move rfl rfl) ?_; (simp only [nA, ↓reduceIte])
   refine awP (op_geq rfl rfl rfl) ?_; (try simp only [nA, Nat.reduceBEq, Nat.reduceEqDiff, ↓reduceIte, Nat.reduceAdd, Nat.reduceSub])
   refine awP (op_assign rfl rfl) ?_; (simp only [nA])
   refine AWL.nil ?_
   (refine hK _ ?_; clear hK K; (skip))
   (refine AW.seq_k ?_; intro K hK)
   refine AW.region ?_
   (refine awR (op_load_ptr rfl rfl rfl rfl ag114 sz114 (bl rfl) rfl) ?_); (try simp only [nA, Nat.reduceBEq, Nat.reduceEqDiff, ↓reduceIte, Nat.reduceAdd, Nat.reduceSub])
   refine awP (op_move rfl rfl) ?_; (simp only [nA, Nat.reduceEqDiff, ↓reduceIte])
   refine awP (op_move rfl rfl) ?_; (simp only [nA, ↓reduceIte])
   refine awP (op_move rfl rfl) ?_; (simp only [nA, Nat.reduceEqDiff, ↓reduceIte])
   refine awJ (op_callN (r := 0) rfl en72 (ih ((Go.Sort.partition befB d3 x y pv).1 - x) (by omega) (u := u) (d := (Go.Sort.partition befB d3 x y pv).2.2) (a := x) (b := (Go.Sort.partition befB d3 x y pv).1) (lim := l1) rfl (by omega) (by omega) (by omega) (by omega) (by omega)) (by exact rfl) (RL.cons (.base (.same (by exact rfl))) (RL.cons (.base (.same (by exact rfl))) (RL.cons (.base (.same (by exact rfl))) (RL.cons (.base (.same (by exact rfl))) RL.nil)))) (by exact ⟨_, _, _, _, rfl, rfl⟩) (by exact rfl) (by exact rfl) (by exact rfl)) ?_; (try simp only [nA, Nat.reduceBEq, Nat.reduceEqDiff, ↓reduceIte, Nat.reduceAdd, Nat.reduceSub])
   refine AWL.nil ?_
   (refine hK _ ?_; clear hK K; (skip))
   refine AW.region ?_
   refine awP (op_move rfl rfl) ?_; (simp only [nA, ↓reduceIte])
   (refine awP (op_addi rfl rfl rfl (by omega)) ?_); (try simp only [nA, Nat.reduceBEq, Nat.reduceEqDiff, ↓reduceIte, Nat.reduceAdd, Nat.reduceSub])
   refine awP (op_assign rfl rfl) ?_; (simp only [nA])
   refine AWL.nil ?_
   (try simp only [thenE, inBlk, Nat.reduceEqDiff, ↓reduceIte])
   exact ⟨((Go.Sort.partition befB d3 x y pv).1 + 1, y, l1, decide ((Go.Sort.partition befB d3 x y pv).1 - x ≥ (y - x) / 8), (Go.Sort.partition befB d3 x y pv).2.1, Go.Sort.pdq befB (Go.Sort.partition befB d3 x y pv).2.2 x (Go.Sort.partition befB d3 x y pv).1 l1 true true), ⟨(by dsimp only; omega), (by dsimp only; omega), (by dsimp only; omega), hl2, (by dsimp only; omega), (by dsimp only; rw [← hP, hrest])⟩, (by dsimp only; omega), ⟨vint (by simp), rfl, rfl, rfl, vbool (by omega), rfl, trivial⟩, rfl, trivial⟩
  (try simp only [hcS] at hc); have hc8 := hc; (try simp only [decide_eq_false_iff_not] at hc8); rw [if_neg (by omega)] at hrest
  (refine AW.seq_k ?_; intro K hK)
  refine AW.region ?_
  refine awP (op_move rfl rfl) ?_; (simp only [nA, ↓reduceIte])
  refine awP (op_move rfl rfl) ?_; (simp only [nA, ↓reduceIte])
  refine awP (op_geq rfl rfl rfl) ?_; (try simp only [nA, Nat.reduceBEq, Nat.reduceEqDiff, ↓reduceIte, Nat.reduceAdd, Nat.reduceSub])
  refine awP (op_assign rfl rfl) ?_; (simp only [nA])
  refine AWL.nil ?_
  (refine hK _ ?_; clear hK K; (skip))
  (refine AW.seq_k ?_; intro K hK)
  refine AW.region ?_
  (refine awR (op_load_ptr rfl rfl rfl rfl ag114 sz114 (bl rfl) rfl) ?_); (try simp only [nA, Nat.reduceBEq, Nat.reduceEqDiff, ↓reduceIte, Nat.reduceAdd, Nat.reduceSub])
  refine awP (op_move rfl rfl) ?_; (simp only [nA, ↓reduceIte])
  (refine awP (op_addi rfl rfl rfl (by omega)) ?_); (try simp only [nA, Nat.reduceBEq, Nat.reduceEqDiff, ↓reduceIte, Nat.reduceAdd, Nat.reduceSub])
  refine awP (op_move rfl rfl) ?_; (simp only [nA, Nat.reduceEqDiff, ↓reduceIte])
  refine awP (op_move rfl rfl) ?_; (simp only [nA, Nat.reduceEqDiff, ↓reduceIte])
  refine awJ (op_callN (r := 0) rfl en72 (show Fn Tryz.prog 72 [srt u (Go.Sort.partition befB d3 x y pv).2.2] [.agg (dataW u), .v (.int .i64 (((Go.Sort.partition befB d3 x y pv).1 : Nat) + 1)), .v (.int .i64 (y : Nat)), .v (.int .i64 (l1 : Nat))] [] [srt u (Go.Sort.pdq befB (Go.Sort.partition befB d3 x y pv).2.2 ((Go.Sort.partition befB d3 x y pv).1 + 1) y l1 true true)] from ih (y - ((Go.Sort.partition befB d3 x y pv).1 + 1)) (by omega) (u := u) (d := (Go.Sort.partition befB d3 x y pv).2.2) (a := (Go.Sort.partition befB d3 x y pv).1 + 1) (b := y) (lim := l1) rfl (by omega) (by omega) (by omega) (by omega) (by omega)) (by exact rfl) (RL.cons (.base (.same (by exact rfl))) (RL.cons (.base (.same (by exact rfl))) (RL.cons (.base (.same (by exact rfl))) (RL.cons (.base (.same (by exact rfl))) RL.nil)))) (by exact ⟨_, _, _, _, rfl, rfl⟩) (by exact rfl) (by exact rfl) (by exact rfl)) ?_; (try simp only [nA, Nat.reduceBEq, Nat.reduceEqDiff, ↓reduceIte, Nat.reduceAdd, Nat.reduceSub])
  refine AWL.nil ?_
  (refine hK _ ?_; clear hK K; (skip))
  refine AW.region ?_
  refine awP (op_move rfl rfl) ?_; (simp only [nA, ↓reduceIte])
  refine awP (op_assign rfl rfl) ?_; (simp only [nA])
  refine AWL.nil ?_
  (try simp only [thenE, inBlk, Nat.reduceEqDiff, ↓reduceIte])
  exact ⟨(x, (Go.Sort.partition befB d3 x y pv).1, l1, decide (y - (Go.Sort.partition befB d3 x y pv).1 ≥ (y - x) / 8), (Go.Sort.partition befB d3 x y pv).2.1, Go.Sort.pdq befB (Go.Sort.partition befB d3 x y pv).2.2 ((Go.Sort.partition befB d3 x y pv).1 + 1) y l1 true true), ⟨(by dsimp only; omega), (by dsimp only; omega), (by dsimp only; omega), hl2, (by dsimp only; omega), (by dsimp only; rw [← hP, hrest])⟩, (by dsimp only; omega), ⟨rfl, rfl, rfl, rfl, vbool (by omega), rfl, trivial⟩, rfl, trivial⟩
end Go.Proofs.YtmdohphcolffmaaGreat
namespace Go.Proofs.YtmdohphcolffmaaGreat
open Go.RowKit Go.Shelf
section
open Go.Sort
theorem befB_swo : SWO befB := by
  refine ⟨fun x => ?_, fun x y z h1 h2 => ?_, fun x y z h1 h2 => ?_⟩
  · cases h : befB x x with
    | false => rfl
    | true => exact absurd (bef_iff.1 h) (Bef.asymm x x (bef_iff.1 h))
  · exact bef_iff.2 ((bef_iff.1 h1).trans (bef_iff.1 h2))
  cases h : befB x z with
  | false => rfl
  | true =>
    have h3 := bef_iff.1 h
    have n1 : ¬ Bef x y := fun e => by rw [bef_iff.2 e] at h1; cases h1
    have n2 : ¬ Bef y z := fun e => by rw [bef_iff.2 e] at h2; cases h2
    exfalso
    unfold Bef at h3 n1 n2
    rcases h3 with h3 | ⟨h3, hp⟩
    · have a1 : ¬ x.weight > y.weight := fun e => n1 (.inl e)
      have a2 : ¬ y.weight > z.weight := fun e => n2 (.inl e)
      omega
    have a1 : ¬ x.weight > y.weight := fun e => n1 (.inl e)
    have a2 : ¬ y.weight > z.weight := fun e => n2 (.inl e)
    have b1 : ¬ PLt x.plate y.plate := fun e => n1 (.inr ⟨by omega, e⟩)
    have b2 : ¬ PLt y.plate z.plate := fun e => n2 (.inr ⟨by omega, e⟩)
    rcases cmpP_cases x.plate y.plate with ⟨q, _⟩ | ⟨q, _⟩ | ⟨q, _⟩
    · exact b1 q
    · rw [q] at hp; exact b2 hp
    exact b2 (q.trans hp)
theorem pdq_ordV {d : Array Piece} {lim : Nat} (h : DisP d.toList) : (pdq befB d 0 d.size lim true true).toList = ordV d.toList := by
  obtain ⟨⟨h1, _, h2⟩, h3⟩ := pdq_sorts befB befB_swo d 0 d.size lim true true (Nat.zero_le _) (Nat.le_refl _) (.inl rfl)
  generalize hd' : pdq befB d 0 d.size lim true true = d' at *
  have hperm : d'.toList.Perm d.toList := by
    have := h2
    rw [Array.extract_eq_self_of_le (by omega), Array.extract_eq_self_of_le (by omega)] at this
    exact this
  refine ord_unique h hperm ?_
  rw [List.pairwise_iff_getElem]
  intro i j hi hj hij
  rw [Array.length_toList] at hi hj
  have hl := h3 i j (Nat.zero_le _) hij (by omega)
  rw [getElem!_pos d' j hj, getElem!_pos d' i hi] at hl
  simp only [Array.getElem_toList]
  have hdis : DisP d'.toList := List.Pairwise.perm h hperm.symm (fun h e => h e.symm)
  have hne := List.pairwise_iff_getElem.1 hdis i j (by simpa using hi) (by simpa using hj) hij
  simp only [Array.getElem_toList] at hne
  refine Bef.total (fun e => hne e.symm) (fun e => ?_)
  rw [bef_iff.2 e] at hl
  cases hl
end
/-- A contract that holds where two blocks have come, holds where they have not. -/
theorem Fn34 {u : Value} {d : Array Piece} (h49 : d.size ≤ 50) : ∃ lim, Fn Tryz.prog 47 [srt u d] [.v (.iface 31 u), .clo 48 [.rop [.v u]]] [] [srt u (if d.size ≤ 1 then d else Go.Sort.pdq befB d 0 d.size lim true true)] := by
  refine ⟨Lib.bitLen d.size, ?_⟩
  intro w S vals bss vs hc
  obtain ⟨v, rfl⟩ : ∃ v, vals = [v] := by
    match vals, hc.nv with
    | [v], _ => exact ⟨v, rfl⟩
  obtain ⟨bs, rfl⟩ : ∃ b, bss = [b] := by
    match bss, hc.nb with
    | [b], _ => exact ⟨b, rfl⟩
  have hrep := hc.rep 0 _ v bs rfl rfl rfl
  have hnm : v = u ∧ Rep Tryz.prog S w bs u (.own 35 (rowsP d)) := by
    cases hrep with
    | nm h => exact ⟨rfl, h⟩
  obtain ⟨rfl, hr1⟩ := hnm
  obtain ⟨v1, v2, rfl⟩ : ∃ v1 v2, vs = [v1, v2] := by
    match vs, hc.args.1 with
    | [v1, v2], _ => exact ⟨v1, v2, rfl⟩
  have e1 : v1 = .iface 31 v := (show Rep Tryz.prog S w [] v1 (.v (.iface 31 v)) from hc.args.2 0 v1 _ rfl rfl).v_inv.1
  subst e1
  obtain ⟨lb, rfl, l1, l2⟩ := (show Rep Tryz.prog S w [] v2 (.clo 48 [.rop [.v v]]) from hc.args.2 1 v2 _ rfl rfl).clo_inv
  have hk0 : ∀ os, Kept (fun _ => True) w (Go.Sort.grow w os) := fun os => kept_grow
  by_cases hd : d.size ≤ 1
  · rw [if_pos hd]
    have hu : ∃ p n c, v = .slice p n c ∧ n ≤ 1 := by
      obtain ⟨us', sz, bss', -, -, -, hown, -⟩ := hr1.own_inv
      rw [List.length_map, Array.length_toList] at hown
      rcases hown.2 with ⟨hnil, h0⟩ | ⟨g', cap, cur, hc, -⟩
      · exact ⟨_, _, _, hnil, by omega⟩
      exact ⟨_, _, _, hc, hd⟩
    obtain ⟨p, n, c, rfl, hn⟩ := hu
    have hcall : Calls Tryz.prog 47 #[.iface 31 (.slice p n c), .func (.func 48) #[] lb.toArray] w fun e w' => e = .returned (.tuple #[]) ∧ ∃ os, w' = Go.Sort.grow w os := by
      rcases (by omega : n = 0 ∨ n = 1) with rfl | rfl
      · exact Any.sort_Slice_tiny laysGg6 31 35 pcT pcE (by kernel_rfl) (by kernel_rfl) (by kernel_rfl) (by kernel_rfl) 25 (fun _ => by kernel_rfl) p 0 c (by decide) 84 (by kernel_rfl) (.func 48) #[] lb.toArray w
      exact Any.sort_Slice_tiny laysGg6 31 35 pcT pcE (by kernel_rfl) (by kernel_rfl) (by kernel_rfl) (by kernel_rfl) 25 (fun _ => by kernel_rfl) p 1 c (by decide) 85 (by kernel_rfl) (.func 48) #[] lb.toArray w
    refine hcall.mono ?_
    rintro e w' ⟨rfl, os, rfl⟩
    refine ⟨[], [], [srt (.slice p n c) d], [], [bs], rfl, ⟨(hk0 os).mono fun _ _ _ => trivial, rfl, rfl, rfl, rfl, fun i u y bs h => by simp at h, fun r x v b h1 h2 h3 => ?_, by simpa using hc.own, fun b h => .inr (by simpa using h)⟩, rfl, rfl⟩
    cases r with
    | succ r => simp at h1
    | zero =>
      simp at h1 h2 h3
      subst h1 h2 h3
      exact (hrep.kept (hk0 os) (fun _ _ _ => trivial) (fun _ _ => trivial)).mono fun k _ h => .inl h
  rw [if_neg hd]
  obtain ⟨g, cap, cur, hu, hg, c1, c2, c3, c4, hbs⟩ := repK_inv (enc := encP) (k := 5) (ds := d.toList) (fun _ => rfl) hr1 sz35 (by rw [Array.length_toList]; omega)
  rw [Array.length_toList] at hu c1 c4
  subst hu
  have hb0 : Lib.bitLen d.size ≤ 100 := by
    have : ∀ n, n < 51 → Lib.bitLen n ≤ 100 := by decide
    exact this _ (by omega)
  refine Any.sort_Slice_of_pdq laysGg6 31 35 pcT pcE (by kernel_rfl) (by kernel_rfl) (by kernel_rfl) (by kernel_rfl) 25 (fun _ => by kernel_rfl) _ d.size cap (by omega) 92 (by rw [pcK _ (by omega)]; kernel_rfl) (.func 48) #[] lb.toArray w
    (fun w' => ∃ bss', Went Tryz.prog w S [.slice (some ⟨g, 0, none⟩) d.size cap] [bs] w' [] [] [srt (.slice (some ⟨g, 0, none⟩) d.size cap) (Go.Sort.pdq befB d 0 d.size (Lib.bitLen d.size) true true)] [] bss') ?_ |>.mono ?_
  · have hB : sliceBound Tryz.prog 35 pcE 25 (some ⟨g, 0, none⟩) d.size cap = #[.slice (some ⟨g, 0, none⟩) d.size cap, th41] := by
      unfold sliceBound
      rw [pcK _ (by omega)]
      rfl
    rw [hB]
    have hkW : Kept (fun _ => True) w (sliceWorld Tryz.prog laysGg6_ren 31 (some ⟨g, 0, none⟩) d.size cap w) := ((Kept.refl _ w).alloc _).alloc _
    generalize sliceWorld Tryz.prog laysGg6_ren 31 (some ⟨g, 0, none⟩) d.size cap w = W at hkW ⊢
    have hsz := hkW.size
    have hcl : Rep Tryz.prog S W [] (.func (.func 48) #[] lb.toArray) (.clo 48 [.rop [.v (.slice (some ⟨g, 0, none⟩) d.size cap)]]) :=
      (Rep.clo l1 l2).kept hkW (fun _ _ _ => trivial) (fun _ h => by simp at h)
    have hcame : Came Tryz.prog [srt (.slice (some ⟨g, 0, none⟩) d.size cap) d] [.agg (dataW (.slice (some ⟨g, 0, none⟩) d.size cap)), .v (.int .i64 ((0 : Nat) : Int)), .v (.int .i64 (d.size : Nat)), .v (.int .i64 (Lib.bitLen d.size : Nat))] W S
        [.slice (some ⟨g, 0, none⟩) d.size cap] [bs] [.agg #[.func (.func 48) #[] lb.toArray, .func (.func 92) #[] #[.slice (some ⟨g, 0, none⟩) d.size cap, th41]], .int .i64 ((0 : Nat) : Int), .int .i64 (d.size : Nat), .int .i64 (Lib.bitLen d.size : Nat)] := by
      refine ⟨fun k h => Nat.lt_of_lt_of_le (hc.lt k h) hsz, rfl, rfl, fun r x v b h1 h2 h3 => ?_, hc.own, hc.apart, RL.cons ⟨_, rfl, RL.cons hcl (RL.cons ?_ RL.nil)⟩ (RL.cons (Rep.v rfl) (RL.cons (Rep.v rfl) (RL.cons (Rep.v rfl) RL.nil)))⟩
      · exact (hc.rep r x v b h1 h2 h3).kept hkW (fun _ _ _ => trivial) (fun _ _ => trivial)
      · exact Rep.clo (us := [.slice (some ⟨g, 0, none⟩) d.size cap, th41]) rfl (fun i u x h1 h2 => by
          match i, h1, h2 with
          | 0, h1, h2 => injection h1 with h1; injection h2 with h2; subst h1 h2; exact .v rfl
          | 1, h1, h2 => injection h1 with h1; injection h2 with h2; subst h1 h2; exact .v rfl)
    have hsp := C72 (d.size - 0) (u := .slice (some ⟨g, 0, none⟩) d.size cap) (d := d) (a := 0) (b := d.size) (lim := Lib.bitLen d.size) rfl (Nat.zero_le _) (Nat.le_refl _) h49 (by omega) hb0
    refine (hsp W S _ _ _ hcame).mono ?_
    rintro e w' ⟨us, ys, outs, bsr, bss', rfl, went, rfl, rfl⟩
    have hus : us = [] := List.eq_nil_of_length_eq_zero went.nu
    have hbr : bsr = [] := List.eq_nil_of_length_eq_zero went.nr
    subst hus hbr
    refine ⟨rfl, bss', (hkW.mono (fun _ _ _ => trivial)).then went.kept (fun _ _ h => h), rfl, rfl, rfl, went.nb, fun i u y b h => by simp at h, fun r x v b h1 h2 h3 => (went.rep r x v b h1 h2 h3).mono fun k _ h => ?_, went.own, fun b h => ?_⟩
    · rcases h with h | ⟨h1, h2, h3⟩
      · exact .inl h
      exact .inr ⟨h1.imp (fun h => Nat.le_trans hsz h) id, h2, h3⟩
    exact (went.mine b h).imp (fun h => Nat.le_trans hsz h) id
  rintro e w' ⟨rfl, bss', hw⟩
  exact ⟨[], [], _, [], bss', rfl, hw, rfl, rfl⟩
end Go.Proofs.YtmdohphcolffmaaGreat
namespace Go.Proofs.YtmdohphcolffmaaGreat
open Go.RowKit
set_option linter.unusedSimpArgs false
set_option linter.unusedVariables false
set_option maxRecDepth 100000
theorem asgE_at {l : List Container} {bags : List Piece} {i : Nat} (hi : i < bags.length) (h0 : ∀ j, j < i → errB l bags j = 0) (he : errB l bags i ≠ 0) : asgE l bags = errB l bags i := by
  unfold asgE
  rw [orL_yes (i := i) (by simpa using hi) (fun x hx => ?_) (by simpa using he)]
  · simp
  rw [← List.map_take, List.take_range] at hx
  obtain ⟨j, hj, rfl⟩ := List.mem_map.1 hx
  rw [List.mem_range] at hj
  exact h0 j (by omega)
theorem asgE_no {l : List Container} {bags : List Piece} (h0 : ∀ j, j < bags.length → errB l bags j = 0) : asgE l bags = 0 := by
  unfold asgE
  refine orL_no (i := bags.length) (by simp) (fun x hx => ?_)
  rw [← List.map_take, List.take_range] at hx
  obtain ⟨j, hj, rfl⟩ := List.mem_map.1 hx
  rw [List.mem_range] at hj
  exact h0 j (by omega)
theorem asgV_chk {l : List Container} {f : Flight} {bags : List Piece} (h : chkL l ≠ 0) : asgV l f bags = ([], [], chkL l) := by unfold asgV; rw [if_pos h]
theorem asgV_err {l : List Container} {f : Flight} {bags : List Piece} (h : chkL l = 0) {e : Int} (he : asgE l bags = e) (h0 : e ≠ 0) : asgV l f bags = ([], [], e) := by
  unfold asgV
  rw [if_neg (by simpa using h), if_pos (by rw [he]; exact h0), he]
theorem asgV_yes {l : List Container} {f : Flight} {bags : List Piece} (h : chkL l = 0) (he : asgE l bags = 0) : asgV l f bags = ((asgF f (l, []) (ordV bags)).1, (asgF f (l, []) (ordV bags)).2, 0) := by
  unfold asgV
  rw [if_neg (by simpa using h), if_neg (by simpa using he)]
theorem errB_1 {l : List Container} {bags : List Piece} {i : Nat} (h : piB (bags.getD i default) = false) : errB l bags i = 1 := by unfold errB; rw [if_pos h]
theorem errB_5 {l : List Container} {bags : List Piece} {i : Nat} (h : piB (bags.getD i default) = true) (h5 : ((findL l (bags.getD i default).plate).2 || (bags.take i).any fun x => decide (x.plate = (bags.getD i default).plate)) = true) : errB l bags i = 5 := by
  unfold errB
  rw [if_neg (by rw [h]; decide), if_pos h5]
theorem errB_00 {l : List Container} {bags : List Piece} {i : Nat} (h : piB (bags.getD i default) = true) (h5 : ((findL l (bags.getD i default).plate).2 || (bags.take i).any fun x => decide (x.plate = (bags.getD i default).plate)) = false) : errB l bags i = 0 := by
  unfold errB
  rw [if_neg (by rw [h]; decide), if_neg (by rw [h5]; decide)]
/-- The plates seen so far. -/
def seenP (bags : List Piece) (i : Nat) : List Plate := ((bags.take i).map Piece.plate).reverse
theorem seen_succ {bags : List Piece} {i : Nat} (h : i < bags.length) : seenP bags (i + 1) = (bags.getD i default).plate :: seenP bags i := by
  unfold seenP
  rw [List.take_add_one, List.getElem?_eq_getElem h, getD_el h, List.map_append, List.reverse_append]
  rfl
theorem seen_len {bags : List Piece} {i : Nat} (h : i ≤ bags.length) : (seenP bags i).length = i := by unfold seenP; simp; omega
theorem seen_mem {bags : List Piece} {i : Nat} {p : Plate} : decide (p ∈ seenP bags i) = (bags.take i).any fun x => decide (x.plate = p) := by
  unfold seenP
  rw [Bool.eq_iff_iff]
  simp only [decide_eq_true_eq, List.mem_reverse, List.mem_map, List.any_eq_true]
theorem S34 {u : Value} {bags : List Piece} (h : bags.length ≤ 50) (hd : DisP bags) : Fn Tryz.prog 47 [.nm u 35 (bags.map Piece.av)] [.v (.iface 31 u), .clo 48 [.rop [.v u]]] [] [.nm u 35 ((ordV bags).map Piece.av)] := by
  obtain ⟨lim, hF⟩ := Fn34 (u := u) (d := bags.toArray) (by simpa using h)
  have e : (if bags.toArray.size ≤ 1 then bags.toArray else Go.Sort.pdq befB bags.toArray 0 bags.toArray.size lim true true).toList = ordV bags := by
    split
    · rename_i h1
      have h1 : bags.length ≤ 1 := by simpa using h1
      refine ord_unique hd (List.Perm.refl _) ?_
      match bags, h1 with
      | [], _ => exact List.Pairwise.nil
      | [_], _ => exact List.pairwise_singleton _ _
    exact pdq_ordV hd
  have : rowsP (if bags.toArray.size ≤ 1 then bags.toArray else Go.Sort.pdq befB bags.toArray 0 bags.toArray.size lim true true) = (ordV bags).map Piece.av := by
    unfold rowsP
    rw [e]
  unfold srt at hF
  rw [this] at hF
  exact hF
theorem zf83 : ∀ w, (zeroValue 83).run Tryz.prog w = .ok (.agg #[]) w := fun w => by kernel_rfl
theorem ordV_len (l : List Piece) : (ordV l).length = l.length := (ordV_perm l).length_eq
end Go.Proofs.YtmdohphcolffmaaGreat
namespace Go.Proofs.YtmdohphcolffmaaGreat
open Go.RowKit
set_option linter.unusedSimpArgs false
set_option linter.unusedVariables false
set_option maxRecDepth 100000
theorem getD_memP {l : List Piece} {i : Nat} (h : i < l.length) : l.getD i default ∈ l := by rw [getD_el h]; exact List.getElem_mem h
theorem set_C {l : List Container} {j : Nat} (c : Container) (h : j < l.length) : (l.map Container.av).set j (splice (l.getD j default).av 0 c.av) = (l.set j c).map Container.av := by
  rw [List.map_set]
  rfl
theorem flatC (l : List Container) : ∀ r ∈ l.map Container.av, ∀ c ∈ r, flatA c = true := fun r hr c hc => by
  obtain ⟨x, _, rfl⟩ := List.mem_map.1 hr
  simp only [Container.av, Flight.av, List.mem_cons, List.mem_append, List.not_mem_nil, or_false, List.cons_append, List.nil_append] at hc
  rcases hc with rfl | rfl | rfl | rfl | rfl | rfl | rfl | rfl | rfl | rfl | rfl <;> rfl
theorem rowsC (l : List Container) : (((l.map Container.av).drop 0).take l.length).map (·.map ldc) = l.map Container.av := by
  rw [List.drop_zero, List.take_of_length_le (by simp), List.map_map]
  exact List.map_congr_left fun c _ => rfl
theorem pl83 : plIs Tryz.prog 83 [] := ⟨_, Tryz.underlying83, by kernel_rfl⟩
set_option maxHeartbeats 8000000 in
theorem C24 {l : List Container} {f : Flight} {bags : List Piece} (hs : Sml l) (hb : bags.length ≤ 50) : Fn Tryz.prog 24 [] [.ro (l.map Container.av), .agg f.av, .ro (bags.map Piece.av)] [.ro ((asgV l f bags).1.map Container.av), .ro ((asgV l f bags).2.1.map Piece.av), .v (.int .i64 (asgV l f bags).2.2)] [] := by
  refine Spec.body Tryz.func24 rfl Tryz.ntmps24 (by simp) rfl ?_; intro S0 own0 v0 w0
  (refine AW.seq_k ?_; intro K hK)
  refine AW.region ?_
  refine awJ (op_box rfl rfl rfl sz25 rfl) ?_; (simp only [nA, Nat.reduceBEq, Nat.reduceEqDiff, ↓reduceIte])
  refine awP (op_assign rfl rfl) ?_
  refine awP (op_assign rfl rfl) ?_
  refine awP (op_assign rfl rfl) ?_
  refine AWL.nil ?_
  (refine hK _ ?_; clear hK K; (try simp only [nA, Nat.reduceBEq, Nat.reduceEqDiff, ↓reduceIte, Nat.reduceAdd, Nat.reduceSub]))
  (refine AW.seq_k ?_; intro K hK)
  (refine AW.seq_k ?_; intro K hK)
  refine AW.region ?_
  refine awP (op_move rfl rfl) ?_
  refine awJ (OpQ.j (op_callQ (b := true) rfl en37 (C37 (xs := l) hs.len) (RL.cons (by exact View.same rfl) (RL.nil)) rfl)) ?_; (simp only [nA, ↓reduceIte])
  refine awP (op_assign rfl rfl) ?_
  refine AWL.nil ?_
  (refine hK _ ?_; clear hK K; (simp only [nA]))
  (refine AW.seq_k ?_; intro K hK)
  refine AW.region ?_
  refine awP (op_move rfl rfl) ?_
  (refine awP (op_neq rfl rfl rfl) ?_)
  refine AWL.nil ?_
  (refine hK _ ?_; clear hK K; (simp only [nA]))
  refine AW.cond rfl rfl rfl (fun hc => ?_) (fun hc => ?_)
  ·
   have hc1 := hc; have g1 : chkL l ≠ 0 := (by simpa using hc1)
   (refine AW.seq_k ?_; intro K hK)
   refine AW.region ?_
   refine awP (op_move rfl rfl) ?_
   refine awP (op_assign rfl rfl) ?_
   refine awP (op_assign rfl rfl) ?_
   refine awP (op_assign rfl rfl) ?_
   refine AWL.nil ?_
   (refine hK _ ?_; clear hK K; (simp only [nA, ↓reduceIte]))
   refine AW.gh (Gh.nil (e := 33) 6 (bl rfl) rfl sz33) ?_; (simp only [nA, Nat.reduceBEq, Nat.reduceEqDiff, ↓reduceIte]); refine AW.gh (Gh.freeze 6 (bl rfl) rfl rfl (by simp) (es' := ([] : List Container).map Container.av) rfl) ?_; (try simp only [nA, Nat.reduceBEq, Nat.reduceEqDiff, ↓reduceIte, Nat.reduceAdd, Nat.reduceSub]); refine AW.gh (Gh.nil (e := 35) 7 (bl rfl) rfl sz35) ?_; (simp only [nA, Nat.reduceBEq, Nat.reduceEqDiff, ↓reduceIte]); refine AW.gh (Gh.freeze 7 (bl rfl) rfl rfl (by simp) (es' := ([] : List Piece).map Piece.av) rfl) ?_; (try simp only [nA, Nat.reduceBEq, Nat.reduceEqDiff, ↓reduceIte, Nat.reduceAdd, Nat.reduceSub])
   refine AW.ret ?_; (try simp only [thenE, inBlk, Nat.reduceEqDiff, ↓reduceIte]); rw [asgV_chk g1]; exact RQ.of0 rfl (.tmp (bl rfl) rfl rfl (.tmp (bl rfl) rfl rfl (.tmp (bl rfl) rfl rfl .nil)))
  have hc1 := hc; have g1 : chkL l = 0 := (by simpa using hc1)
  refine AW.skip ?_
  (refine hK _ ?_; clear hK K; (skip))
  (refine AW.seq_k ?_; intro K hK)
  refine AW.region ?_
  refine awP (op_move rfl rfl) ?_
  (refine awP (op_len_ro rfl rfl Tryz.underlying31 (by exact .inr (.inl ⟨_, rfl, rfl⟩))) ?_)
  refine awJ (op_makeMapU rfl rfl Tryz.underlying82 kd23) ?_; (simp only [nA, Nat.reduceBEq, Nat.reduceEqDiff, ↓reduceIte])
  refine awP (op_assign rfl rfl) ?_
  refine AWL.nil ?_
  (refine hK _ ?_; clear hK K; (simp only [nA]))
  (refine AW.seq_k ?_; intro K hK)
  (refine AW.seq_k ?_; intro K hK)
  refine AW.region ?_
  refine awP (op_move rfl rfl) ?_
  (refine awP (op_len_ro rfl rfl Tryz.underlying31 (by exact .inr (.inl ⟨_, rfl, rfl⟩))) ?_)
  refine awP (op_move rfl rfl) ?_
  refine AWL.nil ?_
  (refine hK _ ?_; clear hK K; (simp only [nA, ↓reduceIte]))
  refine AW.block ?_
  refine AW.loopI (fun (q : Nat × Nat) => [(0, .ro (l.map Container.av)), (2, .ro (bags.map Piece.av)), (4, .ptr 0 1 0 0), (10, .mp 1 2), (34, .ro (bags.map Piece.av)), (35, .v (.int .i64 (bags.length : Nat))), (36, .v (.int .i64 (q.1 : Nat)))]) (fun q => ⟨[(1, .own 25 [f.av]), (2, .om 82 ((seenP bags q.1).map plV))], q.2⟩) (fun q => q.1 ≤ bags.length ∧ ∀ j, j < q.1 → errB l bags j = 0) (fun q => bags.length - q.1) (0, _) ⟨by simp, fun j h => by dsimp only at h; omega⟩ ⟨rfl, rfl, rfl, rfl, rfl, (by dsimp only; simp; rfl), rfl, trivial⟩ rfl ?_; rintro ⟨i, ep⟩ ρ hI; dsimp only at hI ⊢; simp only [updL]
  (refine AW.seq_k ?_; intro K hK)
  refine AW.region ?_
  refine awP (op_lss rfl rfl rfl) ?_
  refine AWL.nil ?_
  (refine hK _ ?_; clear hK K; (try simp only [nA, Nat.reduceBEq, Nat.reduceEqDiff, ↓reduceIte, Nat.reduceAdd, Nat.reduceSub]))
  (refine AW.seq_k ?_; intro K hK)
  refine AW.cond rfl rfl rfl (fun hc => ?_) (fun hc => ?_)
  ·
   have hc2 := hc; have hlt : i < bags.length := (by simpa using hc2)
   refine AW.skip ?_
   (refine hK _ ?_; clear hK K; (skip))
   (refine AW.seq_k ?_; intro K hK)
   refine AW.block ?_
   (refine AW.seq_k ?_; intro K hK)
   refine AW.region ?_
   refine awP (op_ia_ro i rfl (.inl rfl) rfl Tryz.underlying31 rfl (get_mapD hlt) (by exact sz35) (bl rfl)) ?_
   (refine awR (op_load_rop rfl rfl ag35 sz35 (bl rfl) (by decide) rfl) ?_)
   refine awJ (op_alloc rfl ze35 rfl) ?_; (simp only [nA, Nat.reduceBEq, Nat.reduceEqDiff, ↓reduceIte])
   refine awJ (op_store rfl rfl rfl rfl rfl rfl sz35 rfl (bl rfl) rfl) ?_; (simp only [nA, Nat.reduceBEq, Nat.reduceEqDiff, ↓reduceIte])
   refine AWL.nil ?_
   (refine hK _ ?_; clear hK K; (skip))
   (refine AW.seq_k ?_; intro K hK)
   (refine AW.seq_k ?_; intro K hK)
   refine AW.region ?_
   (refine awR (op_load_ptr rfl rfl rfl rfl ag35 sz35 (bl rfl) rfl) ?_)
   refine awJ (OpQ.j (op_callQ (b := true) rfl en41 (C41 (p := (bags.getD i default))) (RL.cons (by exact View.same rfl) (RL.nil)) rfl)) ?_; (try simp only [nA, Nat.reduceBEq, Nat.reduceEqDiff, ↓reduceIte, Nat.reduceAdd, Nat.reduceSub])
   refine awP (op_not rfl rfl rfl) ?_
   refine AWL.nil ?_
   (refine hK _ ?_; clear hK K; (try simp only [nA, Nat.reduceBEq, Nat.reduceEqDiff, ↓reduceIte, Nat.reduceAdd, Nat.reduceSub]))
   refine AW.cond rfl rfl rfl (fun hc => ?_) (fun hc => ?_)
   ·
    have hc3 := hc; have g3 : piB (bags.getD i default) = false := (by simpa using hc3)
    (refine AW.seq_k ?_; intro K hK)
    refine AW.region ?_
    refine awP (op_assign rfl rfl) ?_
    refine awP (op_assign rfl rfl) ?_
    refine awP (op_assign rfl rfl) ?_
    refine AWL.nil ?_
    (refine hK _ ?_; clear hK K; (try simp only [nA, Nat.reduceBEq, Nat.reduceEqDiff, ↓reduceIte, Nat.reduceAdd, Nat.reduceSub]))
    refine AW.gh (Gh.nil (e := 33) 6 (bl rfl) rfl sz33) ?_; (simp only [nA, Nat.reduceBEq, Nat.reduceEqDiff, ↓reduceIte]); refine AW.gh (Gh.freeze 6 (bl rfl) rfl rfl (by simp) (es' := ([] : List Container).map Container.av) rfl) ?_; (try simp only [nA, Nat.reduceBEq, Nat.reduceEqDiff, ↓reduceIte, Nat.reduceAdd, Nat.reduceSub]); refine AW.gh (Gh.nil (e := 35) 7 (bl rfl) rfl sz35) ?_; (simp only [nA, Nat.reduceBEq, Nat.reduceEqDiff, ↓reduceIte]); refine AW.gh (Gh.freeze 7 (bl rfl) rfl rfl (by simp) (es' := ([] : List Piece).map Piece.av) rfl) ?_; (try simp only [nA, Nat.reduceBEq, Nat.reduceEqDiff, ↓reduceIte, Nat.reduceAdd, Nat.reduceSub])
    refine AW.ret ?_; (try simp only [thenE, inBlk, Nat.reduceEqDiff, ↓reduceIte]); rw [asgV_err g1 (e := 1) (by rw [asgE_at hlt hI.2 (by rw [errB_1 g3]; decide), errB_1 g3]) (by decide)]; exact RQ.of0 rfl (.tmp (bl rfl) rfl rfl (.tmp (bl rfl) rfl rfl (.tmp (bl rfl) rfl rfl .nil)))
   have hc3 := hc; have g3 : piB (bags.getD i default) = true := (by simpa using hc3); have hpr := pl_range (piB_inv g3).1
   refine AW.skip ?_
   (refine hK _ ?_; clear hK K; (skip))
   (refine AW.seq_k ?_; intro K hK)
   refine AW.region ?_
   refine awP (op_move rfl rfl) ?_
   (refine awP (op_fa_ptr rfl rfl rfl fl35_0 (by exact sz23) (by decide) rfl) ?_)
   (refine awR (op_load_ptr rfl rfl rfl rfl ag23 sz23 (bl rfl) rfl) ?_)
   refine awJ (op_call (b := false) rfl en42 (C42 (xs := l) (p := (bags.getD i default).plate) hs.len hs.p) (RL.cons (by exact View.same rfl) (RL.cons (by exact View.same rfl) (RL.nil))) rfl (fun h => by cases h) rfl rfl) ?_; (simp only [nA, ↓reduceIte])
   refine awP (op_move rfl rfl) ?_
   refine awP (op_extract rfl rfl rfl) ?_
   refine awP (op_extract rfl rfl rfl) ?_
   refine awP (op_assign rfl rfl) ?_
   refine awP (op_assign rfl rfl) ?_
   refine AWL.nil ?_
   (refine hK _ ?_; clear hK K; (simp only [nA, ↓reduceIte]))
   (refine AW.seq_k ?_; intro K hK)
   (refine AW.seq_k ?_; intro K hK)
   refine AW.region ?_
   refine awP (op_move rfl rfl) ?_
   (refine awP (op_fa_ptr rfl rfl rfl fl35_0 (by exact sz23) (by decide) rfl) ?_)
   (refine awR (op_load_ptr rfl rfl rfl rfl ag23 sz23 (bl rfl) rfl) ?_)
   refine awR (op_lookupU (r := 1) (b := decide ((bags.getD i default).plate ∈ seenP bags i)) (ks := (seenP bags i).map plV) (xs := [.int .i64 (bags.getD i default).plate.lead, .int .i64 (bags.getD i default).plate.airline, .int .i64 (bags.getD i default).plate.serial]) rfl rfl rfl rfl Tryz.underlying82 Tryz.underlying83 zf83 (key23 hpr.1 hpr.2.1 hpr.2.2) plV_mem) ?_; (simp only [nA, ↓reduceIte])
   refine awP (op_move rfl rfl) ?_
   refine awP (op_extract rfl rfl rfl) ?_
   refine awP (op_extract rfl rfl rfl) ?_
   refine awJ (op_alloc rfl ze83 rfl) ?_; (simp only [nA, Nat.reduceBEq, Nat.reduceEqDiff, ↓reduceIte])
   refine awJ (op_store rfl rfl rfl rfl rfl rfl sz83 rfl (bl rfl) rfl) ?_; (try simp only [nA, Nat.reduceBEq, Nat.reduceEqDiff, ↓reduceIte, Nat.reduceAdd, Nat.reduceSub])
   refine awP (op_assign rfl rfl) ?_
   refine AWL.nil ?_
   (refine hK _ ?_; clear hK K; (simp only [nA, ↓reduceIte]))
   (refine AW.seq_k ?_; intro K hK)
   refine AW.region (AWL.quiet ?_)
   refine aqP (op_move rfl rfl) ?_
   refine aqP (op_move rfl rfl) ?_
   refine' aqOr' [_] [59] rfl rfl rfl rfl rfl rfl rfl rfl rfl rfl rfl rfl (fun hb => ?_) ?_; rotate_left
   ·
    (try simp only [hcS] at hb)
    refine aqP (op_move rfl rfl) ?_
    (refine aqSeg rfl rfl rfl ?_; repeat (first | exact fun _ _ => rfl | refine upd_out rfl ?_))
   simp only [nA, ↓reduceIte]
   refine AQ.nil ?_
   (refine hK _ ?_; clear hK K; (skip))
   refine AW.cond rfl rfl rfl (fun hc => ?_) (fun hc => ?_)
   ·
    have hc4 := hc; have g4 : ((findL l (bags.getD i default).plate).2 || decide ((bags.getD i default).plate ∈ seenP bags i)) = true := hc4; rw [seen_mem] at g4
    (refine AW.seq_k ?_; intro K hK)
    refine AW.region ?_
    refine awP (op_assign rfl rfl) ?_
    refine awP (op_assign rfl rfl) ?_
    refine awP (op_assign rfl rfl) ?_
    refine AWL.nil ?_
    (refine hK _ ?_; clear hK K; (try simp only [nA, Nat.reduceBEq, Nat.reduceEqDiff, ↓reduceIte, Nat.reduceAdd, Nat.reduceSub]))
    refine AW.gh (Gh.nil (e := 33) 6 (bl rfl) rfl sz33) ?_; (simp only [nA, Nat.reduceBEq, Nat.reduceEqDiff, ↓reduceIte]); refine AW.gh (Gh.freeze 6 (bl rfl) rfl rfl (by simp) (es' := ([] : List Container).map Container.av) rfl) ?_; (try simp only [nA, Nat.reduceBEq, Nat.reduceEqDiff, ↓reduceIte, Nat.reduceAdd, Nat.reduceSub]); refine AW.gh (Gh.nil (e := 35) 7 (bl rfl) rfl sz35) ?_; (simp only [nA, Nat.reduceBEq, Nat.reduceEqDiff, ↓reduceIte]); refine AW.gh (Gh.freeze 7 (bl rfl) rfl rfl (by simp) (es' := ([] : List Piece).map Piece.av) rfl) ?_; (try simp only [nA, Nat.reduceBEq, Nat.reduceEqDiff, ↓reduceIte, Nat.reduceAdd, Nat.reduceSub])
    refine AW.ret ?_; (try simp only [thenE, inBlk, Nat.reduceEqDiff, ↓reduceIte]); rw [asgV_err g1 (e := 5) (by rw [asgE_at hlt hI.2 (by rw [errB_5 g3 g4]; decide), errB_5 g3 g4]) (by decide)]; exact RQ.of0 rfl (.tmp (bl rfl) rfl rfl (.tmp (bl rfl) rfl rfl (.tmp (bl rfl) rfl rfl .nil)))
   have hc4 := hc; have g4 : ((findL l (bags.getD i default).plate).2 || decide ((bags.getD i default).plate ∈ seenP bags i)) = false := hc4; rw [seen_mem] at g4
   refine AW.skip ?_
   (refine hK _ ?_; clear hK K; (skip))
   refine AW.region ?_
   refine awP (op_move rfl rfl) ?_
   (refine awP (op_fa_ptr rfl rfl rfl fl35_0 (by exact sz23) (by decide) rfl) ?_)
   (refine awR (op_load_ptr rfl rfl rfl rfl ag23 sz23 (bl rfl) rfl) ?_)
   refine awP (op_build2 (xs := []) rfl pl83 ze83 [] rfl rfl rfl) ?_
   refine awJ (op_mapUpdateU (r := 1) (ks := (seenP bags i).map plV) (xs := [.int .i64 (bags.getD i default).plate.lead, .int .i64 (bags.getD i default).plate.airline, .int .i64 (bags.getD i default).plate.serial]) rfl rfl rfl rfl rfl Tryz.underlying82 Tryz.underlying83 (key23 hpr.1 hpr.2.1 hpr.2.2) (by simp [seen_len hI.1, maxLen]; omega)) ?_; (simp only [nA, Nat.reduceEqDiff, ↓reduceIte])
   refine AWL.nil ?_
   (try simp only [thenE, inBlk, Nat.reduceEqDiff, ↓reduceIte])
   (refine hK _ ?_; clear hK K; (skip))
   refine AW.region ?_
   (refine awP (op_addi rfl rfl rfl (by omega)) ?_)
   refine awP (op_move rfl rfl) ?_
   refine AWL.gh (Gh.drop 2) ?_; (simp only [nA])
   refine AWL.nil ?_
   refine ⟨(i + 1, _), ⟨by dsimp only; omega, fun j hj => ?_⟩, by dsimp only; omega, ⟨rfl, rfl, rfl, rfl, rfl, rfl, rfl, trivial⟩, (by dsimp only; rw [seen_succ hlt]; rfl), (by rfl)⟩; dsimp only at hj; rcases Nat.lt_or_ge j i with h | h <;> first | exact hI.2 j h | (obtain rfl : j = i := (by omega); exact errB_00 g3 g4)
  have hc2 := hc; obtain hil : i = bags.length := (by have : ¬ i < bags.length := (by simpa using hc2); omega); have hE : asgE l bags = 0 := asgE_no (fun j hj => hI.2 j (by omega)); have hD := asgE_dis hE; have hPi := asgE_pi hE; have hInv := InvO.of g1; have hO := ordV_len bags; have hlen := hInv.len
  refine AW.exit ?_; (try simp only [thenE, inBlk, Nat.reduceEqDiff, ↓reduceIte])
  clear hK K
  (refine hK _ ?_; clear hK K; (skip))
  (refine AW.seq_k ?_; intro K hK)
  refine AW.region ?_
  refine awP (op_move rfl rfl) ?_
  refine awJ (op_app_nil (rows := bags.map Piece.av) rfl rfl rfl .ro Tryz.underlying31 ze35 (by decide) (av_len _) (by simp; omega) (by decide) (n := bags.length) (by simp)) ?_; (simp only [nA, Nat.reduceBEq, Nat.reduceEqDiff, ↓reduceIte])
  refine awJ (op_alloc rfl ze31 rfl) ?_; (simp only [nA, Nat.reduceBEq, Nat.reduceEqDiff, ↓reduceIte])
  refine awJ (op_store_nest (r := 3) (q := 2) rfl rfl rfl rfl (row := [_]) rfl sz31 rfl (by decide) (by simp) (by simp) (es2 := [[.own 35 (bags.map Piece.av)]]) rfl) ?_; (try simp only [nA, Nat.reduceBEq, Nat.reduceEqDiff, ↓reduceIte, Nat.reduceAdd, Nat.reduceSub])
  refine AWL.nil ?_
  (refine hK _ ?_; clear hK K; (skip))
  refine AW.ghE (GhE.unnest (r := 3) 0 0 rfl rfl rfl) fun u hu => ?_
  (try simp only [nA, Nat.reduceBEq, Nat.reduceEqDiff, ↓reduceIte, Nat.reduceAdd, Nat.reduceSub])
  refine AW.gh (Gh.freezeP 17 (bl rfl) rfl rfl (by simp [flatA])) ?_; (try simp only [nA, Nat.reduceBEq, Nat.reduceEqDiff, ↓reduceIte, Nat.reduceAdd, Nat.reduceSub])
  (refine AW.seq_k ?_; intro K hK)
  refine AW.region ?_
  (refine awR (op_load_rop1 rfl rfl ag31) ?_)
  refine awP (op_mkiface rfl rfl (by kernel_rfl)) ?_
  refine awP (op_makeFunc rfl rfl rfl) ?_
  refine awJ (op_callN (r := 4) rfl en47 (S34 (u := u) hb hD) (by exact rfl) (RL.cons (.base (.same (by exact rfl))) (RL.cons (.base (.same (by exact rfl))) RL.nil)) (by exact ⟨_, _, _, _, rfl, rfl⟩) (by exact rfl) (by exact rfl) (by exact rfl)) ?_; (simp only [nA, ↓reduceIte])
  refine AWL.nil ?_
  (refine hK _ ?_; clear hK K; (skip))
  (refine AW.seq_k ?_; intro K hK)
  refine AW.region ?_
  refine awP (op_move rfl rfl) ?_
  refine awJ (op_call (b := false) rfl en50 (C50 (l := l) (by omega) (fun c hc => by have := (val_inv (hInv.val c hc)).2.1; omega)) (RL.cons (by exact View.same rfl) (RL.nil)) rfl (fun h => by cases h) rfl rfl) ?_; (simp only [nA, Nat.reduceBEq, Nat.reduceEqDiff, ↓reduceIte])
  refine awP (op_assign rfl rfl) ?_
  refine AWL.nil ?_
  (refine hK _ ?_; clear hK K; (simp only [nA]))
  (refine AW.seq_k ?_; intro K hK)
  refine AW.region ?_
  refine awP (op_assign rfl rfl) ?_
  refine AWL.nil ?_
  (refine hK _ ?_; clear hK K; (try simp only [nA, Nat.reduceBEq, Nat.reduceEqDiff, ↓reduceIte, Nat.reduceAdd, Nat.reduceSub]))
  (refine AW.seq_k ?_; intro K hK)
  (refine AW.seq_k ?_; intro K hK)
  refine AW.region ?_
  refine awR (op_load_rop1 rfl rfl ag31) ?_; (try simp only [nA, Nat.reduceBEq, Nat.reduceEqDiff, ↓reduceIte, Nat.reduceAdd, Nat.reduceSub]); refine AWL.gh (Gh.openN (r := 4) 74 (bl rfl) rfl rfl) ?_; (try simp only [nA, Nat.reduceBEq, Nat.reduceEqDiff, ↓reduceIte, Nat.reduceAdd, Nat.reduceSub]); refine AWL.gh (Gh.freeze 74 (bl rfl) rfl rfl (av_flatP _) (es' := (ordV bags).map Piece.av) (List.take_of_length_le (by simp))) ?_
  (refine awP (op_len_ro rfl rfl Tryz.underlying31 (by exact .inr (.inl ⟨_, rfl, rfl⟩))) ?_)
  refine awP (op_move rfl rfl) ?_
  refine AWL.nil ?_
  (refine hK _ ?_; clear hK K; (try simp only [nA, Nat.reduceBEq, Nat.reduceEqDiff, ↓reduceIte, Nat.reduceAdd, Nat.reduceSub]))
  refine AW.block ?_
  refine AW.gh (Gh.nil (e := 35) 19 (bl rfl) rfl sz35) ?_; (simp only [nA, Nat.reduceBEq, Nat.reduceEqDiff, ↓reduceIte]); refine AW.loopI (fun (q : Nat × Nat × Nat) => [(4, .ptr 0 1 0 0), (18, .sl 5 (ep + 1 + 1 + 1) 0 (asgF f (l, []) ((ordV bags).take q.1)).1.length), (19, .sl 6 q.2.1 0 (asgF f (l, []) ((ordV bags).take q.1)).2.length), (74, .ro ((ordV bags).map Piece.av)), (75, .v (.int .i64 ((ordV bags).length : Nat))), (76, .v (.int .i64 (q.1 : Nat)))]) (fun q => ⟨[(1, .own 25 [f.av]), (2, .om 82 ((seenP bags i).map plV)), (ep, .any), (ep + 1, .any), (ep + 1 + 1 + 1 + 1, .any), (ep + 1 + 1 + 1, .own 33 ((asgF f (l, []) ((ordV bags).take q.1)).1.map Container.av)), (q.2.1, .own 35 ((asgF f (l, []) ((ordV bags).take q.1)).2.map Piece.av))], q.2.2⟩) (fun q => q.1 ≤ (ordV bags).length) (fun q => (ordV bags).length - q.1) (0, _, _) (by simp) ⟨rfl, rfl, rfl, rfl, rfl, rfl, trivial⟩ rfl ?_; clear hI hc2 hil; generalize seenP bags i = sn; rintro ⟨i, v, ep2⟩ ρ2 hI; dsimp only at hI ⊢; simp only [updL]
  (refine AW.seq_k ?_; intro K hK)
  refine AW.region ?_
  refine awP (op_lss rfl rfl rfl) ?_
  refine AWL.nil ?_
  (refine hK _ ?_; clear hK K; (try simp only [nA, Nat.reduceBEq, Nat.reduceEqDiff, ↓reduceIte, Nat.reduceAdd, Nat.reduceSub]))
  (refine AW.seq_k ?_; intro K hK)
  refine AW.cond rfl rfl rfl (fun hc => ?_) (fun hc => ?_)
  ·
   have hc5 := hc; have hlt5 : i < (ordV bags).length := (by simpa using hc5); have hI2 : InvO (asgF f (l, []) ((ordV bags).take i)).1 := InvO.fold _ hInv; have hln := asgF_len (f := f) ((ordV bags).take i) (l, []); have hpi : piB ((ordV bags).getD i default) = true := (hPi _ ((ordV_perm bags).subset (getD_memP hlt5))).1; have hstp := asgF_take (f := f) (s := (l, [])) hlt5; rw [List.length_take, List.length_nil] at hln
   refine AW.skip ?_
   (refine hK _ ?_; clear hK K; (skip))
   (refine AW.seq_k ?_; intro K hK)
   refine AW.block ?_
   (refine AW.seq_k ?_; intro K hK)
   refine AW.region ?_
   refine awP (op_ia_ro i rfl (.inl rfl) rfl Tryz.underlying31 rfl (get_mapD hlt5) (by exact sz35) (bl rfl)) ?_
   (refine awR (op_load_rop rfl rfl ag35 sz35 (bl rfl) (by decide) rfl) ?_)
   refine awJ (op_alloc rfl ze35 rfl) ?_; (simp only [nA, Nat.reduceBEq, Nat.reduceEqDiff, ↓reduceIte])
   refine awJ (op_store rfl rfl rfl rfl rfl rfl sz35 rfl (bl rfl) rfl) ?_; (simp only [nA, Nat.reduceBEq, Nat.reduceEqDiff, ↓reduceIte])
   refine AWL.nil ?_
   (refine hK _ ?_; clear hK K; (skip))
   (refine AW.seq_k ?_; intro K hK)
   refine AW.region ?_
   refine awP (op_move rfl rfl) ?_
   (refine awR (op_load_ptr rfl rfl rfl rfl ag25 sz25 (bl rfl) rfl) ?_)
   (refine awR (op_load_ptr rfl rfl rfl rfl ag35 sz35 (bl rfl) rfl) ?_)
   refine awJ (op_call (b := true) rfl en43 (C43 (l := (asgF f (l, []) ((ordV bags).take i)).1) (f := f) (p := ((ordV bags).getD i default)) hI2.fit hpi) (RL.cons (View.src (.sl rfl (rowsC _))) (RL.cons (by exact View.same rfl) (RL.cons (by exact View.same rfl) RL.nil))) rfl (fun _ => sol2) rfl rfl) ?_; (simp only [nA, ↓reduceIte])
   refine awP (op_move rfl rfl) ?_
   refine awP (op_extract rfl rfl rfl) ?_
   refine awP (op_extract rfl rfl rfl) ?_
   refine awP (op_assign rfl rfl) ?_
   refine awP (op_assign rfl rfl) ?_
   refine AWL.nil ?_
   (refine hK _ ?_; clear hK K; (simp only [nA, ↓reduceIte]))
   (refine AW.seq_k ?_; intro K hK)
   (refine AW.seq_k ?_; intro K hK)
   refine AW.region ?_
   refine awP (op_move rfl rfl) ?_
   refine awP (op_lss rfl rfl rfl) ?_
   refine AWL.nil ?_
   (refine hK _ ?_; clear hK K; (simp only [nA, ↓reduceIte]))
   refine AW.cond rfl rfl rfl (fun hc => ?_) (fun hc => ?_)
   ·
    have hc6 := hc; have g6 : bestV (asgF f (l, []) ((ordV bags).take i)).1 f ((ordV bags).getD i default) = none := (by cases hb : bestV (asgF f (l, []) ((ordV bags).take i)).1 f ((ordV bags).getD i default) with | none => rfl | some i => rw [hb] at hc6; exact absurd (of_decide_eq_true hc6) (by show ¬ ((i : Nat) : Int) < 0; omega)); rw [stepA_none g6] at hstp
    (refine AW.seq_k ?_; intro K hK)
    refine AW.region ?_
    refine awP (op_move rfl rfl) ?_
    (refine awR (op_load_ptr rfl rfl rfl rfl ag35 sz35 (bl rfl) rfl) ?_)
    refine awJ (OpJ.frz (op_buildSlice rfl [(0, (((ordV bags).getD i default)).av)] [(((ordV bags).getD i default)).av] Tryz.underlying31 ze35 rfl (by simp) rfl (by simp) rfl (bl rfl) (by simp [maxLen])) (by simp [flatA]) rfl) ?_; (simp only [nA, ↓reduceIte])
    refine awJ (op_app (r := 6) (rows := [(((ordV bags).getD i default)).av]) rfl rfl rfl rfl (by simp) .ro Tryz.underlying31 ze35 (by decide) (av_len [((ordV bags).getD i default)]) (by simp; omega) (by decide) (es' := ((asgF f (l, []) ((ordV bags).take i)).2 ++ [((ordV bags).getD i default)]).map Piece.av) (by simp) (n := ((asgF f (l, []) ((ordV bags).take i)).2 ++ [((ordV bags).getD i default)]).length) (by simp)) ?_; (try simp only [nA, Nat.reduceBEq, Nat.reduceEqDiff, ↓reduceIte, Nat.reduceAdd, Nat.reduceSub])
    refine awP (op_assign rfl rfl) ?_
    refine AWL.nil ?_
    (refine hK _ ?_; clear hK K; (simp only [nA]))
    refine AW.exit ?_; (try simp only [thenE, inBlk, Nat.reduceEqDiff, ↓reduceIte])
    clear hK K
    (refine hK _ ?_; clear hK K; (skip))
    refine AW.region ?_
    (refine awP (op_addi rfl rfl rfl (by omega)) ?_)
    refine awP (op_move rfl rfl) ?_
    refine AWL.gh (Gh.drop 7) ?_; (simp only [nA])
    refine AWL.nil ?_
    refine ⟨(i + 1, _, _), by dsimp only; omega, by dsimp only; omega, ⟨rfl, (by dsimp only; rw [hstp]; rfl), (by dsimp only; rw [hstp]; rfl), rfl, rfl, rfl, trivial⟩, (by dsimp only; rw [hstp]), (by rfl)⟩
   have hc6 := hc; obtain ⟨j, hbi⟩ : ∃ j, bestV (asgF f (l, []) ((ordV bags).take i)).1 f ((ordV bags).getD i default) = some j := (by cases hb : bestV (asgF f (l, []) ((ordV bags).take i)).1 f ((ordV bags).getD i default) with | some j => exact ⟨j, rfl⟩ | none => rw [hb] at hc6; exact absurd (of_decide_eq_false hc6) (by show ¬ ¬ (-1 : Int) < 0; decide)); obtain ⟨hjl, _, hadm⟩ := bestV_some hbi; rw [stepA_some hbi] at hstp; have hput := hadm.put; rw [hbi]; have h16 : Fn Tryz.prog 32 [] [.agg ((asgF f (l, []) ((ordV bags).take i)).1.getD j default).av, .agg ((ordV bags).getD i default).av] [.agg (insC ((asgF f (l, []) ((ordV bags).take i)).1.getD j default) ((ordV bags).getD i default)).av, .v (.int .i64 0)] [] := (by have h := C32 (c := ((asgF f (l, []) ((ordV bags).take i)).1.getD j default)) (p := ((ordV bags).getD i default)); rwa [hput] at h)
   refine AW.skip ?_
   (refine hK _ ?_; clear hK K; (skip))
   (refine AW.seq_k ?_; intro K hK)
   refine AW.ad [(5, ep + 1 + 1 + 1, .own 33 ((asgF f (l, []) ((ordV bags).take i)).1.map Container.av)), (7, ep2, .own 35 [(((ordV bags).getD i default)).av])] mix rfl ?_
   refine adP 0 rfl (fun T' ok => op_move rfl rfl) (by exact ⟨rfl, rfl, trivial⟩) (by kernel_rfl) (by kernel_rfl) ?_
   refine adP 1 rfl (fun T' ok => op_move rfl rfl) (by exact ⟨rfl, rfl, trivial⟩) (by kernel_rfl) (by kernel_rfl) ?_
   refine adP 2 rfl (fun T' ok => op_ia_sl j 11 rfl rfl rfl (by exact ok.1) Tryz.underlying42 rfl hjl (by exact sz33) (Nat.zero_add _)) (by exact ⟨rfl, rfl, trivial⟩) (by kernel_rfl) (by kernel_rfl) ?_
   refine adR 3 rfl (fun T' ok => op_load_ptr (row := (((asgF f (l, []) ((ordV bags).take i)).1.getD j default)).av) rfl rfl (by exact ok.1) (get_mapD hjl) ag33 sz33 (bl rfl) rfl) (by exact ⟨rfl, rfl, trivial⟩) (by kernel_rfl) (by kernel_rfl) ?_
   (refine adR 4 rfl (fun T' ok => op_load_ptr rfl rfl (by exact ok.2.1) rfl ag35 sz35 (bl rfl) rfl) (by exact ⟨rfl, rfl, trivial⟩) (by kernel_rfl) (by kernel_rfl) ?_)
   refine adF 5 rfl (fun T' ok => op_callS rfl en32 h16 (RL.cons (by exact View.same rfl) (RL.cons (by exact View.same rfl) (RL.nil))) rfl rfl rfl) (by exact ⟨rfl, rfl, trivial⟩) (by kernel_rfl) (by kernel_rfl) ?_; (simp only [nA, Nat.reduceBEq, Nat.reduceEqDiff, ↓reduceIte])
   refine adP 6 rfl (fun T' ok => op_move rfl rfl) (by exact ⟨rfl, rfl, trivial⟩) (by kernel_rfl) (by kernel_rfl) ?_
   refine adP 7 rfl (fun T' ok => op_extract rfl rfl rfl) (by exact ⟨rfl, rfl, trivial⟩) (by kernel_rfl) (by kernel_rfl) ?_
   refine adP 8 rfl (fun T' ok => op_extract rfl rfl rfl) (by exact ⟨rfl, rfl, trivial⟩) (by kernel_rfl) (by kernel_rfl) ?_
   refine adJ 9 rfl (op_alloc rfl ze33 rfl) (by kernel_rfl) (by exact ⟨rfl, rfl, trivial⟩) ?_; (simp only [nA, Nat.reduceBEq, Nat.reduceEqDiff, ↓reduceIte])
   refine adJ 10 rfl (op_store rfl rfl rfl rfl rfl rfl sz33 rfl (bl rfl) rfl) (by kernel_rfl) (by exact ⟨rfl, rfl, trivial⟩) ?_; (simp only [nA, Nat.reduceBEq, Nat.reduceEqDiff, ↓reduceIte])
   refine adP 11 rfl (fun T' ok => op_assign rfl rfl) (by exact ⟨rfl, rfl, trivial⟩) (by kernel_rfl) (by kernel_rfl) ?_
   refine adDone (by kernel_rfl) ?_
   (refine hK _ ?_; clear hK K; (simp only [nA, ↓reduceIte]))
   (refine AW.seq_k ?_; intro K hK)
   refine AW.region ?_
   refine awP (op_move rfl rfl) ?_
   (refine awP (op_eql rfl rfl rfl) ?_)
   refine AWL.nil ?_
   (refine hK _ ?_; clear hK K; (simp only [nA]))
   refine AW.cond rfl rfl rfl (fun hc => ?_) (fun hc => ?_)
   ·
    have hc7 := hc
    refine AW.region ?_
    refine awP (op_move rfl rfl) ?_
    refine awP (op_move rfl rfl) ?_
    (refine awR (op_load_ptr rfl rfl rfl rfl ag33 sz33 (bl rfl) rfl) ?_)
    refine awP (op_ia_sl j 11 rfl rfl rfl rfl Tryz.underlying42 rfl hjl (by exact sz33) (Nat.zero_add _)) ?_
    refine awJ (op_store rfl rfl rfl rfl (get_mapD hjl) rfl sz33 rfl (bl rfl) (es' := ((asgF f (l, []) ((ordV bags).take i)).1.set j (insC ((asgF f (l, []) ((ordV bags).take i)).1.getD j default) ((ordV bags).getD i default))).map Container.av) (set_C _ hjl)) ?_; (simp only [nA, ↓reduceIte])
    refine AWL.nil ?_
    (try simp only [thenE, inBlk, Nat.reduceEqDiff, ↓reduceIte])
    (refine hK _ ?_; clear hK K; (skip))
    refine AW.region ?_
    (refine awP (op_addi rfl rfl rfl (by omega)) ?_)
    refine awP (op_move rfl rfl) ?_
    refine AWL.gh (Gh.drop 7) ?_; (simp only [nA])
    refine AWL.nil ?_
    refine ⟨(i + 1, _, _), by dsimp only; omega, by dsimp only; omega, ⟨rfl, (by dsimp only; rw [hstp, List.length_set]; rfl), (by dsimp only; rw [hstp]; rfl), rfl, rfl, rfl, trivial⟩, (by dsimp only; rw [hstp]), (by rfl)⟩
   (cases hc; done)
  have hc5 := hc; have hie : i = (ordV bags).length := (by have : ¬ i < (ordV bags).length := (by simpa using hc5); omega); rw [hie, List.take_length]
  refine AW.exit ?_; (try simp only [thenE, inBlk, Nat.reduceEqDiff, ↓reduceIte])
  clear hK K
  (refine hK _ ?_; clear hK K; (skip))
  (refine AW.seq_k ?_; intro K hK)
  refine AW.region ?_
  refine awP (op_move rfl rfl) ?_
  refine awP (op_move rfl rfl) ?_
  refine awP (op_assign rfl rfl) ?_
  refine awP (op_assign rfl rfl) ?_
  refine awP (op_assign rfl rfl) ?_
  refine AWL.nil ?_
  (refine hK _ ?_; clear hK K; (simp only [nA, ↓reduceIte]))
  refine AW.gh (Gh.freeze 6 (bl rfl) rfl rfl (flatC _) (es' := (asgF f (l, []) (ordV bags)).1.map Container.av) (List.take_of_length_le (by simp))) ?_; (try simp only [nA, Nat.reduceBEq, Nat.reduceEqDiff, ↓reduceIte, Nat.reduceAdd, Nat.reduceSub]); refine AW.gh (Gh.freeze 7 (bl rfl) rfl rfl (av_flatP _) (es' := (asgF f (l, []) (ordV bags)).2.map Piece.av) (List.take_of_length_le (by simp))) ?_; (try simp only [nA, Nat.reduceBEq, Nat.reduceEqDiff, ↓reduceIte, Nat.reduceAdd, Nat.reduceSub])
  refine AW.ret ?_; (try simp only [thenE, inBlk, Nat.reduceEqDiff, ↓reduceIte]); rw [asgV_yes g1 hE]; exact RQ.of0 rfl (.tmp (bl rfl) rfl rfl (.tmp (bl rfl) rfl rfl (.tmp (bl rfl) rfl rfl .nil)))
end Go.Proofs.YtmdohphcolffmaaGreat
namespace Go.Proofs.YtmdohphcolffmaaGreat
open Go.RowKit
set_option linter.unusedSimpArgs false
set_option linter.unusedVariables false
set_option maxRecDepth 100000
abbrev awBag : List AV := [.v (.int .i64 0), .v (.int .i64 0), .v (.int .i64 0), .v (.string ⟨#[]⟩), .v (.int .i64 0), .v (.string ⟨#[]⟩), .v (.int .i64 0), .v (.string ⟨#[]⟩), .v (.string ⟨#[]⟩), .v (.string ⟨#[]⟩), .v (.int .i64 0), .v (.string ⟨#[]⟩), .v (.int .i64 0), .v (.string ⟨#[]⟩), .v (.string ⟨#[]⟩), .v (.slice none 0 0), .v (.int .i64 0), .v (.int .i64 0), .v (.int .i64 0), .v (.bool false), .v (.string ⟨#[]⟩), .v (.string ⟨#[]⟩), .v (.int .i64 2), .v (.string ⟨#[]⟩), .v (.bool false)]
set_option maxHeartbeats 8000000 in
theorem C8 : Fn Tryz.prog 8 [] [.agg awBag] [.v (.int .i64 3)] [] := by
  refine Spec.body Tryz.func8 rfl Tryz.ntmps8 (by simp) rfl ?_; intro S0 own0 v0 w0
  (refine AW.seq_k ?_; intro K hK)
  refine AW.region ?_
  refine awJ (op_box rfl rfl rfl sz30 rfl) ?_; (simp only [nA, Nat.reduceBEq, Nat.reduceEqDiff, ↓reduceIte])
  refine awP (op_assign rfl rfl) ?_; (try simp only [nA, Nat.reduceBEq, Nat.reduceEqDiff, ↓reduceIte, Nat.reduceAdd, Nat.reduceSub])
  refine AWL.nil ?_
  (refine hK _ ?_; clear hK K; (try simp only [nA, Nat.reduceBEq, Nat.reduceEqDiff, ↓reduceIte, Nat.reduceAdd, Nat.reduceSub]))
  (refine AW.seq_k ?_; intro K hK)
  refine AW.block ?_
  (refine AW.seq_k ?_; intro K hK)
  refine AW.region ?_
  (refine awP (op_fa_ptr rfl rfl rfl fl30_10 (by exact sz3) (by decide) rfl) ?_); (try simp only [nA, Nat.reduceBEq, Nat.reduceEqDiff, ↓reduceIte, Nat.reduceAdd, Nat.reduceSub])
  (refine awR (op_load_ptr1 rfl rfl rfl rfl ag3 rfl rfl) ?_); (try simp only [nA, Nat.reduceBEq, Nat.reduceEqDiff, ↓reduceIte, Nat.reduceAdd, Nat.reduceSub])
  (refine awP (op_eql rfl rfl rfl) ?_); (try simp only [nA, Nat.reduceBEq, Nat.reduceEqDiff, ↓reduceIte, Nat.reduceAdd, Nat.reduceSub])
  refine awP (op_assign rfl rfl) ?_; (simp only [nA])
  refine AWL.nil ?_
  (refine hK _ ?_; clear hK K; (skip))
  refine AW.cond rfl rfl rfl (fun hc => ?_) (fun hc => ?_)
  · (cases hc; done)
  (try simp only [hcS] at hc); have hc1 := hc
  (refine AW.seq_k ?_; intro K hK)
  refine AW.region ?_
  (refine awP (op_fa_ptr rfl rfl rfl fl30_10 (by exact sz3) (by decide) rfl) ?_); (try simp only [nA, Nat.reduceBEq, Nat.reduceEqDiff, ↓reduceIte, Nat.reduceAdd, Nat.reduceSub])
  (refine awR (op_load_ptr1 rfl rfl rfl rfl ag3 rfl rfl) ?_); (try simp only [nA, Nat.reduceBEq, Nat.reduceEqDiff, ↓reduceIte, Nat.reduceAdd, Nat.reduceSub])
  (refine awP (op_eql rfl rfl rfl) ?_); (try simp only [nA, Nat.reduceBEq, Nat.reduceEqDiff, ↓reduceIte, Nat.reduceAdd, Nat.reduceSub])
  refine awP (op_assign rfl rfl) ?_; (simp only [nA])
  refine AWL.nil ?_
  (refine hK _ ?_; clear hK K; (skip))
  refine AW.cond rfl rfl rfl (fun hc => ?_) (fun hc => ?_)
  ·
   (try simp only [hcS] at hc); have hc2 := hc
   (refine AW.seq_k ?_; intro K hK)
   refine AW.region ?_
   refine awP (op_assign rfl rfl) ?_; (try simp only [nA, Nat.reduceBEq, Nat.reduceEqDiff, ↓reduceIte, Nat.reduceAdd, Nat.reduceSub])
   refine AWL.nil ?_
   (refine hK _ ?_; clear hK K; (skip))
   skip
   refine AW.ret ?_; (try simp only [thenE, inBlk, Nat.reduceEqDiff, ↓reduceIte]); exact RQ.of0 rfl (.tmp (bl rfl) rfl rfl .nil)
  (cases hc; done)
abbrev pairC (i : Nat) : Container := ⟨(i : Nat) + 1, flightN 0, 31, 100, 9, 0, if i = 0 then -10 else 10, []⟩
abbrev pairL (i : Nat) : List Container := (List.range i).map pairC
theorem nilC_le : ∀ (l : List Container), (∀ c ∈ l, c.pieces = []) → RL (Le2 Tryz.prog) (l.map nilC).flatten (l.map Container.av).flatten
  | [], _ => RL.nil
  | c :: l, h => by
    rw [List.map_cons, List.map_cons, List.flatten_cons, List.flatten_cons]
    refine RL.append ?_ (nilC_le l fun x hx => h x (by simp [hx]))
    have hc := h c (by simp)
    unfold nilC Container.av
    rw [hc]
    exact RL.cons .same (RL.cons .same (RL.cons .same (RL.cons .same (RL.cons .same (RL.cons .same (RL.cons .same (RL.cons .same (RL.cons .same (RL.cons .same (RL.cons .nil RL.nil))))))))))
theorem nilC_lens (l : List Container) : (l.map Container.av).map List.length = (l.map nilC).map List.length := by simp
theorem nilC_len (l : List Container) : ∀ x ∈ l.map nilC, x.length = 11 := fun x hx => by obtain ⟨c, _, rfl⟩ := List.mem_map.1 hx; rfl
theorem flat_nilC (c : Container) : ∀ r ∈ [nilC c], ∀ x ∈ r, flatA x = true := fun r hr x hx => by
  simp only [List.mem_cons, List.not_mem_nil, or_false] at hr
  subst hr
  simp only [nilC, Container.av, List.set, List.mem_cons, List.not_mem_nil, or_false] at hx
  rcases hx with rfl | rfl | rfl | rfl | rfl | rfl | rfl | rfl | rfl | rfl | rfl <;> rfl
set_option maxHeartbeats 8000000 in
theorem C34 : Fn Tryz.prog 34 [] [] [.ro ((pairL 2).map Container.av)] [] := by
  refine Spec.body Tryz.func34 rfl Tryz.ntmps34 (by simp) rfl ?_; intro S0 own0 v0 w0
  (refine AW.seq_k ?_; intro K hK)
  refine AW.region ?_
  refine awP (op_assign rfl rfl) ?_; (try simp only [nA, Nat.reduceBEq, Nat.reduceEqDiff, ↓reduceIte, Nat.reduceAdd, Nat.reduceSub])
  refine AWL.nil ?_
  (refine hK _ ?_; clear hK K; (try simp only [nA, Nat.reduceBEq, Nat.reduceEqDiff, ↓reduceIte, Nat.reduceAdd, Nat.reduceSub]))
  (refine AW.seq_k ?_; intro K hK)
  refine AW.region ?_
  refine awP (op_assign rfl rfl) ?_; (try simp only [nA, Nat.reduceBEq, Nat.reduceEqDiff, ↓reduceIte, Nat.reduceAdd, Nat.reduceSub])
  refine AWL.nil ?_
  (refine hK _ ?_; clear hK K; (skip))
  (refine AW.seq_k ?_; intro K hK)
  (refine AW.seq_k ?_; intro K hK)
  refine AW.region ?_
  refine awJ (OpJ.frz (op_buildSlice rfl [(0, iv (-10)), (1, iv 10)] [iv (-10), iv 10] Tryz.underlying36 ze3 rfl (by simp) rfl (by simp) rfl (bl rfl) (by simp [maxLen])) (by simp [flatA]) rfl) ?_; (try simp only [nA, Nat.reduceBEq, Nat.reduceEqDiff, ↓reduceIte, Nat.reduceAdd, Nat.reduceSub])
  refine awP (op_len_ro (n := 2) rfl rfl Tryz.underlying36 (.inr (.inl ⟨_, rfl, rfl⟩))) ?_; (try simp only [nA, Nat.reduceBEq, Nat.reduceEqDiff, ↓reduceIte, Nat.reduceAdd, Nat.reduceSub])
  refine awP (op_move rfl rfl) ?_; (try simp only [nA, Nat.reduceBEq, Nat.reduceEqDiff, ↓reduceIte, Nat.reduceAdd, Nat.reduceSub])
  refine AWL.nil ?_
  (refine hK _ ?_; clear hK K; (skip))
  refine AW.block ?_
  refine AW.gh (Gh.nil (e := 33) 1 (bl rfl) rfl sz33) ?_; (simp only [nA, Nat.reduceBEq, Nat.reduceEqDiff, ↓reduceIte]); refine AW.loopI (fun (q : Nat × Nat × Nat) => [(1, .sl 0 q.2.1 0 q.1), (4, .ro [iv (-10), iv 10]), (5, .v (.int .i64 2)), (6, .v (.int .i64 (q.1 : Nat)))]) (fun q => ⟨[(q.2.1, .own 33 ((pairL q.1).map nilC))], q.2.2⟩) (fun q => q.1 ≤ 2) (fun q => 2 - q.1) (0, _, _) (by simp) ⟨rfl, rfl, rfl, rfl, trivial⟩ rfl ?_; rintro ⟨i, v, ep⟩ ρ hI; dsimp only at hI ⊢; simp only [updL]
  (refine AW.seq_k ?_; intro K hK)
  refine AW.region ?_
  refine awP (op_lss rfl rfl rfl) ?_; (try simp only [nA, Nat.reduceBEq, Nat.reduceEqDiff, ↓reduceIte, Nat.reduceAdd, Nat.reduceSub])
  refine AWL.nil ?_
  (refine hK _ ?_; clear hK K; (skip))
  (refine AW.seq_k ?_; intro K hK)
  refine AW.cond rfl rfl rfl (fun hc => ?_) (fun hc => ?_)
  ·
   (try simp only [hcS] at hc); have hc1 := hc; have hlt : i < 2 := (by omega); have hrow : [iv (-10), iv 10][i]? = some (iv (if i = 0 then -10 else 10)) := (by rcases (by omega : i = 0 ∨ i = 1) with rfl | rfl <;> rfl)
   refine AW.skip ?_
   (refine hK _ ?_; clear hK K; (skip))
   (refine AW.seq_k ?_; intro K hK)
   refine AW.block ?_
   (refine AW.seq_k ?_; intro K hK)
   refine AW.region ?_
   refine awP (op_move rfl rfl) ?_; (simp only [nA, ↓reduceIte])
   refine awP (op_ia_ro i rfl (.inl rfl) rfl Tryz.underlying36 rfl hrow (by exact sz3) (bl rfl)) ?_; (try simp only [nA, Nat.reduceBEq, Nat.reduceEqDiff, ↓reduceIte, Nat.reduceAdd, Nat.reduceSub])
   (refine awR (op_load_rop1 rfl rfl ag3) ?_); (try simp only [nA, Nat.reduceBEq, Nat.reduceEqDiff, ↓reduceIte, Nat.reduceAdd, Nat.reduceSub])
   refine awP (op_assign rfl rfl) ?_; (simp only [nA, ↓reduceIte])
   refine awP (op_assign rfl rfl) ?_; (simp only [nA, ↓reduceIte])
   refine AWL.nil ?_
   (refine hK _ ?_; clear hK K; (skip))
   refine AW.region ?_
   refine awP (op_move rfl rfl) ?_; (simp only [nA, ↓reduceIte])
   refine awP (op_move rfl rfl) ?_; (simp only [nA, ↓reduceIte])
   (refine awP (op_addi rfl rfl rfl (by omega)) ?_); (try simp only [nA, Nat.reduceBEq, Nat.reduceEqDiff, ↓reduceIte, Nat.reduceAdd, Nat.reduceSub])
   refine awJ (op_call (b := false) rfl en17 C17_0 (RL.cons (by exact View.same rfl) (RL.nil)) rfl (fun h => by cases h) rfl rfl) ?_; (try simp only [nA, Nat.reduceBEq, Nat.reduceEqDiff, ↓reduceIte, Nat.reduceAdd, Nat.reduceSub])
   refine awP (op_move rfl rfl) ?_; (simp only [nA, ↓reduceIte])
   refine awP (op_build2 (xs := [_, _, _, _, _, _, _, _, .v (.int .i64 0), _, .v (.slice none 0 0)]) rfl pl33 ze33 [(0, [_]), (1, [_, _, _, _]), (2, [_]), (3, [_]), (4, [_]), (6, [_])] rfl rfl rfl) ?_; (simp only [nA, ↓reduceIte])
   refine awJ (OpJ.frz (op_buildSlice rfl [(0, nilC (pairC i))] [nilC (pairC i)] Tryz.underlying42 ze33 rfl (by simp) rfl (by simp) rfl (bl rfl) (by simp [maxLen])) (flat_nilC _) rfl) ?_; (try simp only [nA, Nat.reduceBEq, Nat.reduceEqDiff, ↓reduceIte, Nat.reduceAdd, Nat.reduceSub])
   refine awJ (op_app (r := 0) (rows := [nilC (pairC i)]) rfl rfl rfl rfl (by simp) .ro Tryz.underlying42 ze33 (by decide) (nilC_len [pairC i]) (by simp; omega) (by decide) (es' := (pairL (i + 1)).map nilC) (by unfold pairL; rw [List.range_succ, List.map_append, List.map_append]; rfl) (n := i + 1) (by simp)) ?_; (try simp only [nA, Nat.reduceBEq, Nat.reduceEqDiff, ↓reduceIte, Nat.reduceAdd, Nat.reduceSub])
   refine awP (op_assign rfl rfl) ?_; (simp only [nA])
   refine AWL.nil ?_
   (try simp only [thenE, inBlk, Nat.reduceEqDiff, ↓reduceIte])
   (refine hK _ ?_; clear hK K; (skip))
   refine AW.region ?_
   (refine awP (op_addi rfl rfl rfl (by omega)) ?_); (try simp only [nA, Nat.reduceBEq, Nat.reduceEqDiff, ↓reduceIte, Nat.reduceAdd, Nat.reduceSub])
   refine awP (op_move rfl rfl) ?_; (simp only [nA])
   refine AWL.gh (Gh.drop 1) ?_; (try simp only [nA, Nat.reduceBEq, Nat.reduceEqDiff, ↓reduceIte, Nat.reduceAdd, Nat.reduceSub])
   refine AWL.nil ?_
   refine ⟨(i + 1, _, _), by dsimp only; omega, by dsimp only; omega, ⟨rfl, rfl, rfl, rfl, trivial⟩, (by rfl), (by rfl)⟩
  (try simp only [hcS] at hc); have hc1 := hc; obtain rfl : i = 2 := (by omega)
  refine AW.exit ?_; (try simp only [thenE, inBlk, Nat.reduceEqDiff, ↓reduceIte])
  clear hK K
  (refine hK _ ?_; clear hK K; (skip))
  (refine AW.seq_k ?_; intro K hK)
  refine AW.region ?_
  refine awP (op_move rfl rfl) ?_; (simp only [nA, ↓reduceIte])
  refine awP (op_assign rfl rfl) ?_; (simp only [nA])
  refine AWL.nil ?_
  (refine hK _ ?_; clear hK K; (skip))
  refine AW.gh (Gh.slot2 (r := 0) (es' := (pairL 2).map Container.av) rfl (nilC_lens _) (nilC_le _ (fun c hc => by obtain ⟨k, _, rfl⟩ := List.mem_map.1 hc; rfl))) ?_; (try simp only [nA, Nat.reduceBEq, Nat.reduceEqDiff, ↓reduceIte, Nat.reduceAdd, Nat.reduceSub]); refine AW.gh (Gh.freeze 0 (bl rfl) rfl rfl (flatC _) (es' := (pairL 2).map Container.av) rfl) ?_; (try simp only [nA, Nat.reduceBEq, Nat.reduceEqDiff, ↓reduceIte, Nat.reduceAdd, Nat.reduceSub])
  refine AW.ret ?_; (try simp only [thenE, inBlk, Nat.reduceEqDiff, ↓reduceIte]); exact RQ.of0 rfl (.tmp (bl rfl) rfl rfl .nil)
abbrev awB1 : Piece := ⟨platesP 1, 15, 0⟩
abbrev awB2 : Piece := ⟨platesP 2, 20, 0⟩
abbrev awB3 : Piece := ⟨platesP 1, 20, 0⟩
abbrev awOut : List Container := [⟨1, flightN 0, 31, 100, 9, 0, -10, [awB2]⟩, ⟨2, flightN 0, 31, 100, 9, 0, 10, [awB1]⟩]
theorem aw_asg : asgV (pairL 2) (flightN 0) [awB1, awB2] = (awOut, [], 0) := by kernel_rfl
theorem aw_cho : choV (pairL 2) (flightN 0) awB3 = (1, 0) := by kernel_rfl
theorem aw_mom : momV awOut (flightN 0) = -50 := by kernel_rfl
theorem aw_sml : Sml (pairL 2) := ⟨by simp, fun c hc => by obtain ⟨k, _, rfl⟩ := List.mem_map.1 hc; exact Nat.zero_le _⟩
theorem aw_sml2 : Sml awOut := ⟨by simp, fun c hc => by
  simp only [List.mem_cons, List.not_mem_nil, or_false] at hc
  rcases hc with rfl | rfl <;> decide⟩
theorem awC12 : Fn Tryz.prog 24 [] [.ro ((pairL 2).map Container.av), .agg (flightN 0).av, .ro ([awB1, awB2].map Piece.av)] [.ro (awOut.map Container.av), .ro ([] : List (List AV)), .v (.int .i64 0)] [] := by
  have h := C24 (l := pairL 2) (f := flightN 0) (bags := [awB1, awB2]) aw_sml (by decide)
  rw [aw_asg] at h
  exact h
theorem awC15 : Fn Tryz.prog 21 [] [.ro ((pairL 2).map Container.av), .agg (flightN 0).av, .agg awB3.av] [.v (.int .i64 1), .v (.int .i64 0)] [] := by
  have h := C21 (l := pairL 2) (f := flightN 0) (p := awB3) aw_sml
  rw [aw_cho] at h
  exact h
theorem awC29 : Fn Tryz.prog 19 [] [.ro (awOut.map Container.av), .agg (flightN 0).av] [.v (.int .i64 (-50))] [] := by
  have h := C19 (l := awOut) (f := flightN 0) aw_sml2
  rw [aw_mom] at h
  exact h
end Go.Proofs.YtmdohphcolffmaaGreat
namespace Go.Proofs.YtmdohphcolffmaaGreat
open Go.RowKit
set_option linter.unusedSimpArgs false
set_option linter.unusedVariables false
set_option maxRecDepth 100000
theorem pl30 : plIs Tryz.prog 30 [(0, 3), (3, 6), (9, 6), (15, 1), (16, 1), (17, 1), (18, 1), (19, 1), (20, 1), (21, 1), (22, 1), (23, 1), (24, 1)] := ⟨_, Tryz.underlying30, by kernel_rfl⟩
set_option maxHeartbeats 8000000 in
theorem C14 : Fn Tryz.prog 14 [] [] [.v (.bool true)] [] := by
  refine Spec.body Tryz.func14 rfl Tryz.ntmps14 (by simp) rfl ?_; intro S0 own0 v0 w0
  (refine AW.seq_k ?_; intro K hK)
  refine AW.region ?_
  refine awP (op_assign rfl rfl) ?_
  refine AWL.nil ?_
  (refine hK _ ?_; clear hK K; (try simp only [nA, Nat.reduceBEq, Nat.reduceEqDiff, ↓reduceIte, Nat.reduceAdd, Nat.reduceSub]))
  (refine AW.seq_k ?_; intro K hK)
  refine AW.region ?_
  refine awJ (op_call (b := false) rfl en17 C17_0 (RL.cons (by exact View.same rfl) (RL.nil)) rfl (fun h => by cases h) rfl rfl) ?_; (try simp only [nA, Nat.reduceBEq, Nat.reduceEqDiff, ↓reduceIte, Nat.reduceAdd, Nat.reduceSub])
  refine awJ (op_alloc rfl ze25 rfl) ?_; (simp only [nA, Nat.reduceBEq, Nat.reduceEqDiff, ↓reduceIte])
  refine awJ (op_store rfl rfl rfl rfl rfl rfl sz25 rfl (bl rfl) rfl) ?_; (simp only [nA, Nat.reduceBEq, Nat.reduceEqDiff, ↓reduceIte])
  refine AWL.nil ?_
  (refine hK _ ?_; clear hK K; (skip))
  (refine AW.seq_k ?_; intro K hK)
  refine AW.ad [(0, 1, .own 25 [(flightN 0).av])] mix rfl ?_
  (refine adR 1 rfl (fun T' ok => op_load_ptr rfl rfl (by exact ok.1) rfl ag25 sz25 (bl rfl) rfl) (by exact ⟨rfl, trivial⟩) (by kernel_rfl) (by kernel_rfl) ?_)
  refine adF 0 rfl (fun T' ok => op_callS rfl en34 (C34) (RL.nil) rfl rfl rfl) (by exact ⟨rfl, trivial⟩) (by kernel_rfl) (by kernel_rfl) ?_; (simp only [nA, Nat.reduceBEq, Nat.reduceEqDiff, ↓reduceIte])
  refine adF 2 rfl (fun T' ok => op_callS rfl en30 (C30 (i := 1)) (RL.cons (by exact View.same rfl) (RL.nil)) rfl rfl rfl) (by exact ⟨rfl, trivial⟩) (by kernel_rfl) (by kernel_rfl) ?_; (try simp only [nA, Nat.reduceBEq, Nat.reduceEqDiff, ↓reduceIte, Nat.reduceAdd, Nat.reduceSub])
  refine adP 3 rfl (fun T' ok => op_build2 (xs := [_, _, _, _, .v (.int .i64 0)]) rfl pl35 ze35 [(0, [_, _, _]), (1, [_])] rfl rfl rfl) (by exact ⟨rfl, trivial⟩) (by kernel_rfl) (by kernel_rfl) ?_
  refine adF 4 rfl (fun T' ok => op_callS rfl en30 (C30 (i := 2)) (RL.cons (by exact View.same rfl) (RL.nil)) rfl rfl rfl) (by exact ⟨rfl, trivial⟩) (by kernel_rfl) (by kernel_rfl) ?_; (try simp only [nA, Nat.reduceBEq, Nat.reduceEqDiff, ↓reduceIte, Nat.reduceAdd, Nat.reduceSub])
  refine adP 5 rfl (fun T' ok => op_build2 (xs := [_, _, _, _, .v (.int .i64 0)]) rfl pl35 ze35 [(0, [_, _, _]), (1, [_])] rfl rfl rfl) (by exact ⟨rfl, trivial⟩) (by kernel_rfl) (by kernel_rfl) ?_
  refine adF 6 rfl (fun T' ok => OpJ.frz (op_buildSlice rfl [(0, awB1.av), (1, awB2.av)] [awB1.av, awB2.av] Tryz.underlying31 ze35 rfl (by simp) rfl (by simp) rfl (bl rfl) (by simp [maxLen])) (av_flatP [awB1, awB2]) rfl) (by exact ⟨rfl, trivial⟩) (by kernel_rfl) (by kernel_rfl) ?_; (try simp only [nA, Nat.reduceBEq, Nat.reduceEqDiff, ↓reduceIte, Nat.reduceAdd, Nat.reduceSub])
  refine adF 7 rfl (fun T' ok => op_callS rfl en24 awC12 (RL.cons (by exact View.same rfl) (RL.cons (by exact View.same rfl) (RL.cons (by exact View.same rfl) (RL.nil)))) rfl rfl rfl) (by exact ⟨rfl, trivial⟩) (by kernel_rfl) (by kernel_rfl) ?_; (try simp only [nA, Nat.reduceBEq, Nat.reduceEqDiff, ↓reduceIte, Nat.reduceAdd, Nat.reduceSub])
  refine adP 8 rfl (fun T' ok => op_move rfl rfl) (by exact ⟨rfl, trivial⟩) (by kernel_rfl) (by kernel_rfl) ?_
  refine adP 9 rfl (fun T' ok => op_extract rfl rfl rfl) (by exact ⟨rfl, trivial⟩) (by kernel_rfl) (by kernel_rfl) ?_
  refine adP 10 rfl (fun T' ok => op_extract rfl rfl rfl) (by exact ⟨rfl, trivial⟩) (by kernel_rfl) (by kernel_rfl) ?_
  refine adP 11 rfl (fun T' ok => op_extract rfl rfl rfl) (by exact ⟨rfl, trivial⟩) (by kernel_rfl) (by kernel_rfl) ?_
  refine adP 12 rfl (fun T' ok => op_assign rfl rfl) (by exact ⟨rfl, trivial⟩) (by kernel_rfl) (by kernel_rfl) ?_
  refine adP 13 rfl (fun T' ok => op_assign rfl rfl) (by exact ⟨rfl, trivial⟩) (by kernel_rfl) (by kernel_rfl) ?_
  refine adP 14 rfl (fun T' ok => op_assign rfl rfl) (by exact ⟨rfl, trivial⟩) (by kernel_rfl) (by kernel_rfl) ?_
  refine adDone (by kernel_rfl) ?_
  (refine hK _ ?_; clear hK K; (simp only [nA, ↓reduceIte]))
  (refine AW.seq_k ?_; intro K hK)
  refine AW.ad [(0, 1, .own 25 [(flightN 0).av])] mix rfl ?_
  (refine adR 1 rfl (fun T' ok => op_load_ptr rfl rfl (by exact ok.1) rfl ag25 sz25 (bl rfl) rfl) (by exact ⟨rfl, trivial⟩) (by kernel_rfl) (by kernel_rfl) ?_)
  refine adF 0 rfl (fun T' ok => op_callS rfl en34 (C34) (RL.nil) rfl rfl rfl) (by exact ⟨rfl, trivial⟩) (by kernel_rfl) (by kernel_rfl) ?_; (simp only [nA, Nat.reduceBEq, Nat.reduceEqDiff, ↓reduceIte])
  refine adF 2 rfl (fun T' ok => op_callS rfl en30 (C30 (i := 1)) (RL.cons (by exact View.same rfl) (RL.nil)) rfl rfl rfl) (by exact ⟨rfl, trivial⟩) (by kernel_rfl) (by kernel_rfl) ?_; (try simp only [nA, Nat.reduceBEq, Nat.reduceEqDiff, ↓reduceIte, Nat.reduceAdd, Nat.reduceSub])
  refine adP 3 rfl (fun T' ok => op_build2 (xs := [_, _, _, _, .v (.int .i64 0)]) rfl pl35 ze35 [(0, [_, _, _]), (1, [_])] rfl rfl rfl) (by exact ⟨rfl, trivial⟩) (by kernel_rfl) (by kernel_rfl) ?_
  refine adF 4 rfl (fun T' ok => op_callS rfl en21 awC15 (RL.cons (by exact View.same rfl) (RL.cons (by exact View.same rfl) (RL.cons (by exact View.same rfl) (RL.nil)))) rfl rfl rfl) (by exact ⟨rfl, trivial⟩) (by kernel_rfl) (by kernel_rfl) ?_; (try simp only [nA, Nat.reduceBEq, Nat.reduceEqDiff, ↓reduceIte, Nat.reduceAdd, Nat.reduceSub])
  refine adP 5 rfl (fun T' ok => op_move rfl rfl) (by exact ⟨rfl, trivial⟩) (by kernel_rfl) (by kernel_rfl) ?_
  refine adP 6 rfl (fun T' ok => op_extract rfl rfl rfl) (by exact ⟨rfl, trivial⟩) (by kernel_rfl) (by kernel_rfl) ?_
  refine adP 7 rfl (fun T' ok => op_extract rfl rfl rfl) (by exact ⟨rfl, trivial⟩) (by kernel_rfl) (by kernel_rfl) ?_
  refine adP 8 rfl (fun T' ok => op_assign rfl rfl) (by exact ⟨rfl, trivial⟩) (by kernel_rfl) (by kernel_rfl) ?_
  refine adP 9 rfl (fun T' ok => op_assign rfl rfl) (by exact ⟨rfl, trivial⟩) (by kernel_rfl) (by kernel_rfl) ?_
  refine adDone (by kernel_rfl) ?_
  (refine hK _ ?_; clear hK K; (simp only [nA, ↓reduceIte]))
  (refine AW.seq_k ?_; intro K hK)
  refine AW.region (AWL.quiet ?_)
  refine aqP (op_move rfl rfl) ?_
  (refine aqP (op_eql rfl rfl rfl) ?_)
  refine aqP (op_move rfl rfl) ?_
  refine' aqAnd' [_, _, _] [31,32,33] rfl rfl rfl rfl rfl rfl rfl rfl rfl rfl rfl rfl (fun hb => ?_) ?_; rotate_left
  ·
   (try simp only [hcS] at hb)
   refine aqP (op_move rfl rfl) ?_
   (refine aqP (op_len_ro rfl rfl Tryz.underlying31 (by exact .inr (.inl ⟨_, rfl, rfl⟩))) ?_)
   (refine aqP (op_eql rfl rfl rfl) ?_)
   (refine aqSeg rfl rfl rfl ?_; repeat (first | exact fun _ _ => rfl | refine upd_out rfl ?_))
  simp only [nA, ↓reduceIte]
  refine aqP (op_move rfl rfl) ?_
  refine' aqAnd' [_, _, _] [36,37,38] rfl rfl rfl rfl rfl rfl rfl rfl rfl rfl rfl rfl (fun hb => ?_) ?_; rotate_left
  ·
   (try simp only [hcS] at hb)
   refine aqP (op_move rfl rfl) ?_
   (refine aqP (op_len_ro rfl rfl Tryz.underlying42 (by exact .inr (.inl ⟨_, rfl, rfl⟩))) ?_)
   (refine aqP (op_eql rfl rfl rfl) ?_)
   (refine aqSeg rfl rfl rfl ?_; repeat (first | exact fun _ _ => rfl | refine upd_out rfl ?_))
  simp only [nA, Nat.reduceBEq, Nat.reduceEqDiff, ↓reduceIte]
  refine aqP (op_move rfl rfl) ?_
  refine' aqAnd' [_, _, _, _, _, _] [41,42,43,44,45,46] rfl rfl rfl rfl rfl rfl rfl rfl rfl rfl rfl rfl (fun hb => ?_) ?_; rotate_left
  ·
   (try simp only [hcS] at hb)
   refine aqP (op_move rfl rfl) ?_
   refine aqP (op_ia_ro (es := awOut.map Container.av) 0 rfl (.inl rfl) rfl Tryz.underlying42 rfl rfl (by exact sz33) (bl rfl)) ?_
   (refine aqP (op_fa_rop rfl rfl fl33_7 (by exact sz31) (by decide) (bl rfl) rfl) ?_)
   (refine aqR (op_load_rop1 rfl rfl ag31) ?_)
   (refine aqP (op_len_ro rfl rfl Tryz.underlying31 (by exact .inr (.inl ⟨_, rfl, rfl⟩))) ?_)
   (refine aqP (op_eql rfl rfl rfl) ?_)
   (refine aqSeg rfl rfl rfl ?_; repeat (first | exact fun _ _ => rfl | refine upd_out rfl ?_))
  simp only [nA]
  refine aqP (op_move rfl rfl) ?_
  refine' aqAnd' [_, _, _, _, _, _, _, _] [49,50,51,52,53,54,55,56] rfl rfl rfl rfl rfl rfl rfl rfl rfl rfl rfl rfl (fun hb => ?_) ?_; rotate_left
  ·
   (try simp only [hcS] at hb)
   refine aqP (op_move rfl rfl) ?_
   refine aqP (op_ia_ro (es := awOut.map Container.av) 0 rfl (.inl rfl) rfl Tryz.underlying42 rfl rfl (by exact sz33) (bl rfl)) ?_
   (refine aqP (op_fa_rop rfl rfl fl33_7 (by exact sz31) (by decide) (bl rfl) rfl) ?_)
   (refine aqR (op_load_rop1 rfl rfl ag31) ?_)
   refine aqP (op_ia_ro (es := [awB2.av]) 0 rfl (.inl rfl) rfl Tryz.underlying31 rfl rfl (by exact sz35) (bl rfl)) ?_
   (refine aqP (op_fa_rop rfl rfl fl35_1 (by exact sz3) (by decide) (bl rfl) rfl) ?_)
   (refine aqR (op_load_rop1 rfl rfl ag3) ?_)
   (refine aqP (op_eql rfl rfl rfl) ?_)
   (refine aqSeg rfl rfl rfl ?_; repeat (first | exact fun _ _ => rfl | refine upd_out rfl ?_))
  simp only [nA]
  refine aqP (op_move rfl rfl) ?_
  refine' aqAnd' [_, _, _, _] [59,60,61,62] rfl rfl rfl rfl rfl rfl rfl rfl rfl rfl rfl rfl (fun hb => ?_) ?_; rotate_left
  ·
   (try simp only [hcS] at hb)
   refine aqP (op_move rfl rfl) ?_
   (refine aqR (op_load_ptr rfl rfl rfl rfl ag25 sz25 (bl rfl) rfl) ?_)
   refine aqQ (op_callQ (b := true) rfl en19 awC29 (RL.cons (by exact View.same rfl) (RL.cons (by exact View.same rfl) (RL.nil))) rfl) ?_; (simp only [nA, Nat.reduceEqDiff, ↓reduceIte])
   (refine aqP (op_eql rfl rfl rfl) ?_)
   (refine aqSeg rfl rfl rfl ?_; repeat (first | exact fun _ _ => rfl | refine upd_out rfl ?_))
  simp only [nA]
  refine aqP (op_move rfl rfl) ?_
  refine' aqAnd' [_, _] [65,66] rfl rfl rfl rfl rfl rfl rfl rfl rfl rfl rfl rfl (fun hb => ?_) ?_; rotate_left
  ·
   (try simp only [hcS] at hb)
   refine aqP (op_move rfl rfl) ?_
   (refine aqP (op_eql rfl rfl rfl) ?_)
   (refine aqSeg rfl rfl rfl ?_; repeat (first | exact fun _ _ => rfl | refine upd_out rfl ?_))
  simp only [nA]
  refine aqP (op_move rfl rfl) ?_
  refine' aqAnd' [_, _] [69,70] rfl rfl rfl rfl rfl rfl rfl rfl rfl rfl rfl rfl (fun hb => ?_) ?_; rotate_left
  ·
   (try simp only [hcS] at hb)
   refine aqP (op_move rfl rfl) ?_
   (refine aqP (op_eql rfl rfl rfl) ?_)
   (refine aqSeg rfl rfl rfl ?_; repeat (first | exact fun _ _ => rfl | refine upd_out rfl ?_))
  simp only [nA]
  refine aqP (op_move rfl rfl) ?_
  refine' aqAnd' [_, _, _] [73,74,75] rfl rfl rfl rfl rfl rfl rfl rfl rfl rfl rfl rfl (fun hb => ?_) ?_; rotate_left
  ·
   (try simp only [hcS] at hb)
   refine aqP (op_build2 (xs := [.v (.int .i64 0), .v (.int .i64 0), .v (.int .i64 0), .v (.string ⟨#[]⟩), .v (.int .i64 0), .v (.string ⟨#[]⟩), .v (.int .i64 0), .v (.string ⟨#[]⟩), .v (.string ⟨#[]⟩), .v (.string ⟨#[]⟩), .v (.int .i64 0), .v (.string ⟨#[]⟩), .v (.int .i64 0), .v (.string ⟨#[]⟩), .v (.string ⟨#[]⟩), .v (.slice none 0 0), .v (.int .i64 0), .v (.int .i64 0), .v (.int .i64 0), .v (.bool false), .v (.string ⟨#[]⟩), .v (.string ⟨#[]⟩), _, .v (.string ⟨#[]⟩), .v (.bool false)]) rfl pl30 ze30 [(10, [_])] rfl rfl rfl) ?_
   refine aqQ (op_callQ (b := true) rfl en8 (C8) (RL.cons (by exact View.same rfl) (RL.nil)) rfl) ?_; (simp only [nA])
   (refine aqP (op_eql rfl rfl rfl) ?_)
   (refine aqSeg rfl rfl rfl ?_; repeat (first | exact fun _ _ => rfl | refine upd_out rfl ?_))
  simp only [nA]
  refine aqP (op_assign rfl rfl) ?_
  refine AQ.nil ?_
  (refine hK _ ?_; clear hK K; (simp only [nA]))
  skip
  refine AW.ret ?_; (try simp only [thenE, inBlk, Nat.reduceEqDiff, ↓reduceIte]); exact RQ.of0 rfl (.tmp (bl rfl) rfl rfl .nil)
end Go.Proofs.YtmdohphcolffmaaGreat
namespace Go.Proofs.YtmdohphcolffmaaGreat
open Go.RowKit
set_option linter.unusedSimpArgs false
set_option linter.unusedVariables false
set_option maxRecDepth 100000
theorem pos_first {l : List Piece} {p : Plate} {k : Nat} (hk : k ≤ l.length) (h1 : ∀ j, j < k → cmpP (l.getD j default).plate p < 0) (h2 : ¬ (k < l.length ∧ cmpP (l.getD k default).plate p < 0)) : posP l p = k := by
  unfold posP
  have e : l.takeWhile (fun x => decide (cmpP x.plate p < 0)) = l.take k := by
    conv => lhs; rw [← List.take_append_drop k l]
    rw [List.takeWhile_append_of_pos]
    · have : (l.drop k).takeWhile (fun x => decide (cmpP x.plate p < 0)) = [] := by
        rcases Nat.lt_or_ge k l.length with h | h
        · rw [List.drop_eq_getElem_cons h, List.takeWhile_cons_of_neg]
          have e : l.getD k default = l[k] := by rw [List.getD_eq_getElem?_getD, List.getElem?_eq_getElem h]; rfl
          rw [e] at h2
          simpa using fun hlt => h2 ⟨h, hlt⟩
        rw [List.drop_eq_nil_of_le h]; rfl
      rw [this, List.append_nil]
    intro x hx
    obtain ⟨i, hi, rfl⟩ := List.getElem_of_mem hx
    simp at hi
    have := h1 i (by omega)
    rw [List.getD_eq_getElem?_getD, List.getElem?_eq_getElem (by omega)] at this
    simpa using this
  rw [e]; simp; omega
set_option maxHeartbeats 8000000 in
theorem C59 {c : Container} {p : Piece} (hcl : c.pieces.length ≤ 1000) : Fn Tryz.prog 59 [] [.agg c.av, .agg p.av] [.agg (insC c p).av] [] := by
  refine Spec.body Tryz.func59 rfl Tryz.ntmps59 (by simp) rfl ?_; intro S0 own0 v0 w0
  (refine AW.seq_k ?_; intro K hK)
  refine AW.region ?_
  refine awJ (op_box rfl rfl rfl sz33 rfl) ?_; (simp only [nA, Nat.reduceBEq, Nat.reduceEqDiff, ↓reduceIte])
  refine awJ (op_box rfl rfl rfl sz35 rfl) ?_; (simp only [nA, Nat.reduceBEq, Nat.reduceEqDiff, ↓reduceIte])
  refine awJ (op_alloc rfl ze33 rfl) ?_; (simp only [nA, Nat.reduceBEq, Nat.reduceEqDiff, ↓reduceIte])
  refine AWL.nil ?_
  (refine hK _ ?_; clear hK K; (try simp only [nA, Nat.reduceBEq, Nat.reduceEqDiff, ↓reduceIte, Nat.reduceAdd, Nat.reduceSub]))
  (refine AW.seq_k ?_; intro K hK)
  refine AW.region ?_
  refine awP (op_assign rfl rfl) ?_; (try simp only [nA, Nat.reduceBEq, Nat.reduceEqDiff, ↓reduceIte, Nat.reduceAdd, Nat.reduceSub])
  refine AWL.nil ?_
  (refine hK _ ?_; clear hK K; (skip))
  (refine AW.seq_k ?_; intro K hK)
  refine AW.block ?_
  refine AW.loopI (fun (k : Nat) => [(2, .ptr 0 1 0 0), (3, .ptr 1 2 0 0), (4, .ptr 2 3 0 0), (5, .v (.int .i64 (k : Nat)))]) (fun _ => ⟨[(1, .own 33 [c.av]), (2, .own 35 [p.av]), (3, .own 33 [[AV.v (.int .i64 0), .v (.string ⟨#[]⟩), .v (.int .i64 0), .v (.string ⟨#[]⟩), .v (.int .i64 0), .v (.int .i64 0), .v (.int .i64 0), .v (.int .i64 0), .v (.int .i64 0), .v (.int .i64 0), .v (.slice none 0 0)]])], 4⟩) (fun k => k ≤ c.pieces.length ∧ ∀ j, j < k → cmpP (c.pieces.getD j default).plate p.plate < 0) (fun k => c.pieces.length - k) 0 (by simp) ⟨rfl, rfl, rfl, rfl, trivial⟩ rfl ?_; intro k ρ hi; simp only [updL]
  (refine AW.seq_k ?_; intro K hK)
  (refine AW.seq_k ?_; intro K hK)
  refine AW.quiet mix (by kernel_rfl) ?_
  refine aqP (op_move rfl rfl) ?_; (simp only [nA, ↓reduceIte])
  (refine aqP (op_fa_ptr rfl rfl rfl fl33_7 (by exact sz31) (by decide) rfl) ?_); (try simp only [nA, Nat.reduceBEq, Nat.reduceEqDiff, ↓reduceIte, Nat.reduceAdd, Nat.reduceSub])
  (refine aqR (op_load_ptr1 rfl rfl rfl rfl ag31 rfl rfl) ?_); (try simp only [nA, Nat.reduceBEq, Nat.reduceEqDiff, ↓reduceIte, Nat.reduceAdd, Nat.reduceSub])
  (refine aqP (op_len_ro rfl rfl Tryz.underlying31 (by exact .inr (.inl ⟨_, rfl, rfl⟩))) ?_); (try simp only [nA, Nat.reduceBEq, Nat.reduceEqDiff, ↓reduceIte, Nat.reduceAdd, Nat.reduceSub])
  refine aqP (op_lss rfl rfl rfl) ?_; (try simp only [nA, Nat.reduceBEq, Nat.reduceEqDiff, ↓reduceIte, Nat.reduceAdd, Nat.reduceSub])
  refine aqP (op_move rfl rfl) ?_; (simp only [nA])
  refine' aqAnd' [_, _, _, _, _, _, _, _, _, _] [13,14,15,16,17,18,19,20,21,22] rfl rfl rfl rfl rfl rfl rfl rfl rfl rfl rfl rfl (fun hb => ?_) ?_; rotate_left
  ·
   (try simp only [hcS] at hb)
   (refine aqP (op_fa_ptr rfl rfl rfl fl33_7 (by exact sz31) (by decide) rfl) ?_); (try simp only [nA, Nat.reduceBEq, Nat.reduceEqDiff, ↓reduceIte, Nat.reduceAdd, Nat.reduceSub])
   (refine aqR (op_load_ptr1 rfl rfl rfl rfl ag31 rfl rfl) ?_); (try simp only [nA, Nat.reduceBEq, Nat.reduceEqDiff, ↓reduceIte, Nat.reduceAdd, Nat.reduceSub])
   refine aqP (op_move rfl rfl) ?_; (simp only [nA, ↓reduceIte])
   (refine aqP (op_ia_ro k rfl (.inl rfl) rfl Tryz.underlying31 rfl (get_mapD (by omega)) (by exact sz35) (bl rfl)) ?_); (try simp only [nA, Nat.reduceBEq, Nat.reduceEqDiff, ↓reduceIte, Nat.reduceAdd, Nat.reduceSub])
   (refine aqP (op_fa_rop rfl rfl fl35_0 (by exact sz23) (by decide) (bl rfl) rfl) ?_); (try simp only [nA, Nat.reduceBEq, Nat.reduceEqDiff, ↓reduceIte, Nat.reduceAdd, Nat.reduceSub])
   (refine aqR (op_load_rop rfl rfl ag23 sz23 (bl rfl) (by decide) rfl) ?_); (try simp only [nA, Nat.reduceBEq, Nat.reduceEqDiff, ↓reduceIte, Nat.reduceAdd, Nat.reduceSub])
   (refine aqP (op_fa_ptr rfl rfl rfl fl35_0 (by exact sz23) (by decide) rfl) ?_); (try simp only [nA, Nat.reduceBEq, Nat.reduceEqDiff, ↓reduceIte, Nat.reduceAdd, Nat.reduceSub])
   (refine aqR (op_load_ptr rfl rfl rfl rfl ag23 sz23 (bl rfl) rfl) ?_); (try simp only [nA, Nat.reduceBEq, Nat.reduceEqDiff, ↓reduceIte, Nat.reduceAdd, Nat.reduceSub])
   refine aqQ (op_callQ (b := true) rfl en82 (C82 (p := (c.pieces.getD k default).plate) (q := p.plate)) (RL.cons (by exact View.same rfl) (RL.cons (by exact View.same rfl) (RL.nil))) rfl) ?_; (try simp only [nA, Nat.reduceBEq, Nat.reduceEqDiff, ↓reduceIte, Nat.reduceAdd, Nat.reduceSub])
   refine aqP (op_lss rfl rfl rfl) ?_; (try simp only [nA, Nat.reduceBEq, Nat.reduceEqDiff, ↓reduceIte, Nat.reduceAdd, Nat.reduceSub])
   (refine aqSeg rfl rfl rfl ?_; repeat (first | exact fun _ _ => rfl | refine upd_out rfl ?_))
  refine AQ.nil ?_
  (refine hK _ ?_; clear hK K; (skip))
  refine AW.cond rfl rfl rfl (fun hc => ?_) (fun hc => ?_)
  ·
   (try simp only [hcS] at hc); have hc1 := hc
   refine AW.skip ?_
   (refine hK _ ?_; clear hK K; (skip))
   refine AW.block ?_
   refine AW.region ?_
   refine awP (op_move rfl rfl) ?_; (simp only [nA, Nat.reduceEqDiff, ↓reduceIte])
   (refine awP (op_addi rfl rfl rfl (by omega)) ?_); (try simp only [nA, Nat.reduceBEq, Nat.reduceEqDiff, ↓reduceIte, Nat.reduceAdd, Nat.reduceSub])
   refine awP (op_assign rfl rfl) ?_; (simp only [nA])
   refine AWL.nil ?_
   (try simp only [thenE, inBlk, Nat.reduceEqDiff, ↓reduceIte])
   refine ⟨k + 1, ⟨by omega, fun j hj => by rcases Nat.lt_or_ge j k with h | h; exact hi.2 j h; (obtain rfl : j = k := by omega); exact hc1.2⟩, by omega, ⟨rfl, rfl, rfl, rfl, trivial⟩, (by trivial), (by trivial)⟩
  (try simp only [hcS] at hc); have hc1 := hc; have hk := pos_first hi.1 hi.2 (fun h => by have h1 : (k : Int) < (c.pieces.length : Int) := (by omega); have h2 := h.2; rcases hc1 with h3 | h3 <;> omega); have hins : insC c p = setP c (c.pieces.take k ++ p :: c.pieces.drop k) := (by unfold insC; rw [hk])
  refine AW.exit ?_; (try simp only [thenE, inBlk, Nat.reduceEqDiff, ↓reduceIte])
  clear hK K
  (refine hK _ ?_; clear hK K; (skip))
  (refine AW.seq_k ?_; intro K hK)
  refine AW.region ?_
  refine awJ (op_buildSlice rfl [] [] Tryz.underlying31 ze35 rfl (by simp) rfl (by simp) rfl (bl rfl) (by simp [maxLen])) ?_; (simp only [nA, Nat.reduceBEq, Nat.reduceEqDiff, ↓reduceIte])
  (refine awP (op_fa_ptr rfl rfl rfl fl33_7 (by exact sz31) (by decide) rfl) ?_); (try simp only [nA, Nat.reduceBEq, Nat.reduceEqDiff, ↓reduceIte, Nat.reduceAdd, Nat.reduceSub])
  (refine awR (op_load_ptr1 rfl rfl rfl rfl ag31 rfl rfl) ?_); (try simp only [nA, Nat.reduceBEq, Nat.reduceEqDiff, ↓reduceIte, Nat.reduceAdd, Nat.reduceSub])
  refine awP (op_move rfl rfl) ?_; (simp only [nA, Nat.reduceEqDiff, ↓reduceIte])
  refine awP (op_slice_ro 0 k rfl (.inl rfl) (by exact rfl) (by exact ⟨_, rfl⟩) (Nat.zero_le _) (by simp; omega) Tryz.underlying31 sz35 (av_len c.pieces) (es' := (c.pieces.take k).map Piece.av) (by simp [List.map_take])) ?_; (try simp only [nA, Nat.reduceBEq, Nat.reduceEqDiff, ↓reduceIte, Nat.reduceAdd, Nat.reduceSub])
  refine awJ (op_app rfl rfl rfl rfl rfl .ro Tryz.underlying31 ze35 (by decide) (av_len _) (by simp; omega) (by decide) (List.nil_append _) rfl) ?_; (simp only [nA, Nat.reduceBEq, Nat.reduceEqDiff, ↓reduceIte])
  refine awP (op_assign rfl rfl) ?_; (simp only [nA])
  refine AWL.nil ?_
  (refine hK _ ?_; clear hK K; (skip))
  (refine AW.seq_k ?_; intro K hK)
  refine AW.ado (fun T' => T'.slots[0]? = some (1, .own 33 [c.av]) ∧ T'.slots[1]? = some (2, .own 35 [p.av])) mix rfl ?_
  refine adPo 0 rfl (fun T' ok => op_move rfl rfl) ⟨rfl, rfl⟩ (by kernel_rfl) (by kernel_rfl) ?_; (simp only [nA, Nat.reduceBEq, Nat.reduceEqDiff, ↓reduceIte])
  refine adRo 1 rfl (fun T' ok => op_load_ptr rfl rfl ok.2 rfl ag35 sz35 (bl rfl) rfl) ⟨rfl, rfl⟩ (by kernel_rfl) (by kernel_rfl) ?_; (try simp only [nA, Nat.reduceBEq, Nat.reduceEqDiff, ↓reduceIte, Nat.reduceAdd, Nat.reduceSub])
  refine adPo 4 rfl (fun T' ok => op_fa_ptr rfl rfl ok.1 fl33_7 (by exact sz31) (by decide) rfl) ⟨rfl, rfl⟩ (by kernel_rfl) (by kernel_rfl) ?_; (try simp only [nA, Nat.reduceBEq, Nat.reduceEqDiff, ↓reduceIte, Nat.reduceAdd, Nat.reduceSub])
  refine adRo 5 rfl (fun T' ok => op_load_ptr1 rfl rfl ok.1 rfl ag31 rfl rfl) ⟨rfl, rfl⟩ (by kernel_rfl) (by kernel_rfl) ?_; (try simp only [nA, Nat.reduceBEq, Nat.reduceEqDiff, ↓reduceIte, Nat.reduceAdd, Nat.reduceSub])
  refine adPo 6 rfl (fun T' ok => op_move rfl rfl) ⟨rfl, rfl⟩ (by kernel_rfl) (by kernel_rfl) ?_; (simp only [nA, Nat.reduceEqDiff, ↓reduceIte])
  refine adPo 7 rfl (fun T' ok => op_slice_ro k c.pieces.length rfl (.inl rfl) (by exact ⟨_, rfl⟩) (by simp [bndIs]) hi.1 (by simp) Tryz.underlying31 sz35 (av_len c.pieces) (es' := (c.pieces.drop k).map Piece.av) (by rw [List.map_drop, List.take_of_length_le (by simp)])) ⟨rfl, rfl⟩ (by kernel_rfl) (by kernel_rfl) ?_; (try simp only [nA, Nat.reduceBEq, Nat.reduceEqDiff, ↓reduceIte, Nat.reduceAdd, Nat.reduceSub])
  refine adJo 2 rfl (op_buildSlice rfl [(0, p.av)] [p.av] Tryz.underlying31 ze35 rfl (by simp) rfl (by simp) rfl (bl rfl) (by simp [maxLen])) (by kernel_rfl) ⟨rfl, rfl⟩ ?_; (simp only [nA, Nat.reduceBEq, Nat.reduceEqDiff, ↓reduceIte])
  refine adJo 3 rfl (op_app (rows := [p.av]) rfl rfl rfl rfl (by simp) (.sl (es := [p.av]) rfl rfl) Tryz.underlying31 ze35 (by decide) (by simp) (by simp; omega) (by decide) (es' := (c.pieces.take k ++ [p]).map Piece.av) (by simp [ldc_v]) (n := (c.pieces.take k ++ [p]).length) (by simp)) (by kernel_rfl) ⟨rfl, rfl⟩ ?_; (simp only [nA, Nat.reduceBEq, Nat.reduceEqDiff, ↓reduceIte])
  refine adJo 8 rfl (op_app (rows := (c.pieces.drop k).map Piece.av) rfl rfl rfl rfl (by simp) .ro Tryz.underlying31 ze35 (by decide) (av_len _) (by simp; omega) (by decide) (es' := (c.pieces.take k ++ p :: c.pieces.drop k).map Piece.av) (by simp) (n := (c.pieces.take k ++ p :: c.pieces.drop k).length) (by simp; omega)) (by kernel_rfl) ⟨rfl, rfl⟩ ?_; (simp only [nA, Nat.reduceBEq, Nat.reduceEqDiff, ↓reduceIte])
  refine adPo 9 rfl (fun T' ok => op_fa_ptr rfl rfl ok.1 fl33_7 (by exact sz31) (by decide) rfl) ⟨rfl, rfl⟩ (by kernel_rfl) (by kernel_rfl) ?_; (try simp only [nA, Nat.reduceBEq, Nat.reduceEqDiff, ↓reduceIte, Nat.reduceAdd, Nat.reduceSub])
  refine adLo 10 rfl (op_store_nest rfl rfl rfl rfl (row := c.av) rfl sz31 rfl (by decide) (by simp) (by simp) (es2 := [oav (setP c (c.pieces.take k ++ p :: c.pieces.drop k))]) rfl) (by kernel_rfl) (by kernel_rfl) ?_; (try simp only [nA, Nat.reduceBEq, Nat.reduceEqDiff, ↓reduceIte, Nat.reduceAdd, Nat.reduceSub])
  refine adDoneo (by kernel_rfl) ?_
  (refine hK _ ?_; clear hK K; (skip))
  (refine AW.seq_k ?_; intro K hK)
  refine AW.region ?_
  refine AWL.gh (Gh.freezeC (r := 0) (es := [oav (setP c (c.pieces.take k ++ p :: c.pieces.drop k))]) (row := oav (setP c (c.pieces.take k ++ p :: c.pieces.drop k))) 0 10 rfl rfl rfl (av_flat (c.pieces.take k ++ p :: c.pieces.drop k)) (es2 := [(setP c (c.pieces.take k ++ p :: c.pieces.drop k)).av]) rfl) ?_; (try simp only [nA, Nat.reduceBEq, Nat.reduceEqDiff, ↓reduceIte, Nat.reduceAdd, Nat.reduceSub]); (refine awR (op_load_ptr rfl rfl rfl rfl ag33 sz33 (bl rfl) rfl) ?_); (try simp only [nA, Nat.reduceBEq, Nat.reduceEqDiff, ↓reduceIte, Nat.reduceAdd, Nat.reduceSub])
  refine awJ (op_store rfl rfl rfl rfl rfl rfl sz33 rfl (bl rfl) rfl) ?_; (try simp only [nA, Nat.reduceBEq, Nat.reduceEqDiff, ↓reduceIte, Nat.reduceAdd, Nat.reduceSub])
  refine AWL.nil ?_
  (refine hK _ ?_; clear hK K; (skip))
  skip
  refine AW.ret ?_; (try simp only [thenE, inBlk, Nat.reduceEqDiff, ↓reduceIte]); rw [hins]; exact RQ.of0 rfl (.cell (bl rfl) rfl rfl rfl ag33 sz33 (bl rfl) rfl rfl .nil)
set_option maxHeartbeats 8000000 in
theorem C33 {c : Container} {p : Piece} : Fn Tryz.prog 33 [] [.agg c.av, .agg p.av] [.agg (putC c p true).1.av, .v (.int .i64 (putC c p true).2)] [] := by
  refine Spec.body Tryz.func33 rfl Tryz.ntmps33 (by simp) rfl ?_; intro S0 own0 v0 w0
  (refine AW.seq_k ?_; intro K hK)
  refine AW.region ?_
  refine awJ (op_box rfl rfl rfl sz33 rfl) ?_; (simp only [nA, Nat.reduceBEq, Nat.reduceEqDiff, ↓reduceIte])
  refine awJ (op_box rfl rfl rfl sz35 rfl) ?_; (simp only [nA, Nat.reduceBEq, Nat.reduceEqDiff, ↓reduceIte])
  refine awJ (op_alloc rfl ze33 rfl) ?_; (simp only [nA, Nat.reduceBEq, Nat.reduceEqDiff, ↓reduceIte])
  refine awP (op_assign rfl rfl) ?_; (try simp only [nA, Nat.reduceBEq, Nat.reduceEqDiff, ↓reduceIte, Nat.reduceAdd, Nat.reduceSub])
  refine AWL.nil ?_
  (refine hK _ ?_; clear hK K; (try simp only [nA, Nat.reduceBEq, Nat.reduceEqDiff, ↓reduceIte, Nat.reduceAdd, Nat.reduceSub]))
  (refine AW.seq_k ?_; intro K hK)
  (refine AW.seq_k ?_; intro K hK)
  refine AW.region ?_
  (refine awR (op_load_ptr rfl rfl rfl rfl ag33 sz33 (bl rfl) rfl) ?_); (try simp only [nA, Nat.reduceBEq, Nat.reduceEqDiff, ↓reduceIte, Nat.reduceAdd, Nat.reduceSub])
  refine awJ (OpQ.j (op_callQ (b := true) rfl en55 (C55 (c := c)) (RL.cons (by exact View.same rfl) (RL.nil)) rfl)) ?_; (try simp only [nA, Nat.reduceBEq, Nat.reduceEqDiff, ↓reduceIte, Nat.reduceAdd, Nat.reduceSub])
  refine awP (op_assign rfl rfl) ?_; (simp only [nA])
  refine AWL.nil ?_
  (refine hK _ ?_; clear hK K; (skip))
  (refine AW.seq_k ?_; intro K hK)
  refine AW.region ?_
  refine awP (op_move rfl rfl) ?_; (simp only [nA])
  (refine awP (op_neq rfl rfl rfl) ?_); (try simp only [nA, Nat.reduceBEq, Nat.reduceEqDiff, ↓reduceIte, Nat.reduceAdd, Nat.reduceSub])
  refine AWL.nil ?_
  (refine hK _ ?_; clear hK K; (skip))
  refine AW.cond rfl rfl rfl (fun hc => ?_) (fun hc => ?_)
  ·
   (try simp only [hcS] at hc); have hc1 := hc
   (refine AW.seq_k ?_; intro K hK)
   refine AW.region ?_
   refine awP (op_build2 (xs := [.v (.int .i64 0), .v (.string ⟨#[]⟩), .v (.int .i64 0), .v (.string ⟨#[]⟩), .v (.int .i64 0), .v (.int .i64 0), .v (.int .i64 0), .v (.int .i64 0), .v (.int .i64 0), .v (.int .i64 0), .v (.slice none 0 0)]) rfl pl33 ze33 [] rfl rfl rfl) ?_; (try simp only [nA, Nat.reduceBEq, Nat.reduceEqDiff, ↓reduceIte, Nat.reduceAdd, Nat.reduceSub])
   refine awP (op_move rfl rfl) ?_; (simp only [nA, ↓reduceIte])
   refine awJ (op_store rfl rfl rfl rfl rfl rfl sz33 rfl (bl rfl) rfl) ?_; (simp only [nA, Nat.reduceBEq, Nat.reduceEqDiff, ↓reduceIte])
   refine awP (op_assign rfl rfl) ?_; (simp only [nA])
   refine AWL.nil ?_
   (refine hK _ ?_; clear hK K; (skip))
   refine AW.gh (Gh.slot (r := 2) (es' := [zeroC.av]) rfl rfl zero_le) ?_; (try simp only [nA, Nat.reduceBEq, Nat.reduceEqDiff, ↓reduceIte, Nat.reduceAdd, Nat.reduceSub])
   refine AW.ret ?_; (try simp only [thenE, inBlk, Nat.reduceEqDiff, ↓reduceIte]); have he : putC c p true = (zeroC, valC c) := (by unfold putC; rw [if_pos (by simpa using hc)]); rw [he]; exact RQ.of0 rfl (.cell (bl rfl) rfl rfl rfl ag33 sz33 (bl rfl) rfl rfl (.tmp (bl rfl) rfl rfl .nil))
  (try simp only [hcS] at hc); have hc1 := hc; have hv := val_inv (c := c) (by simpa using hc1); have hv0 : valC c = 0 := (by simpa using hc1); have hfh := found_has (p := p.plate) (val_asc hv0); have hvw := val_w hv0; have hsb := sum_bd _ hvw
  refine AW.skip ?_
  (refine hK _ ?_; clear hK K; (skip))
  (refine AW.seq_k ?_; intro K hK)
  (refine AW.seq_k ?_; intro K hK)
  refine AW.region ?_
  (refine awR (op_load_ptr rfl rfl rfl rfl ag35 sz35 (bl rfl) rfl) ?_); (try simp only [nA, Nat.reduceBEq, Nat.reduceEqDiff, ↓reduceIte, Nat.reduceAdd, Nat.reduceSub])
  refine awJ (OpQ.j (op_callQ (b := true) rfl en44 (C44 (p := p)) (RL.cons (by exact View.same rfl) (RL.nil)) rfl)) ?_; (try simp only [nA, Nat.reduceBEq, Nat.reduceEqDiff, ↓reduceIte, Nat.reduceAdd, Nat.reduceSub])
  refine awP (op_not rfl rfl rfl) ?_; (try simp only [nA, Nat.reduceBEq, Nat.reduceEqDiff, ↓reduceIte, Nat.reduceAdd, Nat.reduceSub])
  refine AWL.nil ?_
  (refine hK _ ?_; clear hK K; (skip))
  refine AW.cond rfl rfl rfl (fun hc => ?_) (fun hc => ?_)
  ·
   (try simp only [hcS] at hc); have hc2 := hc
   (refine AW.seq_k ?_; intro K hK)
   refine AW.region ?_
   refine awP (op_build2 (xs := [.v (.int .i64 0), .v (.string ⟨#[]⟩), .v (.int .i64 0), .v (.string ⟨#[]⟩), .v (.int .i64 0), .v (.int .i64 0), .v (.int .i64 0), .v (.int .i64 0), .v (.int .i64 0), .v (.int .i64 0), .v (.slice none 0 0)]) rfl pl33 ze33 [] rfl rfl rfl) ?_; (try simp only [nA, Nat.reduceBEq, Nat.reduceEqDiff, ↓reduceIte, Nat.reduceAdd, Nat.reduceSub])
   refine awJ (op_store rfl rfl rfl rfl rfl rfl sz33 rfl (bl rfl) rfl) ?_; (simp only [nA, Nat.reduceBEq, Nat.reduceEqDiff, ↓reduceIte])
   refine awP (op_assign rfl rfl) ?_; (try simp only [nA, Nat.reduceBEq, Nat.reduceEqDiff, ↓reduceIte, Nat.reduceAdd, Nat.reduceSub])
   refine AWL.nil ?_
   (refine hK _ ?_; clear hK K; (skip))
   refine AW.gh (Gh.slot (r := 2) (es' := [zeroC.av]) rfl rfl zero_le) ?_; (try simp only [nA, Nat.reduceBEq, Nat.reduceEqDiff, ↓reduceIte, Nat.reduceAdd, Nat.reduceSub])
   refine AW.ret ?_; (try simp only [thenE, inBlk, Nat.reduceEqDiff, ↓reduceIte]); have he : putC c p true = (zeroC, 1) := (by unfold putC; rw [if_neg (by simp [hv0]), if_pos (by simpa using hc)]); rw [he]; exact RQ.of0 rfl (.cell (bl rfl) rfl rfl rfl ag33 sz33 (bl rfl) rfl rfl (.tmp (bl rfl) rfl rfl .nil))
  (try simp only [hcS] at hc); have hc2 := hc; have hp1 : piB p = true := (by simpa using hc2); have hpi := piB_inv hp1
  refine AW.skip ?_
  (refine hK _ ?_; clear hK K; (skip))
  (refine AW.seq_k ?_; intro K hK)
  (refine AW.seq_k ?_; intro K hK)
  refine AW.region ?_
  (refine awR (op_load_ptr rfl rfl rfl rfl ag33 sz33 (bl rfl) rfl) ?_); (try simp only [nA, Nat.reduceBEq, Nat.reduceEqDiff, ↓reduceIte, Nat.reduceAdd, Nat.reduceSub])
  (refine awP (op_fa_ptr rfl rfl rfl fl35_0 (by exact sz23) (by decide) rfl) ?_); (try simp only [nA, Nat.reduceBEq, Nat.reduceEqDiff, ↓reduceIte, Nat.reduceAdd, Nat.reduceSub])
  (refine awR (op_load_ptr rfl rfl rfl rfl ag23 sz23 (bl rfl) rfl) ?_); (try simp only [nA, Nat.reduceBEq, Nat.reduceEqDiff, ↓reduceIte, Nat.reduceAdd, Nat.reduceSub])
  refine awJ (OpQ.j (op_callQ (b := true) rfl en56 (C56 (c := c) (p := p.plate) (by omega)) (RL.cons (by exact View.same rfl) (RL.cons (by exact View.same rfl) (RL.nil))) rfl)) ?_; (try simp only [nA, Nat.reduceBEq, Nat.reduceEqDiff, ↓reduceIte, Nat.reduceAdd, Nat.reduceSub])
  refine AWL.nil ?_
  (refine hK _ ?_; clear hK K; (skip))
  refine AW.cond rfl rfl rfl (fun hc => ?_) (fun hc => ?_)
  ·
   (try simp only [hcS] at hc); have hc3 := hc
   (refine AW.seq_k ?_; intro K hK)
   refine AW.region ?_
   refine awP (op_build2 (xs := [.v (.int .i64 0), .v (.string ⟨#[]⟩), .v (.int .i64 0), .v (.string ⟨#[]⟩), .v (.int .i64 0), .v (.int .i64 0), .v (.int .i64 0), .v (.int .i64 0), .v (.int .i64 0), .v (.int .i64 0), .v (.slice none 0 0)]) rfl pl33 ze33 [] rfl rfl rfl) ?_; (try simp only [nA, Nat.reduceBEq, Nat.reduceEqDiff, ↓reduceIte, Nat.reduceAdd, Nat.reduceSub])
   refine awJ (op_store rfl rfl rfl rfl rfl rfl sz33 rfl (bl rfl) rfl) ?_; (simp only [nA, Nat.reduceBEq, Nat.reduceEqDiff, ↓reduceIte])
   refine awP (op_assign rfl rfl) ?_; (try simp only [nA, Nat.reduceBEq, Nat.reduceEqDiff, ↓reduceIte, Nat.reduceAdd, Nat.reduceSub])
   refine AWL.nil ?_
   (refine hK _ ?_; clear hK K; (skip))
   refine AW.gh (Gh.slot (r := 2) (es' := [zeroC.av]) rfl rfl zero_le) ?_; (try simp only [nA, Nat.reduceBEq, Nat.reduceEqDiff, ↓reduceIte, Nat.reduceAdd, Nat.reduceSub])
   refine AW.ret ?_; (try simp only [thenE, inBlk, Nat.reduceEqDiff, ↓reduceIte]); have he : putC c p true = (zeroC, 5) := (by rw [put_eq hv0 hp1, hfh, if_pos (by simpa using hc)]); rw [he]; exact RQ.of0 rfl (.cell (bl rfl) rfl rfl rfl ag33 sz33 (bl rfl) rfl rfl (.tmp (bl rfl) rfl rfl .nil))
  (try simp only [hcS] at hc); have hc3 := hc
  refine AW.skip ?_
  (refine hK _ ?_; clear hK K; (skip))
  (refine AW.seq_k ?_; intro K hK)
  (refine AW.seq_k ?_; intro K hK)
  refine AW.region ?_
  (refine awR (op_load_ptr rfl rfl rfl rfl ag33 sz33 (bl rfl) rfl) ?_); (try simp only [nA, Nat.reduceBEq, Nat.reduceEqDiff, ↓reduceIte, Nat.reduceAdd, Nat.reduceSub])
  (refine awP (op_fa_ptr rfl rfl rfl fl35_2 (by exact sz3) (by decide) rfl) ?_); (try simp only [nA, Nat.reduceBEq, Nat.reduceEqDiff, ↓reduceIte, Nat.reduceAdd, Nat.reduceSub])
  (refine awR (op_load_ptr1 rfl rfl rfl rfl ag3 rfl rfl) ?_); (try simp only [nA, Nat.reduceBEq, Nat.reduceEqDiff, ↓reduceIte, Nat.reduceAdd, Nat.reduceSub])
  refine awJ (OpQ.j (op_callQ (b := true) rfl en57 (C57 (c := c) (cat := p.category)) (RL.cons (by exact View.same rfl) (RL.cons (by exact View.same rfl) (RL.nil))) rfl)) ?_; (try simp only [nA, Nat.reduceBEq, Nat.reduceEqDiff, ↓reduceIte, Nat.reduceAdd, Nat.reduceSub])
  refine awP (op_not rfl rfl rfl) ?_; (try simp only [nA, Nat.reduceBEq, Nat.reduceEqDiff, ↓reduceIte, Nat.reduceAdd, Nat.reduceSub])
  refine AWL.nil ?_
  (refine hK _ ?_; clear hK K; (skip))
  refine AW.cond rfl rfl rfl (fun hc => ?_) (fun hc => ?_)
  ·
   (try simp only [hcS] at hc); have hc4 := hc; have hb4 : bitB c.categories p.category = false := (by rcases hc4 with (h | h) | h; omega; omega; exact h)
   (refine AW.seq_k ?_; intro K hK)
   refine AW.region ?_
   refine awP (op_build2 (xs := [.v (.int .i64 0), .v (.string ⟨#[]⟩), .v (.int .i64 0), .v (.string ⟨#[]⟩), .v (.int .i64 0), .v (.int .i64 0), .v (.int .i64 0), .v (.int .i64 0), .v (.int .i64 0), .v (.int .i64 0), .v (.slice none 0 0)]) rfl pl33 ze33 [] rfl rfl rfl) ?_; (try simp only [nA, Nat.reduceBEq, Nat.reduceEqDiff, ↓reduceIte, Nat.reduceAdd, Nat.reduceSub])
   refine awJ (op_store rfl rfl rfl rfl rfl rfl sz33 rfl (bl rfl) rfl) ?_; (simp only [nA, Nat.reduceBEq, Nat.reduceEqDiff, ↓reduceIte])
   refine awP (op_assign rfl rfl) ?_; (try simp only [nA, Nat.reduceBEq, Nat.reduceEqDiff, ↓reduceIte, Nat.reduceAdd, Nat.reduceSub])
   refine AWL.nil ?_
   (refine hK _ ?_; clear hK K; (skip))
   refine AW.gh (Gh.slot (r := 2) (es' := [zeroC.av]) rfl rfl zero_le) ?_; (try simp only [nA, Nat.reduceBEq, Nat.reduceEqDiff, ↓reduceIte, Nat.reduceAdd, Nat.reduceSub])
   refine AW.ret ?_; (try simp only [thenE, inBlk, Nat.reduceEqDiff, ↓reduceIte]); have he : putC c p true = (zeroC, 4) := (by rw [put_eq hv0 hp1, hfh, if_neg (by simpa using hc3), if_pos (by simp [hb4])]); rw [he]; exact RQ.of0 rfl (.cell (bl rfl) rfl rfl rfl ag33 sz33 (bl rfl) rfl rfl (.tmp (bl rfl) rfl rfl .nil))
  (try simp only [hcS] at hc); have hc4 := hc; have hb4 : bitB c.categories p.category = true := hc4.2
  refine AW.skip ?_
  (refine hK _ ?_; clear hK K; (skip))
  (refine AW.seq_k ?_; intro K hK)
  (refine AW.seq_k ?_; intro K hK)
  refine AW.quiet mix (by kernel_rfl) ?_
  (refine aqP (op_fa_ptr rfl rfl rfl fl33_7 (by exact sz31) (by decide) rfl) ?_); (try simp only [nA, Nat.reduceBEq, Nat.reduceEqDiff, ↓reduceIte, Nat.reduceAdd, Nat.reduceSub])
  (refine aqR (op_load_ptr1 rfl rfl rfl rfl ag31 rfl rfl) ?_); (try simp only [nA, Nat.reduceBEq, Nat.reduceEqDiff, ↓reduceIte, Nat.reduceAdd, Nat.reduceSub])
  (refine aqP (op_len_ro rfl rfl Tryz.underlying31 (by exact .inr (.inl ⟨_, rfl, rfl⟩))) ?_); (try simp only [nA, Nat.reduceBEq, Nat.reduceEqDiff, ↓reduceIte, Nat.reduceAdd, Nat.reduceSub])
  (refine aqP (op_fa_ptr rfl rfl rfl fl33_4 (by exact sz3) (by decide) rfl) ?_); (try simp only [nA, Nat.reduceBEq, Nat.reduceEqDiff, ↓reduceIte, Nat.reduceAdd, Nat.reduceSub])
  (refine aqR (op_load_ptr1 rfl rfl rfl rfl ag3 rfl rfl) ?_); (try simp only [nA, Nat.reduceBEq, Nat.reduceEqDiff, ↓reduceIte, Nat.reduceAdd, Nat.reduceSub])
  refine aqP (op_geq rfl rfl rfl) ?_; (try simp only [nA, Nat.reduceBEq, Nat.reduceEqDiff, ↓reduceIte, Nat.reduceAdd, Nat.reduceSub])
  refine aqP (op_move rfl rfl) ?_; (simp only [nA])
  refine' aqOr' [_, _, _, _, _, _, _, _, _] [35,36,37,38,39,40,41,42,43] rfl rfl rfl rfl rfl rfl rfl rfl rfl rfl rfl rfl (fun hb => ?_) ?_; rotate_left
  ·
   (try simp only [hcS] at hb)
   (refine aqP (op_fa_ptr rfl rfl rfl fl33_7 (by exact sz31) (by decide) rfl) ?_); (try simp only [nA, Nat.reduceBEq, Nat.reduceEqDiff, ↓reduceIte, Nat.reduceAdd, Nat.reduceSub])
   (refine aqR (op_load_ptr1 rfl rfl rfl rfl ag31 rfl rfl) ?_); (try simp only [nA, Nat.reduceBEq, Nat.reduceEqDiff, ↓reduceIte, Nat.reduceAdd, Nat.reduceSub])
   refine aqQ (op_callQ (b := true) rfl en58 (C58 (l := c.pieces) (by omega) hvw) (RL.cons (by exact View.same rfl) (RL.nil)) rfl) ?_; (try simp only [nA, Nat.reduceBEq, Nat.reduceEqDiff, ↓reduceIte, Nat.reduceAdd, Nat.reduceSub])
   (refine aqP (op_fa_ptr rfl rfl rfl fl35_1 (by exact sz3) (by decide) rfl) ?_); (try simp only [nA, Nat.reduceBEq, Nat.reduceEqDiff, ↓reduceIte, Nat.reduceAdd, Nat.reduceSub])
   (refine aqR (op_load_ptr1 rfl rfl rfl rfl ag3 rfl rfl) ?_); (try simp only [nA, Nat.reduceBEq, Nat.reduceEqDiff, ↓reduceIte, Nat.reduceAdd, Nat.reduceSub])
   (refine aqP (op_addi rfl rfl rfl (by omega)) ?_); (try simp only [nA, Nat.reduceBEq, Nat.reduceEqDiff, ↓reduceIte, Nat.reduceAdd, Nat.reduceSub])
   (refine aqP (op_fa_ptr rfl rfl rfl fl33_3 (by exact sz3) (by decide) rfl) ?_); (try simp only [nA, Nat.reduceBEq, Nat.reduceEqDiff, ↓reduceIte, Nat.reduceAdd, Nat.reduceSub])
   (refine aqR (op_load_ptr1 rfl rfl rfl rfl ag3 rfl rfl) ?_); (try simp only [nA, Nat.reduceBEq, Nat.reduceEqDiff, ↓reduceIte, Nat.reduceAdd, Nat.reduceSub])
   refine aqP (op_gtr rfl rfl rfl) ?_; (try simp only [nA, Nat.reduceBEq, Nat.reduceEqDiff, ↓reduceIte, Nat.reduceAdd, Nat.reduceSub])
   (refine aqSeg rfl rfl rfl ?_; repeat (first | exact fun _ _ => rfl | refine upd_out rfl ?_))
  refine AQ.nil ?_
  (refine hK _ ?_; clear hK K; (skip))
  refine AW.cond rfl rfl rfl (fun hc => ?_) (fun hc => ?_)
  ·
   (try simp only [hcS] at hc); have hc5 := hc
   (refine AW.seq_k ?_; intro K hK)
   refine AW.region ?_
   refine awP (op_build2 (xs := [.v (.int .i64 0), .v (.string ⟨#[]⟩), .v (.int .i64 0), .v (.string ⟨#[]⟩), .v (.int .i64 0), .v (.int .i64 0), .v (.int .i64 0), .v (.int .i64 0), .v (.int .i64 0), .v (.int .i64 0), .v (.slice none 0 0)]) rfl pl33 ze33 [] rfl rfl rfl) ?_; (try simp only [nA, Nat.reduceBEq, Nat.reduceEqDiff, ↓reduceIte, Nat.reduceAdd, Nat.reduceSub])
   refine awJ (op_store rfl rfl rfl rfl rfl rfl sz33 rfl (bl rfl) rfl) ?_; (simp only [nA, Nat.reduceBEq, Nat.reduceEqDiff, ↓reduceIte])
   refine awP (op_assign rfl rfl) ?_; (try simp only [nA, Nat.reduceBEq, Nat.reduceEqDiff, ↓reduceIte, Nat.reduceAdd, Nat.reduceSub])
   refine AWL.nil ?_
   (refine hK _ ?_; clear hK K; (skip))
   refine AW.gh (Gh.slot (r := 2) (es' := [zeroC.av]) rfl rfl zero_le) ?_; (try simp only [nA, Nat.reduceBEq, Nat.reduceEqDiff, ↓reduceIte, Nat.reduceAdd, Nat.reduceSub])
   refine AW.ret ?_; (try simp only [thenE, inBlk, Nat.reduceEqDiff, ↓reduceIte]); have he : putC c p true = (zeroC, 8) := (by rw [put_eq hv0 hp1, hfh, if_neg (by simpa using hc3), if_neg (by simp [hb4]), if_pos (by unfold fullB; simpa using hc)]); rw [he]; exact RQ.of0 rfl (.cell (bl rfl) rfl rfl rfl ag33 sz33 (bl rfl) rfl rfl (.tmp (bl rfl) rfl rfl .nil))
  (try simp only [hcS] at hc); have hc5 := hc; have hcm : c.most ≤ 60 := (by have := hv.1; unfold coB inB at this; simp at this; omega); have hf5 : fullB c p = false := (by unfold fullB; simp; omega)
  refine AW.skip ?_
  (refine hK _ ?_; clear hK K; (skip))
  (refine AW.seq_k ?_; intro K hK)
  refine AW.region ?_
  (refine awR (op_load_ptr rfl rfl rfl rfl ag33 sz33 (bl rfl) rfl) ?_); (try simp only [nA, Nat.reduceBEq, Nat.reduceEqDiff, ↓reduceIte, Nat.reduceAdd, Nat.reduceSub])
  (refine awR (op_load_ptr rfl rfl rfl rfl ag35 sz35 (bl rfl) rfl) ?_); (try simp only [nA, Nat.reduceBEq, Nat.reduceEqDiff, ↓reduceIte, Nat.reduceAdd, Nat.reduceSub])
  refine awJ (op_call (b := false) rfl en59 (C59 (c := c) (p := p) (by omega)) (RL.cons (by exact View.same rfl) (RL.cons (by exact View.same rfl) (RL.nil))) rfl (fun h => by cases h) rfl rfl) ?_; (try simp only [nA, Nat.reduceBEq, Nat.reduceEqDiff, ↓reduceIte, Nat.reduceAdd, Nat.reduceSub])
  refine awJ (op_store rfl rfl rfl rfl rfl rfl sz33 rfl (bl rfl) rfl) ?_; (simp only [nA, Nat.reduceBEq, Nat.reduceEqDiff, ↓reduceIte])
  refine awP (op_assign rfl rfl) ?_; (try simp only [nA, Nat.reduceBEq, Nat.reduceEqDiff, ↓reduceIte, Nat.reduceAdd, Nat.reduceSub])
  refine AWL.nil ?_
  (refine hK _ ?_; clear hK K; (skip))
  skip
  refine AW.ret ?_; (try simp only [thenE, inBlk, Nat.reduceEqDiff, ↓reduceIte]); have he : putC c p true = (insC c p, 0) := (by rw [put_eq hv0 hp1, hfh, if_neg (by simpa using hc3), if_neg (by simp [hb4]), if_neg (by simp [hf5]), if_neg (by omega)]); rw [he]; exact RQ.of0 rfl (.cell (bl rfl) rfl rfl rfl ag33 sz33 (bl rfl) rfl rfl (.tmp (bl rfl) rfl rfl .nil))
end Go.Proofs.YtmdohphcolffmaaGreat
namespace Go.Proofs.YtmdohphcolffmaaGreat
open Go.RowKit
set_option linter.unusedSimpArgs false
set_option linter.unusedVariables false
set_option maxRecDepth 100000
structure Leg where
  fl : Flight
  port : ByteArray
  cls : ByteArray
abbrev Leg.av (g : Leg) : List AV := [.v (.string g.fl.carrier), .v (.int .i64 g.fl.number), .v (.string g.fl.suffix), .v (.int .i64 g.fl.day), .v (.string g.port), .v (.string g.cls)]
structure BagR where
  plate : Plate
  inn : Leg
  out : Leg
  onw : List (List AV)
  seq : Int
  status : Int
  weight : Int
  load : Bool
  sn : ByteArray
  gn : ByteArray
  exc : Int
  node : ByteArray
  unl : Bool
abbrev BagR.av (b : BagR) : List AV := [.v (.int .i64 b.plate.lead), .v (.int .i64 b.plate.airline), .v (.int .i64 b.plate.serial),
  .v (.string b.inn.fl.carrier), .v (.int .i64 b.inn.fl.number), .v (.string b.inn.fl.suffix), .v (.int .i64 b.inn.fl.day), .v (.string b.inn.port), .v (.string b.inn.cls),
  .v (.string b.out.fl.carrier), .v (.int .i64 b.out.fl.number), .v (.string b.out.fl.suffix), .v (.int .i64 b.out.fl.day), .v (.string b.out.port), .v (.string b.out.cls),
  .ro b.onw, .v (.int .i64 b.seq), .v (.int .i64 b.status), .v (.int .i64 b.weight), .v (.bool b.load), .v (.string b.sn), .v (.string b.gn), .v (.int .i64 b.exc), .v (.string b.node), .v (.bool b.unl)]
def legEq (g h : Leg) : Bool := flEq g.fl h.fl && ((g.port.toList == h.port.toList) && (g.cls.toList == h.cls.toList))
abbrev leg0 : Leg := ⟨⟨⟨#[]⟩, 0, ⟨#[]⟩, 0⟩, ⟨#[]⟩, ⟨#[]⟩⟩
def catV (b : BagR) : Int := if b.exc = 1 then 4 else if b.exc = 2 then 3 else if legEq b.inn leg0 = false then 1 else if (b.out.cls.toList == (⟨#[70]⟩ : ByteArray).toList) = true then 2 else 0
theorem st27 : Tryz.prog.stoodInHeld 27 = false := by kernel_rfl
theorem fo27 : Tryz.prog.underlying 27 = some (.struct (Tryz.prog.fieldsOf 27)) := by
  unfold Program.fieldsOf; rw [Tryz.underlying27]
theorem ty27 : Tryz.prog.eqGuardType Tryz.prog.depth 27 = false := by kernel_rfl
theorem run_neq27 (p q : Leg) (w : World) : (binOp .neq 27 (.agg #[.string p.fl.carrier, .int .i64 p.fl.number, .string p.fl.suffix, .int .i64 p.fl.day, .string p.port, .string p.cls]) (.agg #[.string q.fl.carrier, .int .i64 q.fl.number, .string q.fl.suffix, .int .i64 q.fl.day, .string q.port, .string q.cls])).run Tryz.prog w = .ok (.bool (!legEq p q)) w := by
  obtain ⟨⟨a, b, c, d⟩, e, f⟩ := p
  obtain ⟨⟨a', b', c', d'⟩, e', f'⟩ := q
  unfold binOp
  simp only [Op.equal]
  rw [Sem.run_bind, show Op.maxDepth = 9997 + 1 + 1 + 1 from rfl, run_equalIn_struct w _ 27 _ _ fo27 st27]
  unfold Program.fieldsOf; rw [Tryz.underlying27]
  simp only [Op.eqFields]
  go_simp
  unfold legEq flEq
  by_cases h1 : a.toList = a'.toList <;> by_cases h2 : b = b' <;> by_cases h3 : c.toList = c'.toList <;> by_cases h4 : d = d' <;> by_cases h5 : e.toList = e'.toList <;> by_cases h6 : f.toList = f'.toList <;> simp [h1, h2, h3, h4, h5, h6]
theorem run_tyn27 (p q : Operand) (x y : Array Value) (w : World) : (eqGuard .neq 27 p q (.agg x) (.agg y)).run Tryz.prog w = .ok () w := by
  unfold eqGuard
  simp [ty27, run_program]
section
variable {S0 : Nat → Prop} {own0 : List Nat} {v0 : List Value} {w0 : World} {o : Oper} {ev : Operand → AV} {T : Sl} {yt : TypeId} {y z : Operand}
theorem op_neq27 {p q : Leg} (ho : o.op = .binOp .neq 27 y z yt) (hy : ev y = .agg p.av) (hz : ev z = .agg q.av) : OpP ⟨Tryz.prog, S0, own0, v0, w0⟩ o ev T (.v (.bool (!legEq p q))) :=
  op_bin_agg (xs := [.string p.fl.carrier, .int .i64 p.fl.number, .string p.fl.suffix, .int .i64 p.fl.day, .string p.port, .string p.cls]) (ys := [.string q.fl.carrier, .int .i64 q.fl.number, .string q.fl.suffix, .int .i64 q.fl.day, .string q.port, .string q.cls]) ho hy hz (fun w => run_tyn27 _ _ _ _ w) (fun w => run_neq27 p q w) rfl
end
theorem pl27 : plIs Tryz.prog 27 [(0, 4), (4, 1), (5, 1)] := ⟨_, Tryz.underlying27, by kernel_rfl⟩
set_option maxHeartbeats 8000000 in
theorem C8g {b : BagR} : Fn Tryz.prog 8 [] [.agg b.av] [.v (.int .i64 (catV b))] [] := by
  refine Spec.body Tryz.func8 rfl Tryz.ntmps8 (by simp) rfl ?_; intro S0 own0 v0 w0
  (refine AW.seq_k ?_; intro K hK)
  refine AW.region ?_
  refine awJ (op_box rfl rfl rfl sz30 rfl) ?_; (simp only [nA, Nat.reduceBEq, Nat.reduceEqDiff, ↓reduceIte])
  refine awP (op_assign rfl rfl) ?_
  refine AWL.nil ?_
  (refine hK _ ?_; clear hK K; (try simp only [nA, Nat.reduceBEq, Nat.reduceEqDiff, ↓reduceIte, Nat.reduceAdd, Nat.reduceSub]))
  (refine AW.seq_k ?_; intro K hK)
  refine AW.block ?_
  (refine AW.seq_k ?_; intro K hK)
  refine AW.region ?_
  (refine awP (op_fa_ptr rfl rfl rfl fl30_10 (by exact sz3) (by decide) rfl) ?_)
  (refine awR (op_load_ptr1 rfl rfl rfl rfl ag3 rfl rfl) ?_)
  (refine awP (op_eql rfl rfl rfl) ?_)
  refine awP (op_assign rfl rfl) ?_
  refine AWL.nil ?_
  (refine hK _ ?_; clear hK K; (simp only [nA]))
  refine AW.cond rfl rfl rfl (fun hc => ?_) (fun hc => ?_)
  ·
   have hc1 := hc; have g1 : b.exc = 1 := (by simpa using hc1)
   (refine AW.seq_k ?_; intro K hK)
   refine AW.region ?_
   refine awP (op_assign rfl rfl) ?_
   refine AWL.nil ?_
   (refine hK _ ?_; clear hK K; (try simp only [nA, Nat.reduceBEq, Nat.reduceEqDiff, ↓reduceIte, Nat.reduceAdd, Nat.reduceSub]))
   skip
   refine AW.ret ?_; (try simp only [thenE, inBlk, Nat.reduceEqDiff, ↓reduceIte]); rw [show catV b = 4 by unfold catV; rw [if_pos g1]]; exact RQ.of0 rfl (.tmp (bl rfl) rfl rfl .nil)
  have hc1 := hc; have g1 : ¬ b.exc = 1 := (by simpa using hc1)
  (refine AW.seq_k ?_; intro K hK)
  refine AW.region ?_
  (refine awP (op_fa_ptr rfl rfl rfl fl30_10 (by exact sz3) (by decide) rfl) ?_)
  (refine awR (op_load_ptr1 rfl rfl rfl rfl ag3 rfl rfl) ?_)
  (refine awP (op_eql rfl rfl rfl) ?_)
  refine awP (op_assign rfl rfl) ?_
  refine AWL.nil ?_
  (refine hK _ ?_; clear hK K; (simp only [nA]))
  refine AW.cond rfl rfl rfl (fun hc => ?_) (fun hc => ?_)
  ·
   have hc2 := hc; have g2 : b.exc = 2 := (by simpa using hc2)
   (refine AW.seq_k ?_; intro K hK)
   refine AW.region ?_
   refine awP (op_assign rfl rfl) ?_
   refine AWL.nil ?_
   (refine hK _ ?_; clear hK K; (try simp only [nA, Nat.reduceBEq, Nat.reduceEqDiff, ↓reduceIte, Nat.reduceAdd, Nat.reduceSub]))
   skip
   refine AW.ret ?_; (try simp only [thenE, inBlk, Nat.reduceEqDiff, ↓reduceIte]); rw [show catV b = 3 by unfold catV; rw [if_neg g1, if_pos g2]]; exact RQ.of0 rfl (.tmp (bl rfl) rfl rfl .nil)
  have hc2 := hc; have g2 : ¬ b.exc = 2 := (by simpa using hc2)
  (refine AW.seq_k ?_; intro K hK)
  refine AW.region ?_
  (refine awP (op_fa_ptr rfl rfl rfl fl30_1 (by exact sz27) (by decide) rfl) ?_)
  (refine awR (op_load_ptr rfl rfl rfl rfl ag27 sz27 (bl rfl) rfl) ?_)
  refine awP (op_build2 (xs := [.v (.string ⟨#[]⟩), .v (.int .i64 0), .v (.string ⟨#[]⟩), .v (.int .i64 0), .v (.string ⟨#[]⟩), .v (.string ⟨#[]⟩)]) rfl pl27 ze27 [] rfl rfl rfl) ?_
  refine awP (op_neq27 (p := b.inn) (q := leg0) rfl rfl rfl) ?_; (try simp only [nA, Nat.reduceBEq, Nat.reduceEqDiff, ↓reduceIte, Nat.reduceAdd, Nat.reduceSub])
  refine awP (op_assign rfl rfl) ?_
  refine AWL.nil ?_
  (refine hK _ ?_; clear hK K; (simp only [nA]))
  refine AW.cond rfl rfl rfl (fun hc => ?_) (fun hc => ?_)
  ·
   have hc3 := hc; have g3 : legEq b.inn leg0 = false := (by cases h : legEq b.inn leg0 with | false => rfl | true => rw [h] at hc3; cases hc3)
   (refine AW.seq_k ?_; intro K hK)
   refine AW.region ?_
   refine awP (op_assign rfl rfl) ?_
   refine AWL.nil ?_
   (refine hK _ ?_; clear hK K; (try simp only [nA, Nat.reduceBEq, Nat.reduceEqDiff, ↓reduceIte, Nat.reduceAdd, Nat.reduceSub]))
   skip
   refine AW.ret ?_; (try simp only [thenE, inBlk, Nat.reduceEqDiff, ↓reduceIte]); rw [show catV b = 1 by unfold catV; rw [if_neg g1, if_neg g2, if_pos g3]]; exact RQ.of0 rfl (.tmp (bl rfl) rfl rfl .nil)
  have hc3 := hc; have g3 : ¬ legEq b.inn leg0 = false := (fun h => by rw [h] at hc3; cases hc3)
  (refine AW.seq_k ?_; intro K hK)
  refine AW.region ?_
  (refine awP (op_fa_ptr rfl rfl rfl fl30_2 (by exact sz27) (by decide) rfl) ?_)
  (refine awP (op_fa_ptr rfl rfl rfl fl27_2 (by exact sz9) (by decide) rfl) ?_)
  (refine awR (op_load_ptr1 rfl rfl rfl rfl ag9 rfl rfl) ?_)
  (refine awP (op_seql rfl rfl rfl) ?_)
  refine awP (op_assign rfl rfl) ?_
  refine AWL.nil ?_
  (refine hK _ ?_; clear hK K; (simp only [nA, Nat.reduceBEq, Nat.reduceEqDiff, ↓reduceIte]))
  refine AW.cond rfl rfl rfl (fun hc => ?_) (fun hc => ?_)
  ·
   have hc4 := hc
   (refine AW.seq_k ?_; intro K hK)
   refine AW.region ?_
   refine awP (op_assign rfl rfl) ?_
   refine AWL.nil ?_
   (refine hK _ ?_; clear hK K; (try simp only [nA, Nat.reduceBEq, Nat.reduceEqDiff, ↓reduceIte, Nat.reduceAdd, Nat.reduceSub]))
   skip
   refine AW.ret ?_; (try simp only [thenE, inBlk, Nat.reduceEqDiff, ↓reduceIte]); rw [show catV b = 2 by unfold catV; rw [if_neg g1, if_neg g2, if_neg g3, if_pos hc4]]; exact RQ.of0 rfl (.tmp (bl rfl) rfl rfl .nil)
  have hc4 := hc
  refine AW.skip ?_
  (try simp only [thenE, inBlk, Nat.reduceEqDiff, ↓reduceIte])
  (refine hK _ ?_; clear hK K; (skip))
  (refine AW.seq_k ?_; intro K hK)
  refine AW.region ?_
  refine awP (op_assign rfl rfl) ?_
  refine AWL.nil ?_
  (refine hK _ ?_; clear hK K; (try simp only [nA, Nat.reduceBEq, Nat.reduceEqDiff, ↓reduceIte, Nat.reduceAdd, Nat.reduceSub]))
  skip
  refine AW.ret ?_; (try simp only [thenE, inBlk, Nat.reduceEqDiff, ↓reduceIte]); rw [show catV b = 0 by unfold catV; rw [if_neg g1, if_neg g2, if_neg g3, if_neg (by rw [hc4]; decide)]]; exact RQ.of0 rfl (.tmp (bl rfl) rfl rfl .nil)
set_option maxHeartbeats 8000000 in
theorem C9 {b : BagR} : Fn Tryz.prog 9 [] [.agg b.av] [.v (.int .i64 (catV b))] [] := by
  refine Spec.body Tryz.func9 rfl Tryz.ntmps9 (by simp) rfl ?_; intro S0 own0 v0 w0
  (refine AW.seq_k ?_; intro K hK)
  refine AW.region ?_
  refine awJ (op_box rfl rfl rfl sz30 rfl) ?_; (simp only [nA, Nat.reduceBEq, Nat.reduceEqDiff, ↓reduceIte])
  refine awP (op_assign rfl rfl) ?_
  refine AWL.nil ?_
  (refine hK _ ?_; clear hK K; (try simp only [nA, Nat.reduceBEq, Nat.reduceEqDiff, ↓reduceIte, Nat.reduceAdd, Nat.reduceSub]))
  (refine AW.seq_k ?_; intro K hK)
  refine AW.block ?_
  (refine AW.seq_k ?_; intro K hK)
  refine AW.region ?_
  (refine awP (op_fa_ptr rfl rfl rfl fl30_10 (by exact sz3) (by decide) rfl) ?_)
  (refine awR (op_load_ptr1 rfl rfl rfl rfl ag3 rfl rfl) ?_)
  (refine awP (op_eql rfl rfl rfl) ?_)
  refine awP (op_assign rfl rfl) ?_
  refine AWL.nil ?_
  (refine hK _ ?_; clear hK K; (simp only [nA]))
  refine AW.cond rfl rfl rfl (fun hc => ?_) (fun hc => ?_)
  ·
   have hc1 := hc; have g1 : b.exc = 1 := (by simpa using hc1)
   (refine AW.seq_k ?_; intro K hK)
   refine AW.region ?_
   refine awP (op_assign rfl rfl) ?_
   refine AWL.nil ?_
   (refine hK _ ?_; clear hK K; (try simp only [nA, Nat.reduceBEq, Nat.reduceEqDiff, ↓reduceIte, Nat.reduceAdd, Nat.reduceSub]))
   skip
   refine AW.ret ?_; (try simp only [thenE, inBlk, Nat.reduceEqDiff, ↓reduceIte]); rw [show catV b = 4 by unfold catV; rw [if_pos g1]]; exact RQ.of0 rfl (.tmp (bl rfl) rfl rfl .nil)
  have hc1 := hc; have g1 : ¬ b.exc = 1 := (by simpa using hc1)
  (refine AW.seq_k ?_; intro K hK)
  refine AW.region ?_
  (refine awP (op_fa_ptr rfl rfl rfl fl30_10 (by exact sz3) (by decide) rfl) ?_)
  (refine awR (op_load_ptr1 rfl rfl rfl rfl ag3 rfl rfl) ?_)
  (refine awP (op_eql rfl rfl rfl) ?_)
  refine awP (op_assign rfl rfl) ?_
  refine AWL.nil ?_
  (refine hK _ ?_; clear hK K; (simp only [nA]))
  refine AW.cond rfl rfl rfl (fun hc => ?_) (fun hc => ?_)
  ·
   have hc2 := hc; have g2 : b.exc = 2 := (by simpa using hc2)
   (refine AW.seq_k ?_; intro K hK)
   refine AW.region ?_
   refine awP (op_assign rfl rfl) ?_
   refine AWL.nil ?_
   (refine hK _ ?_; clear hK K; (try simp only [nA, Nat.reduceBEq, Nat.reduceEqDiff, ↓reduceIte, Nat.reduceAdd, Nat.reduceSub]))
   skip
   refine AW.ret ?_; (try simp only [thenE, inBlk, Nat.reduceEqDiff, ↓reduceIte]); rw [show catV b = 3 by unfold catV; rw [if_neg g1, if_pos g2]]; exact RQ.of0 rfl (.tmp (bl rfl) rfl rfl .nil)
  have hc2 := hc; have g2 : ¬ b.exc = 2 := (by simpa using hc2)
  (refine AW.seq_k ?_; intro K hK)
  refine AW.region ?_
  (refine awP (op_fa_ptr rfl rfl rfl fl30_1 (by exact sz27) (by decide) rfl) ?_)
  (refine awR (op_load_ptr rfl rfl rfl rfl ag27 sz27 (bl rfl) rfl) ?_)
  refine awP (op_build2 (xs := [.v (.string ⟨#[]⟩), .v (.int .i64 0), .v (.string ⟨#[]⟩), .v (.int .i64 0), .v (.string ⟨#[]⟩), .v (.string ⟨#[]⟩)]) rfl pl27 ze27 [] rfl rfl rfl) ?_
  refine awP (op_neq27 (p := b.inn) (q := leg0) rfl rfl rfl) ?_; (try simp only [nA, Nat.reduceBEq, Nat.reduceEqDiff, ↓reduceIte, Nat.reduceAdd, Nat.reduceSub])
  refine awP (op_assign rfl rfl) ?_
  refine AWL.nil ?_
  (refine hK _ ?_; clear hK K; (simp only [nA]))
  refine AW.cond rfl rfl rfl (fun hc => ?_) (fun hc => ?_)
  ·
   have hc3 := hc; have g3 : legEq b.inn leg0 = false := (by cases h : legEq b.inn leg0 with | false => rfl | true => rw [h] at hc3; cases hc3)
   (refine AW.seq_k ?_; intro K hK)
   refine AW.region ?_
   refine awP (op_assign rfl rfl) ?_
   refine AWL.nil ?_
   (refine hK _ ?_; clear hK K; (try simp only [nA, Nat.reduceBEq, Nat.reduceEqDiff, ↓reduceIte, Nat.reduceAdd, Nat.reduceSub]))
   skip
   refine AW.ret ?_; (try simp only [thenE, inBlk, Nat.reduceEqDiff, ↓reduceIte]); rw [show catV b = 1 by unfold catV; rw [if_neg g1, if_neg g2, if_pos g3]]; exact RQ.of0 rfl (.tmp (bl rfl) rfl rfl .nil)
  have hc3 := hc; have g3 : ¬ legEq b.inn leg0 = false := (fun h => by rw [h] at hc3; cases hc3)
  (refine AW.seq_k ?_; intro K hK)
  refine AW.region ?_
  (refine awP (op_fa_ptr rfl rfl rfl fl30_2 (by exact sz27) (by decide) rfl) ?_)
  (refine awP (op_fa_ptr rfl rfl rfl fl27_2 (by exact sz9) (by decide) rfl) ?_)
  (refine awR (op_load_ptr1 rfl rfl rfl rfl ag9 rfl rfl) ?_)
  (refine awP (op_seql rfl rfl rfl) ?_)
  refine awP (op_assign rfl rfl) ?_
  refine AWL.nil ?_
  (refine hK _ ?_; clear hK K; (simp only [nA, Nat.reduceBEq, Nat.reduceEqDiff, ↓reduceIte]))
  refine AW.cond rfl rfl rfl (fun hc => ?_) (fun hc => ?_)
  ·
   have hc4 := hc
   (refine AW.seq_k ?_; intro K hK)
   refine AW.region ?_
   refine awP (op_assign rfl rfl) ?_
   refine AWL.nil ?_
   (refine hK _ ?_; clear hK K; (try simp only [nA, Nat.reduceBEq, Nat.reduceEqDiff, ↓reduceIte, Nat.reduceAdd, Nat.reduceSub]))
   skip
   refine AW.ret ?_; (try simp only [thenE, inBlk, Nat.reduceEqDiff, ↓reduceIte]); rw [show catV b = 2 by unfold catV; rw [if_neg g1, if_neg g2, if_neg g3, if_pos hc4]]; exact RQ.of0 rfl (.tmp (bl rfl) rfl rfl .nil)
  have hc4 := hc
  refine AW.skip ?_
  (try simp only [thenE, inBlk, Nat.reduceEqDiff, ↓reduceIte])
  (refine hK _ ?_; clear hK K; (skip))
  (refine AW.seq_k ?_; intro K hK)
  refine AW.region ?_
  refine awP (op_assign rfl rfl) ?_
  refine AWL.nil ?_
  (refine hK _ ?_; clear hK K; (try simp only [nA, Nat.reduceBEq, Nat.reduceEqDiff, ↓reduceIte, Nat.reduceAdd, Nat.reduceSub]))
  skip
  refine AW.ret ?_; (try simp only [thenE, inBlk, Nat.reduceEqDiff, ↓reduceIte]); rw [show catV b = 0 by unfold catV; rw [if_neg g1, if_neg g2, if_neg g3, if_neg (by rw [hc4]; decide)]]; exact RQ.of0 rfl (.tmp (bl rfl) rfl rfl .nil)
set_option maxHeartbeats 8000000 in
theorem C13 {c : Container} {p : Piece} : Fn Tryz.prog 13 [] [.agg c.av, .agg p.av] [.v (.bool (admB c p))] [] := by
  refine Spec.body Tryz.func13 rfl Tryz.ntmps13 (by simp) rfl ?_; intro S0 own0 v0 w0
  (refine AW.seq_k ?_; intro K hK)
  refine AW.region ?_
  refine awJ (op_box rfl rfl rfl sz33 rfl) ?_; (simp only [nA, Nat.reduceBEq, Nat.reduceEqDiff, ↓reduceIte])
  refine awJ (op_box rfl rfl rfl sz35 rfl) ?_; (simp only [nA, Nat.reduceBEq, Nat.reduceEqDiff, ↓reduceIte])
  refine awP (op_assign rfl rfl) ?_
  refine AWL.nil ?_
  (refine hK _ ?_; clear hK K; (try simp only [nA, Nat.reduceBEq, Nat.reduceEqDiff, ↓reduceIte, Nat.reduceAdd, Nat.reduceSub]))
  (refine AW.seq_k ?_; intro K hK)
  refine AW.region ?_
  (refine awR (op_load_ptr rfl rfl rfl rfl ag33 sz33 (bl rfl) rfl) ?_)
  (refine awR (op_load_ptr rfl rfl rfl rfl ag35 sz35 (bl rfl) rfl) ?_)
  refine awJ (op_call (b := false) rfl en33 (C33 (c := c) (p := p)) (RL.cons (by exact View.same rfl) (RL.cons (by exact View.same rfl) (RL.nil))) rfl (fun h => by cases h) rfl rfl) ?_; (try simp only [nA, Nat.reduceBEq, Nat.reduceEqDiff, ↓reduceIte, Nat.reduceAdd, Nat.reduceSub])
  refine awP (op_move rfl rfl) ?_
  refine awP (op_extract rfl rfl rfl) ?_
  refine awP (op_extract rfl rfl rfl) ?_
  refine awJ (op_alloc rfl ze33 rfl) ?_; (simp only [nA, Nat.reduceBEq, Nat.reduceEqDiff, ↓reduceIte])
  refine awJ (op_store rfl rfl rfl rfl rfl rfl sz33 rfl (bl rfl) rfl) ?_; (simp only [nA, Nat.reduceBEq, Nat.reduceEqDiff, ↓reduceIte])
  refine awP (op_assign rfl rfl) ?_
  refine AWL.nil ?_
  (refine hK _ ?_; clear hK K; (simp only [nA, ↓reduceIte]))
  (refine AW.seq_k ?_; intro K hK)
  refine AW.region ?_
  refine awP (op_move rfl rfl) ?_
  (refine awP (op_eql rfl rfl rfl) ?_)
  refine awP (op_assign rfl rfl) ?_
  refine AWL.nil ?_
  (refine hK _ ?_; clear hK K; (simp only [nA]))
  skip
  refine AW.ret ?_; (try simp only [thenE, inBlk, Nat.reduceEqDiff, ↓reduceIte]); exact RQ.of0 rfl (.tmp (bl rfl) rfl rfl .nil)
end Go.Proofs.YtmdohphcolffmaaGreat
namespace Go.Proofs.YtmdohphcolffmaaGreat
open Go.RowKit
set_option linter.unusedSimpArgs false
set_option linter.unusedVariables false
set_option maxRecDepth 100000
def lstV (l : List Container) (f : Flight) (p : Piece) (o : Option Nat) : Int := match o with | none => 0 | some j => absI (mom l f + p.weight * (l.getD j default).arm)
end Go.Proofs.YtmdohphcolffmaaGreat
namespace Go.Proofs.YtmdohphcolffmaaGreat
open Go.RowKit
set_option linter.unusedSimpArgs false
set_option linter.unusedVariables false
set_option maxRecDepth 100000
end Go.Proofs.YtmdohphcolffmaaGreat
namespace Go.Proofs.YtmdohphcolffmaaGreat
open Go.RowKit
set_option linter.unusedSimpArgs false
set_option linter.unusedVariables false
set_option maxRecDepth 100000
end Go.Proofs.YtmdohphcolffmaaGreat
namespace Go.Proofs.YtmdohphcolffmaaGreat
open Go.RowKit
set_option linter.unusedSimpArgs false
set_option linter.unusedVariables false
set_option maxRecDepth 100000
abbrev sv (s : ByteArray) : List AV := [.v (.string s)]
def textV (l : List Int) (k : Nat) (ss : List ByteArray) : ByteArray := ss.getD (gmod (rawV l k) (ss.length : Nat)).toNat default
set_option maxHeartbeats 8000000 in
theorem C28 {l : List Int} {k : Nat} {ss : List ByteArray} (hl : l.length ≤ 2000) (h1 : 1 ≤ ss.length) (h2 : ss.length ≤ 1000) : Fn Tryz.prog 28 [.own 67 [srcRow l k]] [.ptr 0 0 0 0, .ro (ss.map sv)] [.v (.string (textV l k ss))] [.own 67 [srcRow l (rawN l k)]] := by
  have hg := gmod_bd (x := rawV l k) (n := (ss.length : Nat)) (by omega)
  refine Spec.body Tryz.func28 rfl Tryz.ntmps28 (by simp) rfl ?_; intro S0 own0 v0 w0
  (refine AW.seq_k ?_; intro K hK)
  refine AW.region ?_
  refine awP (op_assign rfl rfl) ?_
  refine AWL.nil ?_
  (refine hK _ ?_; clear hK K; (try simp only [nA, Nat.reduceBEq, Nat.reduceEqDiff, ↓reduceIte, Nat.reduceAdd, Nat.reduceSub]))
  (refine AW.seq_k ?_; intro K hK)
  refine AW.region ?_
  refine awP (op_move rfl rfl) ?_
  refine awP (op_move rfl rfl) ?_
  refine awP (op_move rfl rfl) ?_
  refine awP (op_len_ro (n := ss.length) rfl rfl Tryz.underlying40 (.inr (.inl ⟨_, rfl, by simp⟩))) ?_
  refine awJ (op_call1 rfl en18 (C18 hl (n := (ss.length : Nat)) (by omega)) (by exact rfl) (RL.cons .ptr (RL.cons (.base (by exact View.same rfl)) (RL.nil))) (by exact ⟨_, _, _, rfl, rfl, rfl⟩) (by exact rfl) (by exact rfl) (by exact rfl)) ?_; (simp only [nA, ↓reduceIte])
  refine awP (op_ia_ro (gmod (rawV l k) (ss.length : Nat)).toNat rfl (.inl rfl) rfl Tryz.underlying40 (by omega) (get_mapD (f := sv) (xs := ss) (by omega)) (by exact sz9) (bl rfl)) ?_
  (refine awR (op_load_rop1 rfl rfl ag9) ?_)
  refine awP (op_assign rfl rfl) ?_
  refine AWL.nil ?_
  (refine hK _ ?_; clear hK K; (simp only [nA]))
  skip
  refine AW.ret ?_; (try simp only [thenE, inBlk, Nat.reduceEqDiff, ↓reduceIte]); exact RQ.of (.inl rfl) rfl (.tmp (bl rfl) rfl rfl .nil) (by simp) rfl (one_out rfl)
abbrev carL : List ByteArray := [⟨#[83, 75]⟩, ⟨#[66, 65]⟩, ⟨#[76, 72]⟩]
abbrev flS (l : List Int) (k : Nat) : Flight := ⟨textV l k carL, 1 + gmod (rawV l (rawN l k)) 3, ⟨#[]⟩, 1 + gmod (rawV l (rawN l (rawN l k))) 3⟩
set_option maxHeartbeats 8000000 in
theorem C7 {l : List Int} {k : Nat} (hl : l.length ≤ 2000) : Fn Tryz.prog 7 [.own 67 [srcRow l k]] [.ptr 0 0 0 0] [.agg (flS l k).av] [.own 67 [srcRow l (rawN l (rawN l (rawN l k)))]] := by
  have hg1 := gmod_bd (x := rawV l (rawN l k)) (n := 3) (by decide)
  have hg2 := gmod_bd (x := rawV l (rawN l (rawN l k))) (n := 3) (by decide)
  refine Spec.body Tryz.func7 rfl Tryz.ntmps7 (by simp) rfl ?_; intro S0 own0 v0 w0
  (refine AW.seq_k ?_; intro K hK)
  refine AW.region ?_
  refine awJ (op_alloc rfl ze25 rfl) ?_; (simp only [nA, Nat.reduceBEq, Nat.reduceEqDiff, ↓reduceIte])
  refine AWL.nil ?_
  (refine hK _ ?_; clear hK K; (try simp only [nA, Nat.reduceBEq, Nat.reduceEqDiff, ↓reduceIte, Nat.reduceAdd, Nat.reduceSub]))
  (refine AW.seq_k ?_; intro K hK)
  refine AW.region ?_
  refine awP (op_move rfl rfl) ?_
  refine awJ (OpJ.frz (op_buildSlice rfl [(0, sv ⟨#[83, 75]⟩), (1, sv ⟨#[66, 65]⟩), (2, sv ⟨#[76, 72]⟩)] (carL.map sv) Tryz.underlying40 ze9 rfl (by simp) rfl (by simp) rfl (bl rfl) (by simp [maxLen])) (by simp [flatA]) rfl) ?_; (simp only [nA, ↓reduceIte])
  refine awJ (op_call1 rfl en28 (C28 (ss := carL) hl (by decide) (by decide)) (by exact rfl) (RL.cons .ptr (RL.cons (.base (by exact View.same rfl)) (RL.nil))) (by exact ⟨_, _, _, rfl, rfl, rfl⟩) (by exact rfl) (by exact rfl) (by exact rfl)) ?_; (try simp only [nA, Nat.reduceBEq, Nat.reduceEqDiff, ↓reduceIte, Nat.reduceAdd, Nat.reduceSub])
  refine awP (op_move rfl rfl) ?_
  refine awJ (op_call1 rfl en18 (C18 (n := 3) hl (by decide)) (by exact rfl) (RL.cons .ptr (RL.cons (.base (by exact View.same rfl)) (RL.nil))) (by exact ⟨_, _, _, rfl, rfl, rfl⟩) (by exact rfl) (by exact rfl) (by exact rfl)) ?_; (simp only [nA, ↓reduceIte])
  (refine awP (op_addi rfl rfl rfl (by omega)) ?_)
  refine awP (op_move rfl rfl) ?_
  refine awJ (op_call1 rfl en18 (C18 (n := 3) hl (by decide)) (by exact rfl) (RL.cons .ptr (RL.cons (.base (by exact View.same rfl)) (RL.nil))) (by exact ⟨_, _, _, rfl, rfl, rfl⟩) (by exact rfl) (by exact rfl) (by exact rfl)) ?_; (simp only [nA, ↓reduceIte])
  (refine awP (op_addi rfl rfl rfl (by omega)) ?_)
  refine awP (op_build2 (xs := [_, _, .v (.string ⟨#[]⟩), _]) rfl pl25 ze25 [(0, [_]), (1, [_]), (3, [_])] rfl rfl rfl) ?_
  refine awJ (op_store rfl rfl rfl rfl rfl rfl sz25 rfl (bl rfl) rfl) ?_; (simp only [nA, Nat.reduceBEq, Nat.reduceEqDiff, ↓reduceIte])
  refine AWL.nil ?_
  (refine hK _ ?_; clear hK K; (skip))
  skip
  refine AW.ret ?_; (try simp only [thenE, inBlk, Nat.reduceEqDiff, ↓reduceIte]); exact RQ.of (.inl rfl) rfl (.cell (bl rfl) rfl rfl rfl ag25 sz25 (bl rfl) rfl rfl .nil) (by simp) rfl (one_out rfl)
end Go.Proofs.YtmdohphcolffmaaGreat
namespace Go.Proofs.YtmdohphcolffmaaGreat
open Go.RowKit
set_option linter.unusedSimpArgs false
set_option linter.unusedVariables false
inductive Sh where
  | int (k : IntKind)
  | str
  | bool
  | sl (row : List Sh)
inductive Mt : AV → Sh → Prop
  | int {k : IntKind} {n : Int} (h : (Lit.int k n).wf = true) : Mt (.v (.int k n)) (.int k)
  | str {s : ByteArray} (h : s.size ≤ maxLen) : Mt (.v (.string s)) .str
  | bool {b : Bool} : Mt (.v (.bool b)) .bool
  | sl {row : List Sh} {es : List (List AV)} (hs : es.length ≤ maxLen) (h : ∀ e ∈ es, e.length = row.length) (hc : ∀ e ∈ es, ∀ (i : Nat) (x : AV) (s : Sh), e[i]? = some x → row[i]? = some s → Mt x s) : Mt (.ro es) (.sl row)
theorem Mt.rows {es : List (List AV)} {row : List Sh} (h : Mt (.ro es) (.sl row)) : ∀ e ∈ es, RL Mt e row := by
  cases h with
  | sl hs h hc => exact fun e he => ⟨h e he, hc e he⟩
theorem rows_of {α : Type} {f : α → List AV} : ∀ {es : List (List AV)}, (∀ e ∈ es, ∃ p, e = f p) → ∃ ps : List α, es = ps.map f
  | [], _ => ⟨[], rfl⟩
  | e :: es, h => by
    obtain ⟨p, rfl⟩ := h e (by simp)
    obtain ⟨ps, rfl⟩ := rows_of (es := es) fun e he => h e (by simp [he])
    exact ⟨p :: ps, rfl⟩
def fieldsSh (sh : TypeId → Option (List Sh)) (P : Program) : Nat → List Field → Option (List Sh)
  | _, [] => some []
  | o, f :: fs => if f.offset = o then (sh f.type).bind fun r => if r.length = P.cellsOf f.type then (fieldsSh sh P (o + r.length) fs).map (r ++ ·) else none else none
def copies (r : List Sh) : Nat → List Sh
  | 0 => []
  | n + 1 => r ++ copies r n
def shOf (P : Program) : Nat → TypeId → Option (List Sh)
  | 0, _ => none
  | n + 1, t => match P.underlying t with
    | some (.int k) => some [.int k]
    | some .string => some [.str]
    | some .bool => some [.bool]
    | some (.slice e) => (shOf P n e).map fun r => [.sl r]
    | some (.struct fs) => (fieldsSh (shOf P n) P 0 fs.toList).bind fun r => if r.length = P.cellsOf t then some r else none
    | some (.array k e) => (shOf P n e).bind fun r => if r.length = P.cellsOf e ∧ P.cellsOf t = k * P.cellsOf e then some (copies r k) else none
    | _ => none
theorem RL.cons' {α β : Type} {R : α → β → Prop} {us : List α} {xs : List β} {u : α} (h : RL R (u :: us) xs) : ∃ x xs', xs = x :: xs' ∧ R u x ∧ RL R us xs' := by
  cases xs with
  | nil => have := h.1; simp at this
  | cons x xs => exact ⟨x, xs, rfl, h.2 0 u x rfl rfl, by have := h.1; simpa using this, fun i a b ha hb => h.2 (i + 1) a b (by simpa using ha) (by simpa using hb)⟩
theorem take_split {α : Type} (l : List α) (o m n : Nat) : (l.drop o).take (m + n) = (l.drop o).take m ++ (l.drop (o + m)).take n := by
  rw [List.take_add, List.drop_drop]
theorem flat_idx {α : Type} {sz : Nat} : ∀ {es : List (List α)}, (∀ e ∈ es, e.length = sz) → ∀ {j : Nat}, j < es.flatten.length → ∃ e u, es[j / sz]? = some e ∧ e[j % sz]? = some u ∧ es.flatten[j]? = some u
  | [], _, j, h => by simp at h
  | e :: es, hs, j, h => by
    have he : e.length = sz := hs e (by simp)
    have hs' : ∀ e ∈ es, e.length = sz := fun e he => hs e (by simp [he])
    rw [List.flatten_cons] at h ⊢
    by_cases hj : j < sz
    · rw [List.getElem?_append_left (by omega), Nat.div_eq_of_lt hj, Nat.mod_eq_of_lt hj]
      exact ⟨e, e[j]'(by omega), rfl, List.getElem?_eq_getElem _, List.getElem?_eq_getElem _⟩
    rw [List.length_append] at h
    obtain ⟨e1, u, h1, h2, h3⟩ := flat_idx hs' (j := j - sz) (by omega)
    have h0 : 0 < sz := by
      rcases Nat.eq_zero_or_pos sz with h0 | h0
      · subst h0
        have : es.flatten = [] := List.flatten_eq_nil_iff.2 fun e he => List.eq_nil_of_length_eq_zero (hs' e he)
        rw [this] at h
        simp at h
        omega
      exact h0
    rw [List.getElem?_append_right (by omega), he, Nat.div_eq_sub_div h0 (by omega), Nat.mod_eq_sub_mod (by omega)]
    exact ⟨e1, u, by simpa using h1, h2, h3⟩
section
variable {H : Type} {enc : TypeId × Value → H} {P : Program} {w : World} {base : Nat} {spare : Nat → Bool} {held : Bool}
theorem fields_open {S : Nat → Prop} {sh : TypeId → Option (List Sh)} {n : Nat} {cs : List Value} (ih : ∀ t cs x r, sh t = some r → DataW.trod enc P w base spare held n t cs = some x → ∃ xs, RL (Rep P S w []) cs xs ∧ RL Mt xs r) :
    ∀ (fs : List Field) (o : Nat) (r : List Sh), fieldsSh sh P o fs = some r → (∀ f ∈ fs, ∃ y, DataW.trod enc P w base spare held n f.type ((cs.drop f.offset).take (P.cellsOf f.type)) = some y) →
      ∃ xs, RL (Rep P S w []) ((cs.drop o).take r.length) xs ∧ RL Mt xs r
  | [], o, r, h, _ => by
    simp only [fieldsSh, Option.some.injEq] at h
    subst h
    exact ⟨[], by simpa using RL.nil, RL.nil⟩
  | f :: fs, o, r, h, hf => by
    unfold fieldsSh at h
    split at h
    · rename_i ho
      obtain ⟨r1, h1, h2⟩ := Option.bind_eq_some_iff.1 h
      split at h2
      · rename_i hl
        obtain ⟨r2, h3, h4⟩ := Option.map_eq_some_iff.1 h2
        subst h4
        obtain ⟨y, hy⟩ := hf f (by simp)
        obtain ⟨xs1, a1, a2⟩ := ih _ _ _ _ h1 hy
        obtain ⟨xs2, b1, b2⟩ := fields_open ih fs (o + r1.length) r2 h3 fun f hf' => hf f (by simp [hf'])
        refine ⟨xs1 ++ xs2, ?_, a2.append b2⟩
        rw [List.length_append, take_split]
        rw [ho, ← hl] at a1
        exact a1.append b1
      cases h2
    cases h
theorem copies_open {S : Nat → Prop} {r : List Sh} {n c : Nat} {e : TypeId} {cs : List Value} (hr : r.length = c) (ih : ∀ cs x, DataW.trod enc P w base spare held n e cs = some x → ∃ xs, RL (Rep P S w []) cs xs ∧ RL Mt xs r) :
    ∀ (m o : Nat), (∀ i, i < m → ∃ y, DataW.trod enc P w base spare held n e ((cs.drop (o + i * c)).take c) = some y) → ∃ xs, RL (Rep P S w []) ((cs.drop o).take (m * c)) xs ∧ RL Mt xs (copies r m)
  | 0, o, _ => ⟨[], by simpa using RL.nil, RL.nil⟩
  | m + 1, o, h => by
    obtain ⟨y, hy⟩ := h 0 (by omega)
    rw [Nat.zero_mul, Nat.add_zero] at hy
    obtain ⟨xs1, a1, a2⟩ := ih _ _ hy
    obtain ⟨xs2, b1, b2⟩ := copies_open hr ih m (o + c) fun i hi => by
      have := h (i + 1) (by omega)
      rw [show o + (i + 1) * c = o + c + i * c by rw [Nat.succ_mul]; omega] at this
      exact this
    refine ⟨xs1 ++ xs2, ?_, a2.append b2⟩
    rw [Nat.succ_mul, Nat.add_comm (m * c) c, take_split]
    exact a1.append b1
theorem Rep.small {S : Nat → Prop} {A : Option Addr} {len c : Nat} {es : List (List AV)} (h : Rep P S w [] (.slice A len c) (.ro es)) : es.length ≤ maxLen := by
  obtain ⟨-, A', c', sz, us, e, h1, h2, -⟩ := h.ro_inv
  exact Nat.le_trans h1 h2
theorem open_sh : ∀ (m fuel : Nat) (t : TypeId) (cs : List Value) (x : DataW H × List MemPlace) (r : List Sh), shOf P m t = some r → DataW.trod enc P w base spare held fuel t cs = some x → ∃ xs, RL (Rep P (fun k => k < w.heap.size) w []) cs xs ∧ RL Mt xs r
  | 0, _, _, _, _, _, h, _ => by simp [shOf] at h
  | m + 1, fuel, t, cs, x, r, h, hx => by
    unfold shOf at h
    split at h
    · rename_i k ht
      injection h with h; subst h
      obtain ⟨n, rfl, _, hw⟩ := DataW.trod_int ht hx
      exact ⟨_, .cons (.v rfl) .nil, .cons (.int hw) .nil⟩
    · rename_i ht
      injection h with h; subst h
      obtain ⟨s, rfl, _, hw⟩ := DataW.trod_string ht hx
      exact ⟨_, .cons (.v rfl) .nil, .cons (.str hw) .nil⟩
    · rename_i ht
      injection h with h; subst h
      obtain ⟨b, rfl, _⟩ := DataW.trod_bool ht hx
      exact ⟨_, .cons (.v rfl) .nil, .cons .bool .nil⟩
    · rename_i e ht
      obtain ⟨row, h1, h2⟩ := Option.map_eq_some_iff.1 h
      subst h2
      rcases Go.Deep.open_slice ht hx with ⟨rfl, _⟩ | ⟨a, len, cap, mm, n, D, Pl, rfl, hb, hl, hm, hmm, _, hel⟩
      · exact ⟨_, .cons rep_ro_nil .nil, .cons (.sl (Nat.zero_le _) (by simp) (by simp)) .nil⟩
      have hlm : len ≤ mm := by rw [hmm]; split <;> omega
      have key : ∀ i, i < len → ∃ p : List Value × List AV, w.cells? base (a.add (i * P.cellsOf e)) (P.cellsOf e) = some p.1 ∧ RL (Rep P (fun k => k < w.heap.size) w []) p.1 p.2 ∧ RL Mt p.2 row := fun i hi => by
        obtain ⟨cs', c1, c2⟩ := hel i (by omega)
        obtain ⟨xs, c3, c4⟩ := open_sh m _ _ _ _ _ h1 c2
        exact ⟨(cs', xs), c1, c3, c4⟩
      obtain ⟨F, hF⟩ := Go.Deep.choose_lt key
      have lv : ∀ l ∈ (List.range len).map (fun i => (F i).1), l.length = P.cellsOf e := fun l hl' => by
        obtain ⟨i, hi, rfl⟩ := List.mem_map.1 hl'
        exact (World.cells?_some (hF i (List.mem_range.1 hi)).1).2.1
      have lx : ∀ l ∈ (List.range len).map (fun i => (F i).2), l.length = P.cellsOf e := fun l hl' => by
        obtain ⟨i, hi, rfl⟩ := List.mem_map.1 hl'
        rw [← (hF i (List.mem_range.1 hi)).2.1.1]
        exact (World.cells?_some (hF i (List.mem_range.1 hi)).1).2.1
      have hlen : ((List.range len).map fun i => (F i).2).length = len := by simp
      have hfl : ((List.range len).map fun i => (F i).1).flatten.length = ((List.range len).map fun i => (F i).2).flatten.length := by
        rw [List.length_flatten, List.length_flatten]
        congr 1
        rw [List.map_map, List.map_map]
        exact List.map_congr_left fun i hi => (hF i (List.mem_range.1 hi)).2.1.1
      have hrep : Rep P (fun k => k < w.heap.size) w [] (.slice (some a) ((List.range len).map fun i => (F i).2).length cap) (.ro ((List.range len).map fun i => (F i).2)) := by
        refine Rep.ro (sz := P.cellsOf e) (us := ((List.range len).map fun i => (F i).1).flatten) (by rw [hlen]; exact hl) hm lx (fun hn => ?_) hfl fun i u x hu hx' => ?_
        · have hget : ∀ j u, ((List.range len).map fun i => (F i).1).flatten[j]? = some u → w.cell? (a.add j) = some u := fun j u hu => by
            obtain ⟨l, u', q1, q2, q3⟩ := flat_idx lv (j := j) (List.getElem?_eq_some_iff.1 hu).1
            rw [q3] at hu
            injection hu with hu; subst hu
            rw [List.getElem?_map] at q1
            have hq : j / P.cellsOf e < len := by
              have := (List.getElem?_eq_some_iff.1 (show ((List.range len).map fun i => (F i).1)[j / P.cellsOf e]? = some l by rw [List.getElem?_map]; exact q1)).1
              simpa using this
            rw [List.getElem?_range hq] at q1
            injection q1 with q1; subst q1
            have hc := (World.cells?_some (hF _ hq).1)
            have hp : 0 < P.cellsOf e := by
              have := (List.getElem?_eq_some_iff.1 q2).1
              rw [hc.2.1] at this; omega
            have hcell := hc.2.2 (j % P.cellsOf e) (Nat.mod_lt _ hp)
            rw [q2, Go.Deep.add_add, Nat.mul_comm, Nat.div_add_mod] at hcell
            exact hcell
          have h0 := hget 0 _ (List.getElem?_eq_getElem hn)
          obtain ⟨g, o, sp⟩ := a
          have : sp = none := by simpa [Addr.add] using World.cell?_spot h0
          subst this
          refine ⟨g, o, rfl, World.block_lt_of_cell? w _ h0, fun j u hu => ?_⟩
          have := hget j u hu
          rw [add_off] at this
          exact this
        obtain ⟨l, u', q1, q2, q3⟩ := flat_idx lv (j := i) (List.getElem?_eq_some_iff.1 hu).1
        obtain ⟨l2, u2, p1, p2, p3⟩ := flat_idx lx (j := i) (List.getElem?_eq_some_iff.1 hx').1
        rw [q3] at hu
        injection hu with hu; subst hu
        rw [p3] at hx'
        injection hx' with hx'; subst hx'
        rw [List.getElem?_map] at q1 p1
        have hq : i / P.cellsOf e < len := by
          have := (List.getElem?_eq_some_iff.1 (show ((List.range len).map fun i => (F i).1)[i / P.cellsOf e]? = some l by rw [List.getElem?_map]; exact q1)).1
          simpa using this
        rw [List.getElem?_range hq] at q1 p1
        injection q1 with q1; subst q1
        injection p1 with p1; subst p1
        exact (hF _ hq).2.1.2 _ _ _ q2 p2
      rw [hlen] at hrep
      refine ⟨_, .cons hrep .nil, .cons (.sl hrep.small (fun l hl' => ?_) fun l hl' => ?_) .nil⟩
      · obtain ⟨i, hi, rfl⟩ := List.mem_map.1 hl'
        exact (hF i (List.mem_range.1 hi)).2.2.1
      obtain ⟨i, hi, rfl⟩ := List.mem_map.1 hl'
      exact (hF i (List.mem_range.1 hi)).2.2.2
    · rename_i fs ht
      obtain ⟨r1, h1, h2⟩ := Option.bind_eq_some_iff.1 h
      split at h2
      · rename_i hl
        injection h2 with h2; subst h2
        obtain ⟨ys, n, _, _, hcl, hyl, hf⟩ := DataW.trod_struct ht hx
        obtain ⟨xs, a1, a2⟩ := fields_open (fun t cs x r => open_sh m n t cs x r) fs.toList 0 r1 h1 (cs := cs) fun f hf' => by
          obtain ⟨i, hi, rfl⟩ := List.getElem_of_mem hf'
          have := hf i fs.toList[i] (by simp at hi; simp [hi])
          exact ⟨_, this.trans (List.getElem?_eq_getElem (by rw [hyl]; simpa using hi))⟩
        rw [List.drop_zero, hl, ← hcl, List.take_length] at a1
        exact ⟨xs, a1, a2⟩
      cases h2
    · rename_i k e ht
      obtain ⟨r1, h1, h2⟩ := Option.bind_eq_some_iff.1 h
      split at h2
      · rename_i hl
        injection h2 with h2; subst h2
        obtain ⟨ys, n, _, _, hcl, hyl, hf⟩ := DataW.trod_array ht hx
        obtain ⟨xs, a1, a2⟩ := copies_open (cs := cs) hl.1 (fun cs x hx => open_sh m n e cs x r1 h1 hx) k 0 fun i hi => by
          have := hf i hi
          rw [Nat.zero_add]
          exact ⟨_, this.trans (List.getElem?_eq_getElem (by omega))⟩
        rw [List.drop_zero, ← hl.2, ← hcl, List.take_length] at a1
        exact ⟨xs, a1, a2⟩
      cases h2
    cases h
/-- A datum of several cells. -/
theorem open_agg {m : Nat} {t : TypeId} {us : Array Value} {r : List Sh} {d : DataW H} {ps : List MemPlace} (hs : shOf P m t = some r) (h : DataW.Trod enc P w base spare held t (.agg us) d ps) : ∃ xs, AggOK P (fun k => k < w.heap.size) w (insT []) [] (.agg us) (.agg xs) ∧ RL Mt xs r := by
  obtain ⟨fuel, hf⟩ := h
  obtain ⟨xs, a1, a2⟩ := open_sh m fuel t us.toList _ r hs hf
  exact ⟨xs, ⟨us, rfl, a1.mono fun u x h => h.ref⟩, a2⟩
/-- A datum of one cell. -/
theorem open_one {m : Nat} {t : TypeId} {v : Value} {s : Sh} {d : DataW H} {ps : List MemPlace} (hs : shOf P m t = some [s]) (hv : v.cells = #[v]) (h : DataW.Trod enc P w base spare held t v d ps) : ∃ x, AggOK P (fun k => k < w.heap.size) w (insT []) [] v x ∧ Mt x s := by
  obtain ⟨fuel, hf⟩ := h
  rw [hv] at hf
  obtain ⟨xs, a1, a2⟩ := open_sh m fuel t [v] _ [s] hs hf
  obtain ⟨x, xs', rfl, b1, b2⟩ := a1.cons'
  obtain ⟨x2, xs2, q, c1, -⟩ := a2.cons'
  injection q with q _
  subst q
  refine ⟨x, ?_, c1⟩
  have hr := b1.ref (T := insT []) (vals := [])
  cases c1 <;> exact hr
end
theorem Spec.small {P : Program} {f : FuncId} {ins xs : List AV} {Q : List AV → List AV → Prop} {es : List (List AV)} (k : Nat) (hk : xs[k]? = some (.ro es)) (h : es.length ≤ 9223372036854775807 → Spec P f ins xs Q) : Spec P f ins xs Q := fun w S vals bss vs c => by
  obtain ⟨u, hu, hr⟩ := c.args.at_ hk
  have hr : Rep P S w [] u (.ro es) := hr
  obtain ⟨-, A, cc, sz, us, e, h1, h2, -⟩ := hr.ro_inv
  exact h (Nat.le_trans (Nat.le_trans h1 h2) (by decide)) w S vals bss vs c
/-- What a cell may hold, taken apart. -/
theorem Mt.i64 {x : AV} (h : Mt x (.int .i64)) : ∃ n, x = .v (.int .i64 n) := by cases h; exact ⟨_, rfl⟩
theorem Mt.u8 {x : AV} (h : Mt x (.int .u8)) : ∃ n, x = .v (.int .u8 n) := by cases h; exact ⟨_, rfl⟩
theorem Mt.s_ {x : AV} (h : Mt x .str) : ∃ n, x = .v (.string n) := by cases h; exact ⟨_, rfl⟩
theorem Mt.b_ {x : AV} (h : Mt x .bool) : ∃ n, x = .v (.bool n) := by cases h; exact ⟨_, rfl⟩
theorem Mt.sl_ {x : AV} {r : List Sh} (h : Mt x (.sl r)) : ∃ es, x = .ro es := by cases h; exact ⟨_, rfl⟩
end Go.Proofs.YtmdohphcolffmaaGreat
namespace Go.Proofs.YtmdohphcolffmaaGreat
open Go.RowKit
set_option linter.unusedSimpArgs false
set_option linter.unusedVariables false
set_option maxRecDepth 100000
abbrev lav (l : List Container) : List AV := [.ro (l.map Container.av)]
theorem pi_flat (ls : List Piece) : ∀ r ∈ ls.map Piece.av, ∀ c ∈ r, flatA c = true := fun r hr c hc => by
  obtain ⟨l, _, rfl⟩ := List.mem_map.1 hr
  simp only [Piece.av, List.mem_cons, List.not_mem_nil, or_false] at hc
  rcases hc with rfl | rfl | rfl | rfl | rfl <;> rfl
def FitL (ys : List Container) : Prop := ys.length ≤ 1000 ∧ ∀ c ∈ ys, c.pieces.length ≤ 1000
theorem hl20 (l : List Int) : (l.take 2000).length ≤ 2000 := by simp; omega
end Go.Proofs.YtmdohphcolffmaaGreat
namespace Go.Proofs.YtmdohphcolffmaaGreat
open Go.RowKit
set_option linter.unusedSimpArgs false
set_option linter.unusedVariables false
set_option maxRecDepth 100000
abbrev pav (l : List Piece) : List AV := [.ro (l.map Piece.av)]
end Go.Proofs.YtmdohphcolffmaaGreat
