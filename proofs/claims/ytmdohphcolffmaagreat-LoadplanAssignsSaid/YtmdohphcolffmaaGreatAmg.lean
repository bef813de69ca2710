import Derived.Test.YtmdohphcolffmaaGreatAmf
import Derived.Sort.AssemblyPlain
namespace Go.Proofs.YtmdohphcolffmaaGreat
set_option maxHeartbeats 8000000
open Go.RowKit
set_option linter.unusedSimpArgs false
set_option linter.unusedVariables false
set_option maxRecDepth 100000
theorem C113i {u : Value} {d : Array Piece} {x y z : Int} (a b c s : Nat) (e1 : x = a) (e2 : y = b) (e3 : z = c) (ha : a < d.size) (hb : b < d.size) (hc : c < d.size) (hl : d.size ≤ 1000) (hs : s ≤ 100) : Fn Tryz.prog 113 [.own 3 [[.v (.int .i64 s)]]] [.agg (dataR d u), .v (.int .i64 x), .v (.int .i64 y), .v (.int .i64 z), .ptr 0 0 0 0] [.v (.int .i64 (Go.Sort.median yB d a b c s).1)] [.own 3 [[.v (.int .i64 (Go.Sort.median yB d a b c s).2)]]] := by
 subst e1 e2 e3; exact C113 ha hb hc hl hs
theorem en113 : zZ Tryz.prog 113 := enters_of Tryz.func113 (by kernel_rfl) rfl
def hintI : Go.Sort.Hint → Int
 | .unknown => 0
 | .increasing => 1
 | .decreasing => 2
theorem medb {lt : Piece → Piece → Bool} {d : Array Piece} {a b c s n : Nat} (ha : a < n) (hb : b < n) (hc : c < n) : (Go.Sort.median lt d a b c s).1 < n ∧ (Go.Sort.median lt d a b c s).2 ≤ s + 3 := by
 have h1 := o2b (lt := lt) (d := d) (s := s) ha hb
 have h2 := o2b (lt := lt) (d := d) (s := (Go.Sort.order2 lt d a b s).2.2) h1.2.1 hc
 have h3 := o2b (lt := lt) (d := d) (s := (Go.Sort.order2 lt d (Go.Sort.order2 lt d a b s).2.1 c (Go.Sort.order2 lt d a b s).2.2).2.2) h1.1 h2.1
 unfold Go.Sort.median
 exact ⟨h3.2.1, by dsimp only; omega⟩
/-- The three places among which the middle one is chosen, and the swaps so far. -/
def nR (lt : Piece → Piece → Bool) (d : Array Piece) (a b : Nat) : Nat × Nat × Nat × Nat :=
 if b - a ≥ 50 then
   ((Go.Sort.medianAdjacent lt d (a + (b - a) / 4 * 1) 0).1,
    (Go.Sort.medianAdjacent lt d (a + (b - a) / 4 * 2) (Go.Sort.medianAdjacent lt d (a + (b - a) / 4 * 1) 0).2).1,
    (Go.Sort.medianAdjacent lt d (a + (b - a) / 4 * 3) (Go.Sort.medianAdjacent lt d (a + (b - a) / 4 * 2) (Go.Sort.medianAdjacent lt d (a + (b - a) / 4 * 1) 0).2).2).1,
    (Go.Sort.medianAdjacent lt d (a + (b - a) / 4 * 3) (Go.Sort.medianAdjacent lt d (a + (b - a) / 4 * 2) (Go.Sort.medianAdjacent lt d (a + (b - a) / 4 * 1) 0).2).2).2)
 else (a + (b - a) / 4 * 1, a + (b - a) / 4 * 2, a + (b - a) / 4 * 3, 0)
theorem nR_pos {lt : Piece → Piece → Bool} {d : Array Piece} {a b : Nat} (h : b - a ≥ 50) : nR lt d a b = ((Go.Sort.medianAdjacent lt d (a + (b - a) / 4 * 1) 0).1,
 (Go.Sort.medianAdjacent lt d (a + (b - a) / 4 * 2) (Go.Sort.medianAdjacent lt d (a + (b - a) / 4 * 1) 0).2).1,
 (Go.Sort.medianAdjacent lt d (a + (b - a) / 4 * 3) (Go.Sort.medianAdjacent lt d (a + (b - a) / 4 * 2) (Go.Sort.medianAdjacent lt d (a + (b - a) / 4 * 1) 0).2).2).1,
 (Go.Sort.medianAdjacent lt d (a + (b - a) / 4 * 3) (Go.Sort.medianAdjacent lt d (a + (b - a) / 4 * 2) (Go.Sort.medianAdjacent lt d (a + (b - a) / 4 * 1) 0).2).2).2) := by unfold nR; rw [if_pos h]
theorem nR_neg {lt : Piece → Piece → Bool} {d : Array Piece} {a b : Nat} (h : ¬ b - a ≥ 50) : nR lt d a b = (a + (b - a) / 4 * 1, a + (b - a) / 4 * 2, a + (b - a) / 4 * 3, 0) := by unfold nR; rw [if_neg h]
theorem mab {lt : Piece → Piece → Bool} {d : Array Piece} {a s n : Nat} (h : a + 1 < n) : (Go.Sort.medianAdjacent lt d a s).1 < n ∧ (Go.Sort.medianAdjacent lt d a s).2 ≤ s + 3 := medb (by omega) (by omega) h
theorem nR_bd {lt : Piece → Piece → Bool} {d : Array Piece} {a b : Nat} (h8 : 8 ≤ b - a) (hb : b ≤ d.size) : (nR lt d a b).1 < d.size ∧ (nR lt d a b).2.1 < d.size ∧ (nR lt d a b).2.2.1 < d.size ∧ (nR lt d a b).2.2.2 ≤ 9 := by
 by_cases h : b - a ≥ 50
 · rw [nR_pos h]
   have h1 := mab (lt := lt) (d := d) (a := a + (b - a) / 4 * 1) (s := 0) (n := d.size) (by omega)
   have h2 := mab (lt := lt) (d := d) (a := a + (b - a) / 4 * 2) (s := (Go.Sort.medianAdjacent lt d (a + (b - a) / 4 * 1) 0).2) (n := d.size) (by omega)
   have h3 := mab (lt := lt) (d := d) (a := a + (b - a) / 4 * 3) (s := (Go.Sort.medianAdjacent lt d (a + (b - a) / 4 * 2) (Go.Sort.medianAdjacent lt d (a + (b - a) / 4 * 1) 0).2).2) (n := d.size) (by omega)
   refine ⟨h1.1, h2.1, h3.1, ?_⟩
   dsimp only
   omega
 rw [nR_neg h]
 refine ⟨?_, ?_, ?_, ?_⟩ <;> dsimp only <;> omega
theorem chooseP {lt : Piece → Piece → Bool} {d : Array Piece} {a b : Nat} (h8 : 8 ≤ b - a) : Go.Sort.choosePivot lt d a b = ((Go.Sort.median lt d (nR lt d a b).1 (nR lt d a b).2.1 (nR lt d a b).2.2.1 (nR lt d a b).2.2.2).1, if (Go.Sort.median lt d (nR lt d a b).1 (nR lt d a b).2.1 (nR lt d a b).2.2.1 (nR lt d a b).2.2.2).2 = 0 then .increasing else if (Go.Sort.median lt d (nR lt d a b).1 (nR lt d a b).2.1 (nR lt d a b).2.2.1 (nR lt d a b).2.2.2).2 = 12 then .decreasing else .unknown) := by
 unfold Go.Sort.choosePivot
 by_cases h : b - a ≥ 50
 · rw [nR_pos h]
   simp only [ge_iff_le, if_pos h8, if_pos (show 50 ≤ b - a from h)]
 rw [nR_neg h]
 simp only [ge_iff_le, if_pos h8, if_neg (show ¬ 50 ≤ b - a from h)]
theorem en112 : zZ Tryz.prog 112 := enters_of Tryz.func112 (by kernel_rfl) rfl
theorem C112 {u : Value} {d : Array Piece} {a s : Nat} (h1 : 1 ≤ a) (h2 : a + 1 < d.size) (hl : d.size ≤ 1000) (hs : s ≤ 100) : Fn Tryz.prog 112 [.own 3 [[.v (.int .i64 s)]]] [.agg (dataR d u), .v (.int .i64 a), .ptr 0 0 0 0] [.v (.int .i64 (Go.Sort.medianAdjacent yB d a s).1)] [.own 3 [[.v (.int .i64 (Go.Sort.medianAdjacent yB d a s).2)]]] := by
 unfold Go.Sort.medianAdjacent
 refine Spec.body Tryz.func112 rfl Tryz.ntmps112 (by simp) rfl ?_; intro S0 own0 v0 w0
 refine zA fun K hK => zB ?_
 refine yD (yO rfl rfl rfl sz114 rfl) ?_; simp only [nA, Nat.reduceBEq, Nat.reduceEqDiff, ↓reduceIte]
 refine zF (zD rfl rfl) ?_; try simp only [nA, Nat.reduceBEq, Nat.reduceEqDiff, ↓reduceIte, Nat.reduceAdd, Nat.reduceSub]
 refine zE (hK _ ?_); clear hK K; try simp only [nA, Nat.reduceBEq, Nat.reduceEqDiff, ↓reduceIte, Nat.reduceAdd, Nat.reduceSub]
 refine zA fun K hK => zB ?_
 (refine awR (zK rfl rfl rfl rfl ag114 sz114 (bl rfl) rfl) ?_); try simp only [nA, Nat.reduceBEq, Nat.reduceEqDiff, ↓reduceIte, Nat.reduceAdd, Nat.reduceSub]
 refine zF (zC rfl rfl) ?_; simp only [nA, ↓reduceIte]
 (refine zF (op_subi rfl rfl rfl (by omega)) ?_); try simp only [nA, Nat.reduceBEq, Nat.reduceEqDiff, ↓reduceIte, Nat.reduceAdd, Nat.reduceSub]
 refine zF (zC rfl rfl) ?_; simp only [nA, ↓reduceIte]
 refine zF (zC rfl rfl) ?_; simp only [nA, ↓reduceIte]
 (refine zF (zR rfl rfl rfl (by omega)) ?_); try simp only [nA, Nat.reduceBEq, Nat.reduceEqDiff, ↓reduceIte, Nat.reduceAdd, Nat.reduceSub]
 refine zF (zC rfl rfl) ?_; simp only [nA, ↓reduceIte]
 refine yD (yQ (r := 0) rfl en113 (C113i (u := u) (d := d) (a - 1) a (a + 1) s (by omega) rfl (by omega) (by omega) (by omega) h2 hl hs) (by exact rfl) (RL.cons (.base (.same (by exact rfl))) (RL.cons (.base (.same (by exact rfl))) (RL.cons (.base (.same (by exact rfl))) (RL.cons (.base (.same (by exact rfl))) (RL.cons .ptr RL.nil))))) (by exact ⟨_, _, _, rfl, rfl, rfl⟩) (by exact rfl) (by exact rfl) (by exact rfl)) ?_; try simp only [nA, Nat.reduceBEq, Nat.reduceEqDiff, ↓reduceIte, Nat.reduceAdd, Nat.reduceSub]
 refine zF (zD rfl rfl) ?_; simp only [nA]
 refine zE (hK _ ?_); clear hK K
 skip
 refine zO ?_; (try simp only [zI, zJ, Nat.reduceEqDiff, ↓reduceIte]); exact RQ.of (.inl rfl) rfl (.tmp (bl rfl) rfl rfl .nil) (by simp) rfl (one_out rfl)
theorem C112i {u : Value} {d : Array Piece} {x : Int} (a s : Nat) (e : x = a) (h1 : 1 ≤ a) (h2 : a + 1 < d.size) (hl : d.size ≤ 1000) (hs : s ≤ 100) : Fn Tryz.prog 112 [.own 3 [[.v (.int .i64 s)]]] [.agg (dataR d u), .v (.int .i64 x), .ptr 0 0 0 0] [.v (.int .i64 (Go.Sort.medianAdjacent yB d a s).1)] [.own 3 [[.v (.int .i64 (Go.Sort.medianAdjacent yB d a s).2)]]] := by
 subst e; exact C112 h1 h2 hl hs
theorem nine {u : Value} {d : Array Piece} {a b : Nat} (h50 : b - a ≥ 50) (hb : b ≤ d.size) (hl : d.size ≤ 1000) : ∃ r1 r2 r3 : Nat × Nat,
   (∀ x : Int, x = ((a + (b - a) / 4 * 1 : Nat) : Int) → Fn Tryz.prog 112 [.own 3 [[.v (.int .i64 ((0 : Nat) : Int))]]] [.agg (dataR d u), .v (.int .i64 x), .ptr 0 0 0 0] [.v (.int .i64 r1.1)] [.own 3 [[.v (.int .i64 r1.2)]]]) ∧
   (∀ x : Int, x = ((a + (b - a) / 4 * 2 : Nat) : Int) → Fn Tryz.prog 112 [.own 3 [[.v (.int .i64 r1.2)]]] [.agg (dataR d u), .v (.int .i64 x), .ptr 0 0 0 0] [.v (.int .i64 r2.1)] [.own 3 [[.v (.int .i64 r2.2)]]]) ∧
   (∀ x : Int, x = ((a + (b - a) / 4 * 3 : Nat) : Int) → Fn Tryz.prog 112 [.own 3 [[.v (.int .i64 r2.2)]]] [.agg (dataR d u), .v (.int .i64 x), .ptr 0 0 0 0] [.v (.int .i64 r3.1)] [.own 3 [[.v (.int .i64 r3.2)]]]) ∧ nR yB d a b = (r1.1, r2.1, r3.1, r3.2) := by
 have b1 : 1 ≤ a + (b - a) / 4 * 1 ∧ a + (b - a) / 4 * 1 + 1 < d.size := by omega
 have b2 : 1 ≤ a + (b - a) / 4 * 2 ∧ a + (b - a) / 4 * 2 + 1 < d.size := by omega
 have b3 : 1 ≤ a + (b - a) / 4 * 3 ∧ a + (b - a) / 4 * 3 + 1 < d.size := by omega
 have hN := nR_pos (lt := yB) (d := d) h50
 generalize a + (b - a) / 4 * 1 = i1 at *
 generalize a + (b - a) / 4 * 2 = i2 at *
 generalize a + (b - a) / 4 * 3 = i3 at *
 have q1 := mab (lt := yB) (d := d) (s := 0) b1.2
 have k1 := fun (x : Int) (hx : x = (i1 : Nat)) => C112i (u := u) (d := d) i1 0 hx b1.1 b1.2 hl (by omega)
 generalize Go.Sort.medianAdjacent yB d i1 0 = r1 at *
 have q2 := mab (lt := yB) (d := d) (s := r1.2) b2.2
 have k2 := fun (x : Int) (hx : x = (i2 : Nat)) => C112i (u := u) (d := d) i2 r1.2 hx b2.1 b2.2 hl (by omega)
 generalize Go.Sort.medianAdjacent yB d i2 r1.2 = r2 at *
 have k3 := fun (x : Int) (hx : x = (i3 : Nat)) => C112i (u := u) (d := d) i3 r2.2 hx b3.1 b3.2 hl (by omega)
 generalize Go.Sort.medianAdjacent yB d i3 r2.2 = r3 at *
 exact ⟨r1, r2, r3, k1, k2, k3, hN⟩
theorem C98 {u : Value} {d : Array Piece} {a b : Nat} (h8 : 8 ≤ b - a) (hb : b ≤ d.size) (hl : d.size ≤ 1000) : Fn Tryz.prog 98 [] [.agg (dataR d u), .v (.int .i64 a), .v (.int .i64 b)] [.v (.int .i64 (Go.Sort.choosePivot yB d a b).1), .v (.int .i64 (hintI (Go.Sort.choosePivot yB d a b).2))] [] := by
 refine Spec.body Tryz.func98 rfl Tryz.ntmps98 (by simp) rfl ?_; intro S0 own0 v0 w0
 refine zA fun K hK => zB ?_
 refine yD (yO rfl rfl rfl sz114 rfl) ?_; simp only [nA, Nat.reduceBEq, Nat.reduceEqDiff, ↓reduceIte]
 refine zF (zD rfl rfl) ?_; try simp only [nA, Nat.reduceBEq, Nat.reduceEqDiff, ↓reduceIte, Nat.reduceAdd, Nat.reduceSub]
 refine zF (zD rfl rfl) ?_; try simp only [nA, Nat.reduceBEq, Nat.reduceEqDiff, ↓reduceIte, Nat.reduceAdd, Nat.reduceSub]
 refine zE (hK _ ?_); clear hK K; try simp only [nA, Nat.reduceBEq, Nat.reduceEqDiff, ↓reduceIte, Nat.reduceAdd, Nat.reduceSub]
 refine zA fun K hK => zB ?_
 refine zF (zC rfl rfl) ?_; simp only [nA, ↓reduceIte]
 refine zF (zC rfl rfl) ?_; simp only [nA, ↓reduceIte]
 (refine zF (op_subi rfl rfl rfl (by omega)) ?_); try simp only [nA, Nat.reduceBEq, Nat.reduceEqDiff, ↓reduceIte, Nat.reduceAdd, Nat.reduceSub]
 refine zF (zD rfl rfl) ?_; simp only [nA]
 refine zE (hK _ ?_); clear hK K
 refine zA fun K hK => zB ?_
 refine yD (op_alloc rfl ze3 rfl) ?_; simp only [nA, Nat.reduceBEq, Nat.reduceEqDiff, ↓reduceIte]
 refine zE (hK _ ?_); clear hK K
 refine zA fun K hK => zB ?_
 refine zF (zC rfl rfl) ?_; simp only [nA, ↓reduceIte]
 refine zF (zC rfl rfl) ?_; simp only [nA, ↓reduceIte]
 (refine zF (op_quoi rfl rfl rfl (by omega)) ?_); try simp only [nA, Nat.reduceBEq, Nat.reduceEqDiff, ↓reduceIte, Nat.reduceAdd, Nat.reduceSub]
 (refine zF (op_muli rfl rfl rfl (by omega)) ?_); try simp only [nA, Nat.reduceBEq, Nat.reduceEqDiff, ↓reduceIte, Nat.reduceAdd, Nat.reduceSub]
 (refine zF (zR rfl rfl rfl (by omega)) ?_); try simp only [nA, Nat.reduceBEq, Nat.reduceEqDiff, ↓reduceIte, Nat.reduceAdd, Nat.reduceSub]
 refine zF (zD rfl rfl) ?_; simp only [nA]
 refine zE (hK _ ?_); clear hK K
 refine zA fun K hK => zB ?_
 refine zF (zC rfl rfl) ?_; simp only [nA, ↓reduceIte]
 refine zF (zC rfl rfl) ?_; simp only [nA, ↓reduceIte]
 (refine zF (op_quoi rfl rfl rfl (by omega)) ?_); try simp only [nA, Nat.reduceBEq, Nat.reduceEqDiff, ↓reduceIte, Nat.reduceAdd, Nat.reduceSub]
 (refine zF (op_muli rfl rfl rfl (by omega)) ?_); try simp only [nA, Nat.reduceBEq, Nat.reduceEqDiff, ↓reduceIte, Nat.reduceAdd, Nat.reduceSub]
 (refine zF (zR rfl rfl rfl (by omega)) ?_); try simp only [nA, Nat.reduceBEq, Nat.reduceEqDiff, ↓reduceIte, Nat.reduceAdd, Nat.reduceSub]
 refine zF (zD rfl rfl) ?_; simp only [nA]
 refine zE (hK _ ?_); clear hK K
 refine zA fun K hK => zB ?_
 refine zF (zC rfl rfl) ?_; simp only [nA, ↓reduceIte]
 refine zF (zC rfl rfl) ?_; simp only [nA, ↓reduceIte]
 (refine zF (op_quoi rfl rfl rfl (by omega)) ?_); try simp only [nA, Nat.reduceBEq, Nat.reduceEqDiff, ↓reduceIte, Nat.reduceAdd, Nat.reduceSub]
 (refine zF (op_muli rfl rfl rfl (by omega)) ?_); try simp only [nA, Nat.reduceBEq, Nat.reduceEqDiff, ↓reduceIte, Nat.reduceAdd, Nat.reduceSub]
 (refine zF (zR rfl rfl rfl (by omega)) ?_); try simp only [nA, Nat.reduceBEq, Nat.reduceEqDiff, ↓reduceIte, Nat.reduceAdd, Nat.reduceSub]
 refine zF (zD rfl rfl) ?_; simp only [nA]
 refine zE (hK _ ?_); clear hK K
 refine zA fun K hK => ?_
 refine zA fun K hK => zB ?_
 refine zF (zC rfl rfl) ?_; simp only [nA, ↓reduceIte]
 refine zF (op_geq rfl rfl rfl) ?_; try simp only [nA, Nat.reduceBEq, Nat.reduceEqDiff, ↓reduceIte, Nat.reduceAdd, Nat.reduceSub]
 refine zE (hK _ ?_); clear hK K
 refine zL rfl rfl rfl (fun hc => ?_) (fun hc => ?_)
 ·
  (try simp only [z7] at hc); have hc1 := hc
  refine AW.join (ι := Nat × Nat × Nat × Nat) (fun q => [(3, .ptr 0 1 0 0), (9, .ptr 1 2 0 0), (10, .v (.int .i64 (q.1 : Nat))), (11, .v (.int .i64 (q.2.1 : Nat))), (12, .v (.int .i64 (q.2.2.1 : Nat)))]) (fun q => ⟨[(1, .own 114 [dataR d u]), (2, .own 3 [[.v (.int .i64 (q.2.2.2 : Nat))]])], 3⟩) (fun q => nR yB d a b = q) ?_ ?_
  ·
   refine zA fun K hK => zB ?_
   refine zF (zC rfl rfl) ?_; simp only [nA, ↓reduceIte]
   refine zF (op_geq rfl rfl rfl) ?_; try simp only [nA, Nat.reduceBEq, Nat.reduceEqDiff, ↓reduceIte, Nat.reduceAdd, Nat.reduceSub]
   refine zE (hK _ ?_); clear hK K; try simp only [nA, Nat.reduceBEq, Nat.reduceEqDiff, ↓reduceIte, Nat.reduceAdd, Nat.reduceSub]
   refine zL rfl rfl rfl (fun hc => ?_) (fun hc => ?_)
   ·
    (try simp only [z7] at hc); have hc2 := hc; have h50 : b - a ≥ 50 := (by omega); obtain ⟨r1, r2, r3, k1, k2, k3, hN⟩ := nine (u := u) h50 hb hl
    refine zA fun K hK => zB ?_
    (refine awR (zK rfl rfl rfl rfl ag114 sz114 (bl rfl) rfl) ?_); try simp only [nA, Nat.reduceBEq, Nat.reduceEqDiff, ↓reduceIte, Nat.reduceAdd, Nat.reduceSub]
    refine zF (zC rfl rfl) ?_; simp only [nA, ↓reduceIte]
    refine yD (yQ (r := 1) rfl en112 (k1 _ (by omega)) (by exact rfl) (RL.cons (.base (.same (by exact rfl))) (RL.cons (.base (.same (by exact rfl))) (RL.cons .ptr RL.nil))) (by exact ⟨_, _, _, rfl, rfl, rfl⟩) (by exact rfl) (by exact rfl) (by exact rfl)) ?_; try simp only [nA, Nat.reduceBEq, Nat.reduceEqDiff, ↓reduceIte, Nat.reduceAdd, Nat.reduceSub]
    refine zF (zD rfl rfl) ?_; simp only [nA]
    refine zE (hK _ ?_); clear hK K
    refine zA fun K hK => zB ?_
    (refine awR (zK rfl rfl rfl rfl ag114 sz114 (bl rfl) rfl) ?_); try simp only [nA, Nat.reduceBEq, Nat.reduceEqDiff, ↓reduceIte, Nat.reduceAdd, Nat.reduceSub]
    refine zF (zC rfl rfl) ?_; simp only [nA, ↓reduceIte]
    refine yD (yQ (r := 1) rfl en112 (k2 _ (by omega)) (by exact rfl) (RL.cons (.base (.same (by exact rfl))) (RL.cons (.base (.same (by exact rfl))) (RL.cons .ptr RL.nil))) (by exact ⟨_, _, _, rfl, rfl, rfl⟩) (by exact rfl) (by exact rfl) (by exact rfl)) ?_; try simp only [nA, Nat.reduceBEq, Nat.reduceEqDiff, ↓reduceIte, Nat.reduceAdd, Nat.reduceSub]
    refine zF (zD rfl rfl) ?_; simp only [nA]
    refine zE (hK _ ?_); clear hK K
    refine zB ?_
    (refine awR (zK rfl rfl rfl rfl ag114 sz114 (bl rfl) rfl) ?_); try simp only [nA, Nat.reduceBEq, Nat.reduceEqDiff, ↓reduceIte, Nat.reduceAdd, Nat.reduceSub]
    refine zF (zC rfl rfl) ?_; simp only [nA, ↓reduceIte]
    refine yD (yQ (r := 1) rfl en112 (k3 _ (by omega)) (by exact rfl) (RL.cons (.base (.same (by exact rfl))) (RL.cons (.base (.same (by exact rfl))) (RL.cons .ptr RL.nil))) (by exact ⟨_, _, _, rfl, rfl, rfl⟩) (by exact rfl) (by exact rfl) (by exact rfl)) ?_; try simp only [nA, Nat.reduceBEq, Nat.reduceEqDiff, ↓reduceIte, Nat.reduceAdd, Nat.reduceSub]
    refine zF (zD rfl rfl) ?_; simp only [nA]
    refine zE ?_
    exact ⟨(r1.1, r2.1, r3.1, r3.2), hN, ⟨rfl, rfl, rfl, rfl, rfl, trivial⟩, rfl, rfl⟩
   (try simp only [z7] at hc); have hc2 := hc; have h50 : ¬ b - a ≥ 50 := (by omega)
   refine zM ?_
   exact ⟨((a + (b - a) / 4 * 1), (a + (b - a) / 4 * 2), (a + (b - a) / 4 * 3), 0), nR_neg h50, ⟨rfl, rfl, vint (by dsimp only; omega), vint (by dsimp only; omega), vint (by dsimp only; omega), trivial⟩, rfl, rfl⟩
  rintro ⟨n1, n2, n3, n4⟩ ρ hN; simp only [updL]; have hn := nR_bd (lt := yB) h8 hb; have hch := chooseP (lt := yB) (d := d) h8; rw [hN] at hn hch; dsimp only at hn hch ⊢; have k4 := C113 (u := u) (d := d) (a := n1) (b := n2) (c := n3) (s := n4) hn.1 hn.2.1 hn.2.2.1 hl (by omega); generalize Go.Sort.median yB d n1 n2 n3 n4 = m at k4 hch
  refine zB ?_
  (refine awR (zK rfl rfl rfl rfl ag114 sz114 (bl rfl) rfl) ?_); try simp only [nA, Nat.reduceBEq, Nat.reduceEqDiff, ↓reduceIte, Nat.reduceAdd, Nat.reduceSub]
  refine zF (zC rfl rfl) ?_; simp only [nA, ↓reduceIte]
  refine zF (zC rfl rfl) ?_; simp only [nA, ↓reduceIte]
  refine zF (zC rfl rfl) ?_; simp only [nA, ↓reduceIte]
  refine yD (yQ (r := 1) rfl en113 k4 (by exact rfl) (RL.cons (.base (.same (by exact rfl))) (RL.cons (.base (.same (by exact rfl))) (RL.cons (.base (.same (by exact rfl))) (RL.cons (.base (.same (by exact rfl))) (RL.cons .ptr RL.nil))))) (by exact ⟨_, _, _, rfl, rfl, rfl⟩) (by exact rfl) (by exact rfl) (by exact rfl)) ?_; try simp only [nA, Nat.reduceBEq, Nat.reduceEqDiff, ↓reduceIte, Nat.reduceAdd, Nat.reduceSub]
  refine zF (zD rfl rfl) ?_; simp only [nA]
  refine zE (hK _ ?_); clear hK K
  refine zA fun K hK => zB ?_
  (refine awR (zG rfl rfl rfl rfl ag3 rfl rfl) ?_); try simp only [nA, Nat.reduceBEq, Nat.reduceEqDiff, ↓reduceIte, Nat.reduceAdd, Nat.reduceSub]
  refine zE (hK _ ?_); clear hK K
  refine zN ?_
  refine zA fun K hK => zB ?_
  (refine zF (op_eql rfl rfl rfl) ?_); try simp only [nA, Nat.reduceBEq, Nat.reduceEqDiff, ↓reduceIte, Nat.reduceAdd, Nat.reduceSub]
  refine zF (zD rfl rfl) ?_; simp only [nA]
  refine zE (hK _ ?_); clear hK K
  refine zL rfl rfl rfl (fun hc => ?_) (fun hc => ?_)
  ·
   (try simp only [z7] at hc); have hc3 := hc
   refine zA fun K hK => zB ?_
   refine zF (zC rfl rfl) ?_; simp only [nA, ↓reduceIte]
   refine zF (zD rfl rfl) ?_; simp only [nA]
   refine zF (zD rfl rfl) ?_; try simp only [nA, Nat.reduceBEq, Nat.reduceEqDiff, ↓reduceIte, Nat.reduceAdd, Nat.reduceSub]
   refine zE (hK _ ?_); clear hK K
   skip
   refine zO ?_; (try simp only [zI, zJ, Nat.reduceEqDiff, ↓reduceIte]); rw [hch, if_pos (by omega)]; exact zS rfl (.tmp (bl rfl) rfl rfl (.tmp (bl rfl) rfl rfl .nil))
  (try simp only [z7] at hc); have hc3 := hc
  refine zA fun K hK => zB ?_
  (refine zF (op_eql rfl rfl rfl) ?_); try simp only [nA, Nat.reduceBEq, Nat.reduceEqDiff, ↓reduceIte, Nat.reduceAdd, Nat.reduceSub]
  refine zF (zD rfl rfl) ?_; simp only [nA]
  refine zE (hK _ ?_); clear hK K
  refine zL rfl rfl rfl (fun hc => ?_) (fun hc => ?_)
  ·
   (try simp only [z7] at hc); have hc4 := hc
   refine zA fun K hK => zB ?_
   refine zF (zC rfl rfl) ?_; simp only [nA, ↓reduceIte]
   refine zF (zD rfl rfl) ?_; simp only [nA]
   refine zF (zD rfl rfl) ?_; try simp only [nA, Nat.reduceBEq, Nat.reduceEqDiff, ↓reduceIte, Nat.reduceAdd, Nat.reduceSub]
   refine zE (hK _ ?_); clear hK K
   skip
   refine zO ?_; (try simp only [zI, zJ, Nat.reduceEqDiff, ↓reduceIte]); rw [hch, if_neg (by omega), if_pos (by omega)]; exact zS rfl (.tmp (bl rfl) rfl rfl (.tmp (bl rfl) rfl rfl .nil))
  (try simp only [z7] at hc); have hc4 := hc
  refine zA fun K hK => zB ?_
  refine zF (zC rfl rfl) ?_; simp only [nA, ↓reduceIte]
  refine zF (zD rfl rfl) ?_; simp only [nA]
  refine zF (zD rfl rfl) ?_; try simp only [nA, Nat.reduceBEq, Nat.reduceEqDiff, ↓reduceIte, Nat.reduceAdd, Nat.reduceSub]
  refine zE (hK _ ?_); clear hK K
  skip
  refine zO ?_; (try simp only [zI, zJ, Nat.reduceEqDiff, ↓reduceIte]); rw [hch, if_neg (by omega), if_neg (by omega)]; exact zS rfl (.tmp (bl rfl) rfl rfl (.tmp (bl rfl) rfl rfl .nil))
 (simp at hc; omega)
set_option maxRecDepth 100000
section
open Go.Sort
variable {lt : Piece → Piece → Bool} {a b i i2 j k s : Nat} {d d3 dw : Array Piece}
theorem scanS_pos (h : i < b) (h2 : lt d[i]! d[i - 1]! = false) : scanSorted lt d b i = scanSorted lt d b (i + 1) := by
 rw [scanSorted, if_pos (by rw [h2]; simp [h])]
theorem scanS_neg (h : ¬ (i < b ∧ lt d[i]! d[i - 1]! = false)) : scanSorted lt d b i = i := by
 rw [scanSorted, if_neg (by simpa using h)]
theorem pI_done (h : scanSorted lt d b i = b) : partialIns lt a b (s + 1) i d = (d, true) := by
 rw [partialIns]
 simp only [h, if_true]
theorem pI_small (h : scanSorted lt d b i = i2) (h2 : ¬ i2 = b) (h3 : b - a < 50) : partialIns lt a b (s + 1) i d = (d, false) := by
 rw [partialIns]
 simp only [h, h2, h3, if_false, if_true]
theorem pI_step (h : scanSorted lt d b i = i2) (h2 : ¬ i2 = b) (h3 : ¬ b - a < 50) (hw : swp d i2 (i2 - 1) = dw) (hd : (if i2 - a ≥ 2 then shiftDown lt (i2 - 1) dw else dw) = d3) :
   partialIns lt a b (s + 1) i d = partialIns lt a b s i2 (if b - i2 ≥ 2 then shiftUp lt b (i2 + 1) d3 else d3) := by
 subst hw
 subst hd
 rw [partialIns]
 simp only [h, h2, h3, if_false]
theorem sd_0 : shiftDown lt 0 d = d := rfl
theorem sd_stop (hj : 1 ≤ j) (h : lt d[j]! d[j - 1]! = false) : shiftDown lt j d = d := by
 obtain ⟨j, rfl⟩ : ∃ q, j = q + 1 := ⟨j - 1, by omega⟩
 rw [Nat.add_sub_cancel] at h
 rw [shiftDown, h]
 rfl
theorem sd_step (hj : 1 ≤ j) (h : lt d[j]! d[j - 1]! = true) : shiftDown lt j d = shiftDown lt (j - 1) (swp d j (j - 1)) := by
 obtain ⟨j, rfl⟩ : ∃ q, j = q + 1 := ⟨j - 1, by omega⟩
 rw [Nat.add_sub_cancel] at h ⊢
 rw [shiftDown, h]
 rfl
theorem su_end (h : ¬ k < b) : shiftUp lt b k d = d := by rw [shiftUp, if_neg h]
theorem su_stop (hk : k < b) (h : lt d[k]! d[k - 1]! = false) : shiftUp lt b k d = d := by rw [shiftUp, if_pos hk, h]; rfl
theorem su_step (hk : k < b) (h : lt d[k]! d[k - 1]! = true) : shiftUp lt b k d = shiftUp lt b (k + 1) (swp d k (k - 1)) := by rw [shiftUp, if_pos hk, h]; rfl
theorem sd_size : ∀ (j : Nat) (d : Array Piece), (shiftDown lt j d).size = d.size
 | 0, d => rfl
 | j + 1, d => by
   rw [shiftDown]
   split
   · rfl
   rw [sd_size j, size_swp]
theorem su_size (b : Nat) : ∀ (n k : Nat) (d : Array Piece), b - k = n → (shiftUp lt b k d).size = d.size
 | 0, k, d, h => by rw [su_end (by omega)]
 | n + 1, k, d, h => by
   rw [shiftUp, if_pos (by omega)]
   split
   · rfl
   rw [su_size b n (k + 1) _ (by omega), size_swp]
theorem pIns_size (a b : Nat) : ∀ (s i : Nat) (d : Array Piece), (partialIns lt a b s i d).1.size = d.size
 | 0, _, d => rfl
 | s + 1, i, d => by
   by_cases h1 : scanSorted lt d b i = b
   · rw [pI_done h1]
   by_cases h3 : b - a < 50
   · rw [pI_small rfl h1 h3]
   rw [pI_step rfl h1 h3 rfl rfl, pIns_size a b s]
   have e1 : ∀ x : Array Piece, (if b - scanSorted lt d b i ≥ 2 then shiftUp lt b (scanSorted lt d b i + 1) x else x).size = x.size := fun x => by
     split
     · exact su_size _ _ _ _ rfl
     rfl
   have e2 : ∀ x : Array Piece, (if scanSorted lt d b i - a ≥ 2 then shiftDown lt (scanSorted lt d b i - 1) x else x).size = x.size := fun x => by
     split
     · exact sd_size _ _
     rfl
   rw [e1, e2, size_swp]
theorem pI_size (d : Array Piece) (a b : Nat) : (partialInsertionSort lt d a b).1.size = d.size := pIns_size a b 5 (a + 1) d
end
theorem C100 {u : Value} {d : Array Piece} {a b : Nat} (hab : a < b) (hb : b ≤ d.size) (hl : d.size ≤ 1000) : Fn Tryz.prog 100 [srt u d] [.agg (dataW u), .v (.int .i64 a), .v (.int .i64 b)] [.v (.bool (Go.Sort.partialInsertionSort yB d a b).2)] [srt u (Go.Sort.partialInsertionSort yB d a b).1] := by
 refine Spec.body Tryz.func100 rfl Tryz.ntmps100 (by simp) rfl ?_; intro S0 own0 v0 w0
 refine zA fun K hK => zB ?_
 refine yD (yO rfl rfl rfl sz114 rfl) ?_; simp only [nA, Nat.reduceBEq, Nat.reduceEqDiff, ↓reduceIte]
 refine zF (zD rfl rfl) ?_; try simp only [nA, Nat.reduceBEq, Nat.reduceEqDiff, ↓reduceIte, Nat.reduceAdd, Nat.reduceSub]
 refine zE (hK _ ?_); clear hK K; try simp only [nA, Nat.reduceBEq, Nat.reduceEqDiff, ↓reduceIte, Nat.reduceAdd, Nat.reduceSub]
 refine zA fun K hK => zB ?_
 refine zF (zC rfl rfl) ?_; simp only [nA, ↓reduceIte]
 (refine zF (zR rfl rfl rfl (by omega)) ?_); try simp only [nA, Nat.reduceBEq, Nat.reduceEqDiff, ↓reduceIte, Nat.reduceAdd, Nat.reduceSub]
 refine zF (zD rfl rfl) ?_; simp only [nA]
 refine zE (hK _ ?_); clear hK K
 refine zA fun K hK => ?_
 refine zA fun K hK => zB ?_
 refine zF (zD rfl rfl) ?_; try simp only [nA, Nat.reduceBEq, Nat.reduceEqDiff, ↓reduceIte, Nat.reduceAdd, Nat.reduceSub]
 refine zE (hK _ ?_); clear hK K
 refine zN ?_
 refine yC (fun (q : Nat × Nat × Array Piece) => [(1, .v (.int .i64 a)), (2, .v (.int .i64 b)), (3, .ptr 1 1 0 0), (7, .v (.int .i64 (q.2.1 : Nat))), (8, .v (.int .i64 ((5 : Int) - (q.1 : Nat))))]) (fun q => ⟨[(0, srt u q.2.2), (1, .own 114 [dataW u])], 2⟩) (fun q => q.1 ≤ 5 ∧ a < q.2.1 ∧ q.2.1 ≤ b ∧ q.2.2.size = d.size ∧ Go.Sort.partialIns yB a b q.1 q.2.1 q.2.2 = Go.Sort.partialInsertionSort yB d a b) (fun q => q.1) (5, a + 1, d) ⟨by dsimp only; omega, by dsimp only; omega, by dsimp only; omega, rfl, rfl⟩ ⟨rfl, rfl, rfl, vint (by simp), vint (by simp), trivial⟩ rfl ?_; rintro ⟨s, i, dk⟩ ρ ⟨hs5, hai, hib, hsz, hP⟩; dsimp only at hs5 hai hib hsz hP ⊢; simp only [updL]
 refine zA fun K hK => ?_
 refine zA fun K hK => zB ?_
 refine zF (zC rfl rfl) ?_; simp only [nA, ↓reduceIte]
 refine zF (yP rfl rfl rfl) ?_; try simp only [nA, Nat.reduceBEq, Nat.reduceEqDiff, ↓reduceIte, Nat.reduceAdd, Nat.reduceSub]
 refine zE (hK _ ?_); clear hK K
 refine zL rfl rfl rfl (fun hc => ?_) (fun hc => ?_)
 ·
  (try simp only [z7] at hc); have hc1 := hc; obtain ⟨s, rfl⟩ : ∃ q, s = q + 1 := ⟨s - 1, by omega⟩
  refine zM ?_
  refine hK _ ?_; clear hK K
  refine zA fun K hK => zN ?_
  refine zA fun K hK => zN ?_
  refine yC (fun (i : Nat) => [(1, .v (.int .i64 a)), (2, .v (.int .i64 b)), (3, .ptr 1 1 0 0), (7, .v (.int .i64 (i : Nat))), (8, .v (.int .i64 ((5 : Int) - ((s + 1 : Nat) : Int))))]) (fun _ => ⟨[(0, srt u dk), (1, .own 114 [dataW u])], 2⟩) (fun i2 => a < i2 ∧ i2 ≤ b ∧ Go.Sort.scanSorted yB dk b i2 = Go.Sort.scanSorted yB dk b i) (fun i2 => b - i2) i ⟨by omega, by omega, rfl⟩ ⟨rfl, rfl, rfl, rfl, rfl, trivial⟩ rfl ?_; rintro i2 ρ2 ⟨hi1, hi2, hS⟩; simp only [updL]
  refine zA fun K hK => ?_
  refine zA fun K hK => zB (yS ?_)
  refine zQ (zC rfl rfl) ?_; simp only [nA, ↓reduceIte]
  refine zQ (zC rfl rfl) ?_; simp only [nA, ↓reduceIte]
  refine zQ (yP rfl rfl rfl) ?_; try simp only [nA, Nat.reduceBEq, Nat.reduceEqDiff, ↓reduceIte, Nat.reduceAdd, Nat.reduceSub]
  refine zQ (zC rfl rfl) ?_; simp only [nA]
  refine' yK [_, _, _, _, _, _, _] [21,22,23,24,25,26,27] rfl rfl rfl rfl rfl rfl rfl rfl rfl rfl rfl rfl (fun hb => ?_) ?_; rotate_left
  ·
   (try simp only [z7] at hb)
   (refine zQ (zH rfl rfl rfl fl114_0 (by exact sz2) (by decide) rfl) ?_); try simp only [nA, Nat.reduceBEq, Nat.reduceEqDiff, ↓reduceIte, Nat.reduceAdd, Nat.reduceSub]
   (refine aqR (zG rfl rfl rfl rfl ag87 rfl rfl) ?_); try simp only [nA, Nat.reduceBEq, Nat.reduceEqDiff, ↓reduceIte, Nat.reduceAdd, Nat.reduceSub]
   refine zQ (zC rfl rfl) ?_; simp only [nA, ↓reduceIte]
   refine zQ (zC rfl rfl) ?_; simp only [nA, ↓reduceIte]
   (refine zQ (op_subi rfl rfl rfl (by omega)) ?_); try simp only [nA, Nat.reduceBEq, Nat.reduceEqDiff, ↓reduceIte, Nat.reduceAdd, Nat.reduceSub]
   refine aqQ (op_lt (r := 0) (d := dk) rfl rfl rfl rfl rfl (by omega) (by omega) (by omega)) ?_; try simp only [nA, Nat.reduceBEq, Nat.reduceEqDiff, ↓reduceIte, Nat.reduceAdd, Nat.reduceSub]
   refine zQ (op_not rfl rfl rfl) ?_; try simp only [nA, Nat.reduceBEq, Nat.reduceEqDiff, ↓reduceIte, Nat.reduceAdd, Nat.reduceSub]
   (refine yL rfl rfl rfl ?_; repeat (first | exact fun _ _ => rfl | refine zU rfl ?_))
  refine yN (hK _ ?_); clear hK K
  refine zL rfl rfl rfl (fun hc => ?_) (fun hc => ?_)
  ·
   (try simp only [z7] at hc); have hc2 := hc; simp only [Int.toNat_natCast, Bool.and_eq_true, Bool.not_eq_true', decide_eq_true_eq, show ((i2 : Int) - 1).toNat = i2 - 1 by omega] at hc
   refine zM ?_
   refine hK _ ?_; clear hK K
   refine zN ?_
   refine zB ?_
   refine zF (zC rfl rfl) ?_; simp only [nA, Nat.reduceEqDiff, ↓reduceIte]
   (refine zF (zR rfl rfl rfl (by omega)) ?_); try simp only [nA, Nat.reduceBEq, Nat.reduceEqDiff, ↓reduceIte, Nat.reduceAdd, Nat.reduceSub]
   refine zF (zD rfl rfl) ?_; simp only [nA]
   refine zE ?_
   (try simp only [zI, zJ, Nat.reduceEqDiff, ↓reduceIte])
   refine ⟨i2 + 1, ⟨by omega, by omega, by rw [← hS]; exact (scanS_pos (lt := yB) (d := dk) (b := b) (i := i2) (by omega) hc.2).symm⟩, by omega, ⟨rfl, rfl, rfl, rfl, rfl, trivial⟩, (by trivial), (by trivial)⟩
  (try simp only [z7] at hc); have hc2 := hc; simp only [Int.toNat_natCast, Bool.and_eq_true, Bool.not_eq_true', decide_eq_true_eq, show ((i2 : Int) - 1).toNat = i2 - 1 by omega] at hc
  refine yE ?_; try simp only [zI, zJ, Nat.reduceEqDiff, ↓reduceIte]
  clear hK K
  refine hK _ ?_; clear hK K
  refine zA fun K hK => ?_
  refine zA fun K hK => zB ?_
  refine zF (zC rfl rfl) ?_; simp only [nA, Nat.reduceEqDiff, ↓reduceIte]
  refine zF (zC rfl rfl) ?_; simp only [nA, Nat.reduceEqDiff, ↓reduceIte]
  (refine zF (op_eql rfl rfl rfl) ?_); try simp only [nA, Nat.reduceBEq, Nat.reduceEqDiff, ↓reduceIte, Nat.reduceAdd, Nat.reduceSub]
  refine zE (hK _ ?_); clear hK K
  refine zL rfl rfl rfl (fun hc => ?_) (fun hc => ?_)
  ·
   (try simp only [z7] at hc); have hc3 := hc; have hse : Go.Sort.scanSorted yB dk b i = i2 := hS.symm.trans (scanS_neg (by rintro ⟨h1, h2⟩; rcases hc2 with h | h; omega; simp [h2] at h)); have he3 : i2 = b := (by omega)
   refine zA fun K hK => zB ?_
   refine zF (zD rfl rfl) ?_; try simp only [nA, Nat.reduceBEq, Nat.reduceEqDiff, ↓reduceIte, Nat.reduceAdd, Nat.reduceSub]
   refine zE (hK _ ?_); clear hK K
   skip
   refine zO ?_; (try simp only [zI, zJ, Nat.reduceEqDiff, ↓reduceIte]); rw [← hP, pI_done (hse.trans he3)]; exact RQ.of (.inl rfl) rfl (.tmp (bl rfl) rfl rfl .nil) (by simp) rfl (one_out rfl)
  (try simp only [z7] at hc); have hc3 := hc; have hse : Go.Sort.scanSorted yB dk b i = i2 := hS.symm.trans (scanS_neg (by rintro ⟨h1, h2⟩; rcases hc2 with h | h; omega; simp [h2] at h)); have he3 : ¬ i2 = b := (by omega)
  refine zM ?_
  refine hK _ ?_; clear hK K
  refine zA fun K hK => ?_
  refine zA fun K hK => zB ?_
  refine zF (zC rfl rfl) ?_; simp only [nA, Nat.reduceEqDiff, ↓reduceIte]
  refine zF (zC rfl rfl) ?_; simp only [nA, Nat.reduceEqDiff, ↓reduceIte]
  (refine zF (op_subi rfl rfl rfl (by omega)) ?_); try simp only [nA, Nat.reduceBEq, Nat.reduceEqDiff, ↓reduceIte, Nat.reduceAdd, Nat.reduceSub]
  refine zF (yP rfl rfl rfl) ?_; try simp only [nA, Nat.reduceBEq, Nat.reduceEqDiff, ↓reduceIte, Nat.reduceAdd, Nat.reduceSub]
  refine zE (hK _ ?_); clear hK K
  refine zL rfl rfl rfl (fun hc => ?_) (fun hc => ?_)
  ·
   (try simp only [z7] at hc); have hc4 := hc; have h4 : b - a < 50 := (by omega)
   refine zA fun K hK => zB ?_
   refine zF (zD rfl rfl) ?_; try simp only [nA, Nat.reduceBEq, Nat.reduceEqDiff, ↓reduceIte, Nat.reduceAdd, Nat.reduceSub]
   refine zE (hK _ ?_); clear hK K
   skip
   refine zO ?_; (try simp only [zI, zJ, Nat.reduceEqDiff, ↓reduceIte]); rw [← hP, pI_small hse he3 h4]; exact RQ.of (.inl rfl) rfl (.tmp (bl rfl) rfl rfl .nil) (by simp) rfl (one_out rfl)
  (try simp only [z7] at hc); have hc4 := hc; have h4 : ¬ b - a < 50 := (by omega)
  refine zM ?_
  refine hK _ ?_; clear hK K
  refine zA fun K hK => zB ?_
  (refine zF (zH rfl rfl rfl fl114_1 (by exact sz2) (by decide) rfl) ?_); try simp only [nA, Nat.reduceBEq, Nat.reduceEqDiff, ↓reduceIte, Nat.reduceAdd, Nat.reduceSub]
  (refine awR (zG rfl rfl rfl rfl ag108 rfl rfl) ?_); try simp only [nA, Nat.reduceBEq, Nat.reduceEqDiff, ↓reduceIte, Nat.reduceAdd, Nat.reduceSub]
  refine zF (zC rfl rfl) ?_; simp only [nA, Nat.reduceEqDiff, ↓reduceIte]
  refine zF (zC rfl rfl) ?_; simp only [nA, Nat.reduceEqDiff, ↓reduceIte]
  (refine zF (op_subi rfl rfl rfl (by omega)) ?_); try simp only [nA, Nat.reduceBEq, Nat.reduceEqDiff, ↓reduceIte, Nat.reduceAdd, Nat.reduceSub]
  refine yD (op_sw (r := 0) (d := dk) rfl rfl rfl rfl rfl (by omega) (by omega) rfl) ?_; simp only [Int.toNat_natCast, show ((i2 : Int) - 1).toNat = i2 - 1 by omega]; try simp only [nA, Nat.reduceBEq, Nat.reduceEqDiff, ↓reduceIte, Nat.reduceAdd, Nat.reduceSub]
  refine zE (hK _ ?_); clear hK K
  have hszw : (Go.Sort.swp dk i2 (i2 - 1)).size = d.size := (by rw [Go.Sort.size_swp, hsz]); refine AW.join (ι := Unit) (fun _ => [(1, .v (.int .i64 a)), (2, .v (.int .i64 b)), (3, .ptr 1 1 0 0), (7, .v (.int .i64 (i2 : Nat))), (8, .v (.int .i64 ((5 : Int) - ((s + 1 : Nat) : Int))))]) (fun _ => ⟨[(0, srt u (if i2 - a ≥ 2 then Go.Sort.shiftDown yB (i2 - 1) (Go.Sort.swp dk i2 (i2 - 1)) else (Go.Sort.swp dk i2 (i2 - 1)))), (1, .own 114 [dataW u])], 2⟩) (fun _ => True) ?_ ?_
  ·
   refine zA fun K hK => zB ?_
   refine zF (zC rfl rfl) ?_; simp only [nA, Nat.reduceEqDiff, ↓reduceIte]
   refine zF (zC rfl rfl) ?_; simp only [nA, Nat.reduceEqDiff, ↓reduceIte]
   (refine zF (op_subi rfl rfl rfl (by omega)) ?_); try simp only [nA, Nat.reduceBEq, Nat.reduceEqDiff, ↓reduceIte, Nat.reduceAdd, Nat.reduceSub]
   refine zF (op_geq rfl rfl rfl) ?_; try simp only [nA, Nat.reduceBEq, Nat.reduceEqDiff, ↓reduceIte, Nat.reduceAdd, Nat.reduceSub]
   refine zE (hK _ ?_); clear hK K; try simp only [nA, Nat.reduceBEq, Nat.reduceEqDiff, ↓reduceIte, Nat.reduceAdd, Nat.reduceSub]
   refine zL rfl rfl rfl (fun hc => ?_) (fun hc => ?_)
   ·
    (try simp only [z7] at hc); have hc5 := hc; have h5 : i2 - a ≥ 2 := (by omega)
    refine zA fun K hK => zB ?_
    refine zF (zC rfl rfl) ?_; simp only [nA, Nat.reduceEqDiff, ↓reduceIte]
    (refine zF (op_subi rfl rfl rfl (by omega)) ?_); try simp only [nA, Nat.reduceBEq, Nat.reduceEqDiff, ↓reduceIte, Nat.reduceAdd, Nat.reduceSub]
    refine zF (zD rfl rfl) ?_; simp only [nA]
    refine zE (hK _ ?_); clear hK K
    refine zN ?_
    refine yC (fun (q : Nat × Array Piece) => [(1, .v (.int .i64 a)), (2, .v (.int .i64 b)), (3, .ptr 1 1 0 0), (7, .v (.int .i64 (i2 : Nat))), (8, .v (.int .i64 ((5 : Int) - ((s + 1 : Nat) : Int)))), (9, .v (.int .i64 (q.1 : Nat)))]) (fun q => ⟨[(0, srt u q.2), (1, .own 114 [dataW u])], 2⟩) (fun q => q.1 ≤ i2 - 1 ∧ q.2.size = d.size ∧ Go.Sort.shiftDown yB q.1 q.2 = Go.Sort.shiftDown yB (i2 - 1) (Go.Sort.swp dk i2 (i2 - 1))) (fun q => q.1) (i2 - 1, (Go.Sort.swp dk i2 (i2 - 1))) ⟨Nat.le_refl _, hszw, rfl⟩ ⟨rfl, rfl, rfl, rfl, rfl, vint (by dsimp only; omega), trivial⟩ rfl ?_; rintro ⟨j, dj⟩ ρ3 ⟨hj, hszj, hJ⟩; dsimp only at hj hszj hJ ⊢; simp only [updL]
    refine zA fun K hK => ?_
    refine zA fun K hK => zB ?_
    refine zF (zC rfl rfl) ?_; simp only [nA, ↓reduceIte]
    refine zF (op_geq rfl rfl rfl) ?_; try simp only [nA, Nat.reduceBEq, Nat.reduceEqDiff, ↓reduceIte, Nat.reduceAdd, Nat.reduceSub]
    refine zE (hK _ ?_); clear hK K
    refine zL rfl rfl rfl (fun hc => ?_) (fun hc => ?_)
    ·
     (try simp only [z7] at hc); have hc6 := hc; have h6 : 1 ≤ j := (by omega)
     refine zM ?_
     refine hK _ ?_; clear hK K
     refine zA fun K hK => zN ?_
     refine zA fun K hK => ?_
     refine zA fun K hK => zB ?_
     (refine zF (zH rfl rfl rfl fl114_0 (by exact sz2) (by decide) rfl) ?_); try simp only [nA, Nat.reduceBEq, Nat.reduceEqDiff, ↓reduceIte, Nat.reduceAdd, Nat.reduceSub]
     (refine awR (zG rfl rfl rfl rfl ag87 rfl rfl) ?_); try simp only [nA, Nat.reduceBEq, Nat.reduceEqDiff, ↓reduceIte, Nat.reduceAdd, Nat.reduceSub]
     refine zF (zC rfl rfl) ?_; simp only [nA, ↓reduceIte]
     refine zF (zC rfl rfl) ?_; simp only [nA, ↓reduceIte]
     (refine zF (op_subi rfl rfl rfl (by omega)) ?_); try simp only [nA, Nat.reduceBEq, Nat.reduceEqDiff, ↓reduceIte, Nat.reduceAdd, Nat.reduceSub]
     refine yD (OpQ.j (op_lt (r := 0) (d := dj) rfl rfl rfl rfl rfl (by omega) (by omega) (by omega))) ?_; try simp only [nA, Nat.reduceBEq, Nat.reduceEqDiff, ↓reduceIte, Nat.reduceAdd, Nat.reduceSub]
     refine zF (op_not rfl rfl rfl) ?_; try simp only [nA, Nat.reduceBEq, Nat.reduceEqDiff, ↓reduceIte, Nat.reduceAdd, Nat.reduceSub]
     refine zE (hK _ ?_); clear hK K
     refine zL rfl rfl rfl (fun hc => ?_) (fun hc => ?_)
     ·
      (try simp only [z7] at hc); have hc7 := hc; simp only [Int.toNat_natCast, Bool.not_eq_true', Bool.not_eq_false', show ((j : Int) - 1).toNat = j - 1 by omega] at hc
      refine yE ?_; try simp only [zI, zJ, Nat.reduceEqDiff, ↓reduceIte]
      clear hK K
      clear hK K
      refine ⟨(), trivial, ⟨rfl, rfl, rfl, rfl, rfl, trivial⟩, ?_, (by trivial)⟩; simp only [if_pos h5]; rw [← hJ, sd_stop h6 hc]
     (try simp only [z7] at hc); have hc7 := hc; simp only [Int.toNat_natCast, Bool.not_eq_true', Bool.not_eq_false', show ((j : Int) - 1).toNat = j - 1 by omega] at hc
     refine zM ?_
     refine hK _ ?_; clear hK K
     refine zB ?_
     (refine zF (zH rfl rfl rfl fl114_1 (by exact sz2) (by decide) rfl) ?_); try simp only [nA, Nat.reduceBEq, Nat.reduceEqDiff, ↓reduceIte, Nat.reduceAdd, Nat.reduceSub]
     (refine awR (zG rfl rfl rfl rfl ag108 rfl rfl) ?_); try simp only [nA, Nat.reduceBEq, Nat.reduceEqDiff, ↓reduceIte, Nat.reduceAdd, Nat.reduceSub]
     refine zF (zC rfl rfl) ?_; simp only [nA, ↓reduceIte]
     refine zF (zC rfl rfl) ?_; simp only [nA, ↓reduceIte]
     (refine zF (op_subi rfl rfl rfl (by omega)) ?_); try simp only [nA, Nat.reduceBEq, Nat.reduceEqDiff, ↓reduceIte, Nat.reduceAdd, Nat.reduceSub]
     refine yD (op_sw (r := 0) (d := dj) rfl rfl rfl rfl rfl (by omega) (by omega) rfl) ?_; try simp only [nA, Nat.reduceBEq, Nat.reduceEqDiff, ↓reduceIte, Nat.reduceAdd, Nat.reduceSub]
     refine zE ?_
     (try simp only [zI, zJ, Nat.reduceEqDiff, ↓reduceIte])
     refine hK _ ?_; clear hK K
     refine zB ?_
     refine zF (zC rfl rfl) ?_; simp only [nA, ↓reduceIte]
     (refine zF (op_subi rfl rfl rfl (by omega)) ?_); try simp only [nA, Nat.reduceBEq, Nat.reduceEqDiff, ↓reduceIte, Nat.reduceAdd, Nat.reduceSub]
     refine zF (zD rfl rfl) ?_; simp only [nA]
     skip
     refine zE ?_
     refine ⟨(j - 1, Go.Sort.swp dj j (j - 1)), ⟨by dsimp only; omega, by dsimp only; rw [Go.Sort.size_swp, hszj], by dsimp only; rw [← hJ]; exact (sd_step h6 hc).symm⟩, by dsimp only; omega, ⟨rfl, rfl, rfl, rfl, rfl, vint (by omega), trivial⟩, (by simp only [Int.toNat_natCast, show ((j : Int) - 1).toNat = j - 1 by omega]), (by rfl)⟩
    (try simp only [z7] at hc); have hc6 := hc; obtain rfl : j = 0 := (by omega)
    refine yE ?_; try simp only [zI, zJ, Nat.reduceEqDiff, ↓reduceIte]
    clear hK K
    refine ⟨(), trivial, ⟨rfl, rfl, rfl, rfl, rfl, trivial⟩, ?_, (by trivial)⟩; simp only [if_pos h5]; rw [← hJ, sd_0]
   (try simp only [z7] at hc); have hc5 := hc; have h5 : ¬ i2 - a ≥ 2 := (by omega)
   refine zM ?_
   refine ⟨(), trivial, ⟨rfl, rfl, rfl, rfl, rfl, trivial⟩, ?_, rfl⟩; simp only [if_neg h5]
  intro _ ρ4 _; simp only [updL]; generalize hd3 : (if i2 - a ≥ 2 then Go.Sort.shiftDown yB (i2 - 1) (Go.Sort.swp dk i2 (i2 - 1)) else (Go.Sort.swp dk i2 (i2 - 1))) = d3; have hs3 : d3.size = d.size := (by rw [← hd3, ← hszw]; split; exact sd_size _ _; rfl); have hstep := pI_step (lt := yB) (s := s) hse he3 h4 rfl hd3; rw [hP] at hstep
  refine zA fun K hK => zB ?_
  refine zF (zC rfl rfl) ?_; simp only [nA, ↓reduceIte]
  refine zF (zC rfl rfl) ?_; simp only [nA, ↓reduceIte]
  (refine zF (op_subi rfl rfl rfl (by omega)) ?_); try simp only [nA, Nat.reduceBEq, Nat.reduceEqDiff, ↓reduceIte, Nat.reduceAdd, Nat.reduceSub]
  refine zF (op_geq rfl rfl rfl) ?_; try simp only [nA, Nat.reduceBEq, Nat.reduceEqDiff, ↓reduceIte, Nat.reduceAdd, Nat.reduceSub]
  refine zE (hK _ ?_); clear hK K
  refine zL rfl rfl rfl (fun hc => ?_) (fun hc => ?_)
  ·
   (try simp only [z7] at hc); have hc8 := hc; have h8 : b - i2 ≥ 2 := (by omega); rw [if_pos h8] at hstep
   refine zA fun K hK => zB ?_
   refine zF (zC rfl rfl) ?_; simp only [nA, ↓reduceIte]
   (refine zF (zR rfl rfl rfl (by omega)) ?_); try simp only [nA, Nat.reduceBEq, Nat.reduceEqDiff, ↓reduceIte, Nat.reduceAdd, Nat.reduceSub]
   refine zF (zD rfl rfl) ?_; simp only [nA]
   refine zE (hK _ ?_); clear hK K
   refine zN ?_
   refine yC (fun (q : Nat × Array Piece) => [(1, .v (.int .i64 a)), (2, .v (.int .i64 b)), (3, .ptr 1 1 0 0), (7, .v (.int .i64 (i2 : Nat))), (8, .v (.int .i64 ((5 : Int) - ((s + 1 : Nat) : Int)))), (10, .v (.int .i64 (q.1 : Nat)))]) (fun q => ⟨[(0, srt u q.2), (1, .own 114 [dataW u])], 2⟩) (fun q => i2 + 1 ≤ q.1 ∧ q.1 ≤ b ∧ q.2.size = d.size ∧ Go.Sort.shiftUp yB b q.1 q.2 = Go.Sort.shiftUp yB b (i2 + 1) d3) (fun q => b - q.1) (i2 + 1, d3) ⟨Nat.le_refl _, by dsimp only; omega, hs3, rfl⟩ ⟨rfl, rfl, rfl, rfl, rfl, vint (by simp), trivial⟩ rfl ?_; rintro ⟨k, dj⟩ ρ5 ⟨hk1, hk2, hszj, hJ⟩; dsimp only at hk1 hk2 hszj hJ ⊢; simp only [updL]
   refine zA fun K hK => ?_
   refine zA fun K hK => zB ?_
   refine zF (zC rfl rfl) ?_; simp only [nA, ↓reduceIte]
   refine zF (zC rfl rfl) ?_; simp only [nA, ↓reduceIte]
   refine zF (yP rfl rfl rfl) ?_; try simp only [nA, Nat.reduceBEq, Nat.reduceEqDiff, ↓reduceIte, Nat.reduceAdd, Nat.reduceSub]
   refine zE (hK _ ?_); clear hK K
   refine zL rfl rfl rfl (fun hc => ?_) (fun hc => ?_)
   ·
    (try simp only [z7] at hc); have hc9 := hc; have h9 : k < b := (by omega)
    refine zM ?_
    refine hK _ ?_; clear hK K
    refine zA fun K hK => zN ?_
    refine zA fun K hK => ?_
    refine zA fun K hK => zB ?_
    (refine zF (zH rfl rfl rfl fl114_0 (by exact sz2) (by decide) rfl) ?_); try simp only [nA, Nat.reduceBEq, Nat.reduceEqDiff, ↓reduceIte, Nat.reduceAdd, Nat.reduceSub]
    (refine awR (zG rfl rfl rfl rfl ag87 rfl rfl) ?_); try simp only [nA, Nat.reduceBEq, Nat.reduceEqDiff, ↓reduceIte, Nat.reduceAdd, Nat.reduceSub]
    refine zF (zC rfl rfl) ?_; simp only [nA, ↓reduceIte]
    refine zF (zC rfl rfl) ?_; simp only [nA, ↓reduceIte]
    (refine zF (op_subi rfl rfl rfl (by omega)) ?_); try simp only [nA, Nat.reduceBEq, Nat.reduceEqDiff, ↓reduceIte, Nat.reduceAdd, Nat.reduceSub]
    refine yD (OpQ.j (op_lt (r := 0) (d := dj) rfl rfl rfl rfl rfl (by omega) (by omega) (by omega))) ?_; try simp only [nA, Nat.reduceBEq, Nat.reduceEqDiff, ↓reduceIte, Nat.reduceAdd, Nat.reduceSub]
    refine zF (op_not rfl rfl rfl) ?_; try simp only [nA, Nat.reduceBEq, Nat.reduceEqDiff, ↓reduceIte, Nat.reduceAdd, Nat.reduceSub]
    refine zE (hK _ ?_); clear hK K
    refine zL rfl rfl rfl (fun hc => ?_) (fun hc => ?_)
    ·
     (try simp only [z7] at hc); have hc10 := hc; simp only [Int.toNat_natCast, Bool.not_eq_true', Bool.not_eq_false', show ((k : Int) - 1).toNat = k - 1 by omega] at hc
     refine yE ?_; try simp only [zI, zJ, Nat.reduceEqDiff, ↓reduceIte]
     clear hK K
     clear hK K
     (try simp only [zI, zJ, Nat.reduceEqDiff, ↓reduceIte])
     refine hK _ ?_; clear hK K
     refine zB ?_
     refine zF (zC rfl rfl) ?_; simp only [nA, ↓reduceIte]
     (refine zF (zR rfl rfl rfl (by omega)) ?_); try simp only [nA, Nat.reduceBEq, Nat.reduceEqDiff, ↓reduceIte, Nat.reduceAdd, Nat.reduceSub]
     refine zF (zD rfl rfl) ?_; simp only [nA]
     refine zE ?_
     exact ⟨(s, i2, dj), ⟨(by dsimp only; omega), (by dsimp only; omega), (by dsimp only; omega), hszj, (by dsimp only; rw [hstep, ← hJ, su_stop h9 hc])⟩, (by dsimp only; omega), ⟨rfl, rfl, rfl, rfl, vint (by dsimp only; omega), trivial⟩, rfl, (by rfl)⟩
    (try simp only [z7] at hc); have hc10 := hc; simp only [Int.toNat_natCast, Bool.not_eq_true', Bool.not_eq_false', show ((k : Int) - 1).toNat = k - 1 by omega] at hc
    refine zM ?_
    refine hK _ ?_; clear hK K
    refine zB ?_
    (refine zF (zH rfl rfl rfl fl114_1 (by exact sz2) (by decide) rfl) ?_); try simp only [nA, Nat.reduceBEq, Nat.reduceEqDiff, ↓reduceIte, Nat.reduceAdd, Nat.reduceSub]
    (refine awR (zG rfl rfl rfl rfl ag108 rfl rfl) ?_); try simp only [nA, Nat.reduceBEq, Nat.reduceEqDiff, ↓reduceIte, Nat.reduceAdd, Nat.reduceSub]
    refine zF (zC rfl rfl) ?_; simp only [nA, ↓reduceIte]
    refine zF (zC rfl rfl) ?_; simp only [nA, ↓reduceIte]
    (refine zF (op_subi rfl rfl rfl (by omega)) ?_); try simp only [nA, Nat.reduceBEq, Nat.reduceEqDiff, ↓reduceIte, Nat.reduceAdd, Nat.reduceSub]
    refine yD (op_sw (r := 0) (d := dj) rfl rfl rfl rfl rfl (by omega) (by omega) rfl) ?_; try simp only [nA, Nat.reduceBEq, Nat.reduceEqDiff, ↓reduceIte, Nat.reduceAdd, Nat.reduceSub]
    refine zE ?_
    (try simp only [zI, zJ, Nat.reduceEqDiff, ↓reduceIte])
    refine hK _ ?_; clear hK K
    refine zB ?_
    refine zF (zC rfl rfl) ?_; simp only [nA, ↓reduceIte]
    (refine zF (zR rfl rfl rfl (by omega)) ?_); try simp only [nA, Nat.reduceBEq, Nat.reduceEqDiff, ↓reduceIte, Nat.reduceAdd, Nat.reduceSub]
    refine zF (zD rfl rfl) ?_; simp only [nA]
    skip
    refine zE ?_
    refine ⟨(k + 1, Go.Sort.swp dj k (k - 1)), ⟨by dsimp only; omega, by dsimp only; omega, by dsimp only; rw [Go.Sort.size_swp, hszj], by dsimp only; rw [← hJ]; exact (su_step h9 hc).symm⟩, by dsimp only; omega, ⟨rfl, rfl, rfl, rfl, rfl, vint (by simp), trivial⟩, (by simp only [Int.toNat_natCast, show ((k : Int) - 1).toNat = k - 1 by omega]), (by rfl)⟩
   (try simp only [z7] at hc); have hc9 := hc; have h9 : ¬ k < b := (by omega)
   refine yE ?_; try simp only [zI, zJ, Nat.reduceEqDiff, ↓reduceIte]
   clear hK K
   (try simp only [zI, zJ, Nat.reduceEqDiff, ↓reduceIte])
   refine hK _ ?_; clear hK K
   refine zB ?_
   refine zF (zC rfl rfl) ?_; simp only [nA, ↓reduceIte]
   (refine zF (zR rfl rfl rfl (by omega)) ?_); try simp only [nA, Nat.reduceBEq, Nat.reduceEqDiff, ↓reduceIte, Nat.reduceAdd, Nat.reduceSub]
   refine zF (zD rfl rfl) ?_; simp only [nA]
   refine zE ?_
   exact ⟨(s, i2, dj), ⟨(by dsimp only; omega), (by dsimp only; omega), (by dsimp only; omega), hszj, (by dsimp only; rw [hstep, ← hJ, su_end h9])⟩, (by dsimp only; omega), ⟨rfl, rfl, rfl, rfl, vint (by dsimp only; omega), trivial⟩, rfl, (by rfl)⟩
  (try simp only [z7] at hc); have hc8 := hc; have h8 : ¬ b - i2 ≥ 2 := (by omega); rw [if_neg h8] at hstep
  refine zM ?_
  (try simp only [zI, zJ, Nat.reduceEqDiff, ↓reduceIte])
  refine hK _ ?_; clear hK K
  refine zB ?_
  refine zF (zC rfl rfl) ?_; simp only [nA, ↓reduceIte]
  (refine zF (zR rfl rfl rfl (by omega)) ?_); try simp only [nA, Nat.reduceBEq, Nat.reduceEqDiff, ↓reduceIte, Nat.reduceAdd, Nat.reduceSub]
  refine zF (zD rfl rfl) ?_; simp only [nA]
  refine zE ?_
  exact ⟨(s, i2, d3), ⟨(by dsimp only; omega), (by dsimp only; omega), (by dsimp only; omega), hs3, (by dsimp only; rw [hstep])⟩, (by dsimp only; omega), ⟨rfl, rfl, rfl, rfl, vint (by dsimp only; omega), trivial⟩, rfl, (by rfl)⟩
 (try simp only [z7] at hc); have hc1 := hc; obtain rfl : s = 0 := (by omega)
 refine yE ?_; try simp only [zI, zJ, Nat.reduceEqDiff, ↓reduceIte]
 clear hK K
 refine hK _ ?_; clear hK K
 refine zA fun K hK => zB ?_
 refine zF (zD rfl rfl) ?_; try simp only [nA, Nat.reduceBEq, Nat.reduceEqDiff, ↓reduceIte, Nat.reduceAdd, Nat.reduceSub]
 refine zE (hK _ ?_); clear hK K
 skip
 refine zO ?_; (try simp only [zI, zJ, Nat.reduceEqDiff, ↓reduceIte]); rw [← hP]; exact RQ.of (.inl rfl) rfl (.tmp (bl rfl) rfl rfl .nil) (by simp) rfl (one_out rfl)
set_option maxRecDepth 100000
section
open Go.Sort
variable {p : Piece → Bool} {lt : Piece → Piece → Bool} {d : Array Piece} {i j : Nat}
theorem up_pos (h : i ≤ j) (h2 : p d[i]! = true) : scanUp p d j i = scanUp p d j (i + 1) := by rw [scanUp, if_pos (by simp [h, h2])]
theorem up_neg (h : ¬ (i ≤ j ∧ p d[i]! = true)) : scanUp p d j i = i := by rw [scanUp, if_neg (by simpa using h)]
theorem down_pos (h0 : 0 < j) (h : i ≤ j) (h2 : p d[j]! = true) : scanDown p d i j = scanDown p d i (j - 1) := by
 obtain ⟨j, rfl⟩ : ∃ q, j = q + 1 := ⟨j - 1, by omega⟩
 rw [scanDown, if_pos (by simp [h, h2])]; rfl
theorem down_neg (h : ¬ (i ≤ j ∧ p d[j]! = true)) : scanDown p d i j = j := by
 cases j with
 | zero => rfl
 | succ j => rw [scanDown, if_neg (by simpa using h)]
theorem part_stop {a i2 j2 : Nat} (h1 : scanUp (fun x => lt x d[a]!) d j i = i2) (h2 : scanDown (fun x => !lt x d[a]!) d i2 j = j2) (h : j2 < i2) : partLoop lt a i j d = (j2, d) := by
 rw [partLoop]; simp only [h1, h2]; rw [if_pos h]
theorem part_step {a i2 j2 : Nat} (h1 : scanUp (fun x => lt x d[a]!) d j i = i2) (h2 : scanDown (fun x => !lt x d[a]!) d i2 j = j2) (h : ¬ j2 < i2) (hg : (j2 - 1) + 1 - (i2 + 1) < j + 1 - i) : partLoop lt a i j d = partLoop lt a (i2 + 1) (j2 - 1) (swp d i2 j2) := by
 rw [partLoop]; simp only [h1, h2]; rw [if_neg h, dif_pos hg]
end
theorem C102 {u : Value} {d : Array Piece} {a b pv : Nat} (hab : a < b) (hp : a ≤ pv ∧ pv < b) (hb : b ≤ d.size) (hl : d.size ≤ 1000) : Fn Tryz.prog 102 [srt u d] [.agg (dataW u), .v (.int .i64 a), .v (.int .i64 b), .v (.int .i64 pv)] [.v (.int .i64 (Go.Sort.partition yB d a b pv).1), .v (.bool (Go.Sort.partition yB d a b pv).2.1)] [srt u (Go.Sort.partition yB d a b pv).2.2] := by
 refine Spec.body Tryz.func102 rfl Tryz.ntmps102 (by simp) rfl ?_; intro S0 own0 v0 w0
 refine zA fun K hK => zB ?_
 refine yD (yO rfl rfl rfl sz114 rfl) ?_; simp only [nA, Nat.reduceBEq, Nat.reduceEqDiff, ↓reduceIte]
 refine zF (zD rfl rfl) ?_; try simp only [nA, Nat.reduceBEq, Nat.reduceEqDiff, ↓reduceIte, Nat.reduceAdd, Nat.reduceSub]
 refine zF (zD rfl rfl) ?_; try simp only [nA, Nat.reduceBEq, Nat.reduceEqDiff, ↓reduceIte, Nat.reduceAdd, Nat.reduceSub]
 refine zE (hK _ ?_); clear hK K; try simp only [nA, Nat.reduceBEq, Nat.reduceEqDiff, ↓reduceIte, Nat.reduceAdd, Nat.reduceSub]
 refine zA fun K hK => zB ?_
 (refine zF (zH rfl rfl rfl fl114_1 (by exact sz2) (by decide) rfl) ?_); try simp only [nA, Nat.reduceBEq, Nat.reduceEqDiff, ↓reduceIte, Nat.reduceAdd, Nat.reduceSub]
 (refine awR (zG rfl rfl rfl rfl ag108 rfl rfl) ?_); try simp only [nA, Nat.reduceBEq, Nat.reduceEqDiff, ↓reduceIte, Nat.reduceAdd, Nat.reduceSub]
 refine zF (zC rfl rfl) ?_; simp only [nA, ↓reduceIte]
 refine zF (zC rfl rfl) ?_; simp only [nA, ↓reduceIte]
 refine yD (op_sw (r := 0) (d := d) rfl rfl rfl rfl rfl (by omega) (by omega) rfl) ?_; try simp only [nA, Nat.reduceBEq, Nat.reduceEqDiff, ↓reduceIte, Nat.reduceAdd, Nat.reduceSub]
 refine zE (hK _ ?_); clear hK K
 refine zA fun K hK => zB ?_
 refine zF (zC rfl rfl) ?_; simp only [nA, ↓reduceIte]
 (refine zF (zR rfl rfl rfl (by omega)) ?_); try simp only [nA, Nat.reduceBEq, Nat.reduceEqDiff, ↓reduceIte, Nat.reduceAdd, Nat.reduceSub]
 refine zF (zC rfl rfl) ?_; simp only [nA, ↓reduceIte]
 (refine zF (op_subi rfl rfl rfl (by omega)) ?_); try simp only [nA, Nat.reduceBEq, Nat.reduceEqDiff, ↓reduceIte, Nat.reduceAdd, Nat.reduceSub]
 refine zF (zD rfl rfl) ?_; simp only [nA, ↓reduceIte]
 refine zF (zD rfl rfl) ?_; simp only [nA, ↓reduceIte]
 refine zE (hK _ ?_); clear hK K
 refine zA fun K hK => zN ?_
 generalize hd0 : Go.Sort.swp d a pv = dk; have hs : dk.size = d.size := (by rw [← hd0]; exact Go.Sort.size_swp _ _ _); refine yC (fun (i : Nat) => [(1, .v (.int .i64 a)), (4, .ptr 1 1 0 0), (10, .v (.int .i64 (i : Nat))), (11, .v (.int .i64 ((b - 1 : Nat) : Int)))]) (fun _ => ⟨[(0, srt u dk), (1, .own 114 [dataW u])], 2⟩) (fun i => a < i ∧ i ≤ b ∧ Go.Sort.scanUp (fun x => yB x dk[a]!) dk (b - 1) i = Go.Sort.scanUp (fun x => yB x dk[a]!) dk (b - 1) (a + 1)) (fun i => b - i) (a + 1) ⟨by omega, by omega, rfl⟩ ⟨rfl, rfl, vint (by omega), vint (by omega), trivial⟩ (by rw [← hd0]; simp only [Int.toNat_natCast]; rfl) ?_; rintro i ρ ⟨hi1, hi2, hI⟩; simp only [updL]
 refine zA fun K hK => ?_
 refine zA fun K hK => zB (yS ?_)
 refine zQ (zC rfl rfl) ?_; simp only [nA, ↓reduceIte]
 refine zQ (zC rfl rfl) ?_; simp only [nA, ↓reduceIte]
 refine zQ (op_leq rfl rfl rfl) ?_; try simp only [nA, Nat.reduceBEq, Nat.reduceEqDiff, ↓reduceIte, Nat.reduceAdd, Nat.reduceSub]
 refine zQ (zC rfl rfl) ?_; simp only [nA]
 refine' yK [_, _, _, _, _] [25,26,27,28,29] rfl rfl rfl rfl rfl rfl rfl rfl rfl rfl rfl rfl (fun hb => ?_) ?_; rotate_left
 ·
  (try simp only [z7] at hb)
  (refine zQ (zH rfl rfl rfl fl114_0 (by exact sz2) (by decide) rfl) ?_); try simp only [nA, Nat.reduceBEq, Nat.reduceEqDiff, ↓reduceIte, Nat.reduceAdd, Nat.reduceSub]
  (refine aqR (zG rfl rfl rfl rfl ag87 rfl rfl) ?_); try simp only [nA, Nat.reduceBEq, Nat.reduceEqDiff, ↓reduceIte, Nat.reduceAdd, Nat.reduceSub]
  refine zQ (zC rfl rfl) ?_; simp only [nA, ↓reduceIte]
  refine zQ (zC rfl rfl) ?_; simp only [nA, ↓reduceIte]
  refine aqQ (op_lt (r := 0) (d := dk) rfl rfl rfl rfl rfl (by omega) (by omega) (by omega)) ?_; try simp only [nA, Nat.reduceBEq, Nat.reduceEqDiff, ↓reduceIte, Nat.reduceAdd, Nat.reduceSub]
  (refine yL rfl rfl rfl ?_; repeat (first | exact fun _ _ => rfl | refine zU rfl ?_))
 refine yN (hK _ ?_); clear hK K
 refine zL rfl rfl rfl (fun hc => ?_) (fun hc => ?_)
 ·
  (try simp only [z7] at hc); have hc1 := hc; simp only [Int.toNat_natCast, Bool.and_eq_true, Bool.not_eq_true', decide_eq_true_eq] at hc
  refine zM ?_
  refine hK _ ?_; clear hK K
  refine zN ?_
  refine zB ?_
  refine zF (zC rfl rfl) ?_; simp only [nA, Nat.reduceEqDiff, ↓reduceIte]
  (refine zF (zR rfl rfl rfl (by omega)) ?_); try simp only [nA, Nat.reduceBEq, Nat.reduceEqDiff, ↓reduceIte, Nat.reduceAdd, Nat.reduceSub]
  refine zF (zD rfl rfl) ?_; simp only [nA]
  refine zE ?_
  (try simp only [zI, zJ, Nat.reduceEqDiff, ↓reduceIte])
  refine ⟨i + 1, ⟨by omega, by omega, by rw [← hI]; exact (up_pos (p := fun x => yB x dk[a]!) (d := dk) (i := i) (j := b - 1) (by omega) hc.2).symm⟩, by omega, ⟨rfl, rfl, rfl, rfl, trivial⟩, (by trivial), (by trivial)⟩
 (try simp only [z7] at hc); have hc1 := hc; simp only [Int.toNat_natCast, Bool.and_eq_true, Bool.not_eq_true', decide_eq_true_eq] at hc; have hU : Go.Sort.scanUp (fun x => yB x dk[a]!) dk (b - 1) (a + 1) = i := (by rw [← hI]; exact up_neg (by rintro ⟨h1, h2⟩; rcases hc with h | h; omega; simp [h2] at h))
 refine yE ?_; try simp only [zI, zJ, Nat.reduceEqDiff, ↓reduceIte]
 clear hK K
 refine hK _ ?_; clear hK K
 refine zA fun K hK => zN ?_
 refine yC (fun (j : Nat) => [(1, .v (.int .i64 a)), (4, .ptr 1 1 0 0), (10, .v (.int .i64 (i : Nat))), (11, .v (.int .i64 (j : Nat)))]) (fun _ => ⟨[(0, srt u dk), (1, .own 114 [dataW u])], 2⟩) (fun j => i ≤ j + 1 ∧ j ≤ b - 1 ∧ Go.Sort.scanDown (fun x => !yB x dk[a]!) dk i j = Go.Sort.scanDown (fun x => !yB x dk[a]!) dk i (b - 1)) (fun j => j) (b - 1) ⟨by omega, by omega, rfl⟩ ⟨rfl, rfl, rfl, rfl, trivial⟩ rfl ?_; rintro j ρ ⟨hj1, hj2, hJ⟩; simp only [updL]
 refine zA fun K hK => ?_
 refine zA fun K hK => zB (yS ?_)
 refine zQ (zC rfl rfl) ?_; simp only [nA, ↓reduceIte]
 refine zQ (zC rfl rfl) ?_; simp only [nA, ↓reduceIte]
 refine zQ (op_leq rfl rfl rfl) ?_; try simp only [nA, Nat.reduceBEq, Nat.reduceEqDiff, ↓reduceIte, Nat.reduceAdd, Nat.reduceSub]
 refine zQ (zC rfl rfl) ?_; simp only [nA]
 refine' yK [_, _, _, _, _, _] [37,38,39,40,41,42] rfl rfl rfl rfl rfl rfl rfl rfl rfl rfl rfl rfl (fun hb => ?_) ?_; rotate_left
 ·
  (try simp only [z7] at hb)
  (refine zQ (zH rfl rfl rfl fl114_0 (by exact sz2) (by decide) rfl) ?_); try simp only [nA, Nat.reduceBEq, Nat.reduceEqDiff, ↓reduceIte, Nat.reduceAdd, Nat.reduceSub]
  (refine aqR (zG rfl rfl rfl rfl ag87 rfl rfl) ?_); try simp only [nA, Nat.reduceBEq, Nat.reduceEqDiff, ↓reduceIte, Nat.reduceAdd, Nat.reduceSub]
  refine zQ (zC rfl rfl) ?_; simp only [nA, ↓reduceIte]
  refine zQ (zC rfl rfl) ?_; simp only [nA, ↓reduceIte]
  refine aqQ (op_lt (r := 0) (d := dk) rfl rfl rfl rfl rfl (by omega) (by omega) (by omega)) ?_; try simp only [nA, Nat.reduceBEq, Nat.reduceEqDiff, ↓reduceIte, Nat.reduceAdd, Nat.reduceSub]
  refine zQ (op_not rfl rfl rfl) ?_; try simp only [nA, Nat.reduceBEq, Nat.reduceEqDiff, ↓reduceIte, Nat.reduceAdd, Nat.reduceSub]
  (refine yL rfl rfl rfl ?_; repeat (first | exact fun _ _ => rfl | refine zU rfl ?_))
 refine yN (hK _ ?_); clear hK K
 refine zL rfl rfl rfl (fun hc => ?_) (fun hc => ?_)
 ·
  (try simp only [z7] at hc); have hc2 := hc; simp only [Int.toNat_natCast, Bool.and_eq_true, Bool.not_eq_true', decide_eq_true_eq] at hc
  refine zM ?_
  refine hK _ ?_; clear hK K
  refine zN ?_
  refine zB ?_
  refine zF (zC rfl rfl) ?_; simp only [nA, Nat.reduceEqDiff, ↓reduceIte]
  (refine zF (op_subi rfl rfl rfl (by omega)) ?_); try simp only [nA, Nat.reduceBEq, Nat.reduceEqDiff, ↓reduceIte, Nat.reduceAdd, Nat.reduceSub]
  refine zF (zD rfl rfl) ?_; simp only [nA]
  refine zE ?_
  (try simp only [zI, zJ, Nat.reduceEqDiff, ↓reduceIte])
  refine ⟨j - 1, ⟨by omega, by omega, by rw [← hJ]; exact (down_pos (p := fun x => !yB x dk[a]!) (d := dk) (i := i) (j := j) (by omega) (by omega) (by simp [hc.2])).symm⟩, by omega, ⟨rfl, rfl, rfl, vint (by omega), trivial⟩, (by trivial), (by trivial)⟩
 (try simp only [z7] at hc); have hc2 := hc; simp only [Int.toNat_natCast, Bool.and_eq_true, Bool.not_eq_true', decide_eq_true_eq] at hc; have hD : Go.Sort.scanDown (fun x => !yB x dk[a]!) dk i (b - 1) = j := (by rw [← hJ]; exact down_neg (by rintro ⟨h1, h2⟩; rcases hc with h | h; omega; simp [h] at h2))
 refine yE ?_; try simp only [zI, zJ, Nat.reduceEqDiff, ↓reduceIte]
 clear hK K
 refine hK _ ?_; clear hK K
 refine zA fun K hK => ?_
 refine zA fun K hK => zB ?_
 refine zF (zC rfl rfl) ?_; simp only [nA, Nat.reduceEqDiff, ↓reduceIte]
 refine zF (zC rfl rfl) ?_; simp only [nA, Nat.reduceEqDiff, ↓reduceIte]
 refine zF (op_gtr rfl rfl rfl) ?_; try simp only [nA, Nat.reduceBEq, Nat.reduceEqDiff, ↓reduceIte, Nat.reduceAdd, Nat.reduceSub]
 refine zE (hK _ ?_); clear hK K
 refine zL rfl rfl rfl (fun hc => ?_) (fun hc => ?_)
 ·
  (try simp only [z7] at hc); have hc3 := hc
  refine zA fun K hK => zB ?_
  (refine zF (zH rfl rfl rfl fl114_1 (by exact sz2) (by decide) rfl) ?_); try simp only [nA, Nat.reduceBEq, Nat.reduceEqDiff, ↓reduceIte, Nat.reduceAdd, Nat.reduceSub]
  (refine awR (zG rfl rfl rfl rfl ag108 rfl rfl) ?_); try simp only [nA, Nat.reduceBEq, Nat.reduceEqDiff, ↓reduceIte, Nat.reduceAdd, Nat.reduceSub]
  refine zF (zC rfl rfl) ?_; simp only [nA, Nat.reduceEqDiff, ↓reduceIte]
  refine zF (zC rfl rfl) ?_; simp only [nA, Nat.reduceEqDiff, ↓reduceIte]
  refine yD (op_sw (r := 0) (d := dk) rfl rfl rfl rfl rfl (by omega) (by omega) rfl) ?_; try simp only [nA, Nat.reduceBEq, Nat.reduceEqDiff, ↓reduceIte, Nat.reduceAdd, Nat.reduceSub]
  refine zE (hK _ ?_); clear hK K
  refine zA fun K hK => zB ?_
  refine zF (zC rfl rfl) ?_; simp only [nA, Nat.reduceEqDiff, ↓reduceIte]
  refine zF (zD rfl rfl) ?_; simp only [nA]
  refine zF (zD rfl rfl) ?_; try simp only [nA, Nat.reduceBEq, Nat.reduceEqDiff, ↓reduceIte, Nat.reduceAdd, Nat.reduceSub]
  refine zE (hK _ ?_); clear hK K
  skip
  refine zO ?_; (try simp only [zI, zJ, Nat.reduceEqDiff, ↓reduceIte]); rw [show Go.Sort.partition yB d a b pv = (j, true, Go.Sort.swp dk j a) by unfold Go.Sort.partition; simp only [hd0, hU, hD]; rw [if_pos (by omega)]]; simp only [Int.toNat_natCast]; exact RQ.of (.inl rfl) rfl (.tmp (bl rfl) rfl rfl (.tmp (bl rfl) rfl rfl .nil)) (by simp) rfl (one_out rfl)
 (try simp only [z7] at hc); have hc3 := hc
 refine zM ?_
 refine hK _ ?_; clear hK K
 refine zA fun K hK => zB ?_
 (refine zF (zH rfl rfl rfl fl114_1 (by exact sz2) (by decide) rfl) ?_); try simp only [nA, Nat.reduceBEq, Nat.reduceEqDiff, ↓reduceIte, Nat.reduceAdd, Nat.reduceSub]
 (refine awR (zG rfl rfl rfl rfl ag108 rfl rfl) ?_); try simp only [nA, Nat.reduceBEq, Nat.reduceEqDiff, ↓reduceIte, Nat.reduceAdd, Nat.reduceSub]
 refine zF (zC rfl rfl) ?_; simp only [nA, Nat.reduceEqDiff, ↓reduceIte]
 refine zF (zC rfl rfl) ?_; simp only [nA, Nat.reduceEqDiff, ↓reduceIte]
 refine yD (op_sw (r := 0) (d := dk) rfl rfl rfl rfl rfl (by omega) (by omega) rfl) ?_; try simp only [nA, Nat.reduceBEq, Nat.reduceEqDiff, ↓reduceIte, Nat.reduceAdd, Nat.reduceSub]
 refine zE (hK _ ?_); clear hK K
 refine zA fun K hK => zB ?_
 refine zF (zC rfl rfl) ?_; simp only [nA, Nat.reduceEqDiff, ↓reduceIte]
 (refine zF (zR rfl rfl rfl (by omega)) ?_); try simp only [nA, Nat.reduceBEq, Nat.reduceEqDiff, ↓reduceIte, Nat.reduceAdd, Nat.reduceSub]
 refine zF (zD rfl rfl) ?_; simp only [nA]
 refine zE (hK _ ?_); clear hK K
 refine zA fun K hK => zB ?_
 refine zF (zC rfl rfl) ?_; simp only [nA, Nat.reduceEqDiff, ↓reduceIte]
 (refine zF (op_subi rfl rfl rfl (by omega)) ?_); try simp only [nA, Nat.reduceBEq, Nat.reduceEqDiff, ↓reduceIte, Nat.reduceAdd, Nat.reduceSub]
 refine zF (zD rfl rfl) ?_; simp only [nA]
 refine zE (hK _ ?_); clear hK K
 refine zA fun K hK => zN ?_
 refine yC (fun (q : Nat × Nat × Array Piece) => [(1, .v (.int .i64 a)), (4, .ptr 1 1 0 0), (10, .v (.int .i64 (q.1 : Nat))), (11, .v (.int .i64 (q.2.1 : Nat)))]) (fun q => ⟨[(0, srt u q.2.2), (1, .own 114 [dataW u])], 2⟩) (fun q => a < q.1 ∧ q.1 ≤ b ∧ a ≤ q.2.1 ∧ q.2.1 ≤ b - 1 ∧ q.2.2.size = d.size ∧ Go.Sort.partLoop yB a q.1 q.2.1 q.2.2 = Go.Sort.partLoop yB a (i + 1) (j - 1) (Go.Sort.swp dk i j)) (fun q => q.2.1 + 1 - q.1) (i + 1, j - 1, Go.Sort.swp dk i j) ⟨by dsimp only; omega, by dsimp only; omega, by dsimp only; omega, by dsimp only; omega, by rw [Go.Sort.size_swp, hs], rfl⟩ ⟨rfl, rfl, vint (by dsimp only; omega), vint (by dsimp only; omega), trivial⟩ (by simp only [Int.toNat_natCast]) ?_; rintro ⟨i2, j2, dm⟩ ρ ⟨hi2a, hi2b, hj2a, hj2b, hsm, hP⟩; dsimp only at hi2a hi2b hj2a hj2b hsm hP ⊢; simp only [updL]
 refine zN ?_
 refine zA fun K hK => zN ?_
 refine yC (fun (i3 : Nat) => [(1, .v (.int .i64 a)), (4, .ptr 1 1 0 0), (10, .v (.int .i64 (i3 : Nat))), (11, .v (.int .i64 (j2 : Nat)))]) (fun _ => ⟨[(0, srt u dm), (1, .own 114 [dataW u])], 2⟩) (fun i3 => i2 ≤ i3 ∧ i3 ≤ b ∧ Go.Sort.scanUp (fun x => yB x dm[a]!) dm j2 i3 = Go.Sort.scanUp (fun x => yB x dm[a]!) dm j2 i2) (fun i3 => b - i3) i2 ⟨by omega, by omega, rfl⟩ ⟨rfl, rfl, rfl, rfl, trivial⟩ rfl ?_; rintro i3 ρ ⟨hi3a, hi3b, hI3⟩; simp only [updL]
 refine zA fun K hK => ?_
 refine zA fun K hK => zB (yS ?_)
 refine zQ (zC rfl rfl) ?_; simp only [nA, ↓reduceIte]
 refine zQ (zC rfl rfl) ?_; simp only [nA, ↓reduceIte]
 refine zQ (op_leq rfl rfl rfl) ?_; try simp only [nA, Nat.reduceBEq, Nat.reduceEqDiff, ↓reduceIte, Nat.reduceAdd, Nat.reduceSub]
 refine zQ (zC rfl rfl) ?_; simp only [nA]
 refine' yK [_, _, _, _, _] [68,69,70,71,72] rfl rfl rfl rfl rfl rfl rfl rfl rfl rfl rfl rfl (fun hb => ?_) ?_; rotate_left
 ·
  (try simp only [z7] at hb)
  (refine zQ (zH rfl rfl rfl fl114_0 (by exact sz2) (by decide) rfl) ?_); try simp only [nA, Nat.reduceBEq, Nat.reduceEqDiff, ↓reduceIte, Nat.reduceAdd, Nat.reduceSub]
  (refine aqR (zG rfl rfl rfl rfl ag87 rfl rfl) ?_); try simp only [nA, Nat.reduceBEq, Nat.reduceEqDiff, ↓reduceIte, Nat.reduceAdd, Nat.reduceSub]
  refine zQ (zC rfl rfl) ?_; simp only [nA, ↓reduceIte]
  refine zQ (zC rfl rfl) ?_; simp only [nA, ↓reduceIte]
  refine aqQ (op_lt (r := 0) (d := dm) rfl rfl rfl rfl rfl (by omega) (by omega) (by omega)) ?_; try simp only [nA, Nat.reduceBEq, Nat.reduceEqDiff, ↓reduceIte, Nat.reduceAdd, Nat.reduceSub]
  (refine yL rfl rfl rfl ?_; repeat (first | exact fun _ _ => rfl | refine zU rfl ?_))
 refine yN (hK _ ?_); clear hK K
 refine zL rfl rfl rfl (fun hc => ?_) (fun hc => ?_)
 ·
  (try simp only [z7] at hc); have hc4 := hc; simp only [Int.toNat_natCast, Bool.and_eq_true, Bool.not_eq_true', decide_eq_true_eq] at hc
  refine zM ?_
  refine hK _ ?_; clear hK K
  refine zN ?_
  refine zB ?_
  refine zF (zC rfl rfl) ?_; simp only [nA, Nat.reduceEqDiff, ↓reduceIte]
  (refine zF (zR rfl rfl rfl (by omega)) ?_); try simp only [nA, Nat.reduceBEq, Nat.reduceEqDiff, ↓reduceIte, Nat.reduceAdd, Nat.reduceSub]
  refine zF (zD rfl rfl) ?_; simp only [nA]
  refine zE ?_
  (try simp only [zI, zJ, Nat.reduceEqDiff, ↓reduceIte])
  refine ⟨i3 + 1, ⟨by omega, by omega, by rw [← hI3]; exact (up_pos (p := fun x => yB x dm[a]!) (d := dm) (i := i3) (j := j2) (by omega) hc.2).symm⟩, by omega, ⟨rfl, rfl, rfl, rfl, trivial⟩, (by trivial), (by trivial)⟩
 (try simp only [z7] at hc); have hc4 := hc; simp only [Int.toNat_natCast, Bool.and_eq_true, Bool.not_eq_true', decide_eq_true_eq] at hc; have hU2 : Go.Sort.scanUp (fun x => yB x dm[a]!) dm j2 i2 = i3 := (by rw [← hI3]; exact up_neg (by rintro ⟨h1, h2⟩; rcases hc with h | h; omega; simp [h2] at h))
 refine yE ?_; try simp only [zI, zJ, Nat.reduceEqDiff, ↓reduceIte]
 clear hK K
 refine hK _ ?_; clear hK K
 refine zA fun K hK => zN ?_
 refine yC (fun (j3 : Nat) => [(1, .v (.int .i64 a)), (4, .ptr 1 1 0 0), (10, .v (.int .i64 (i3 : Nat))), (11, .v (.int .i64 (j3 : Nat)))]) (fun _ => ⟨[(0, srt u dm), (1, .own 114 [dataW u])], 2⟩) (fun j3 => a ≤ j3 ∧ j3 ≤ j2 ∧ Go.Sort.scanDown (fun x => !yB x dm[a]!) dm i3 j3 = Go.Sort.scanDown (fun x => !yB x dm[a]!) dm i3 j2) (fun j3 => j3) j2 ⟨by omega, by omega, rfl⟩ ⟨rfl, rfl, rfl, rfl, trivial⟩ rfl ?_; rintro j3 ρ ⟨hj3a, hj3b, hJ3⟩; simp only [updL]
 refine zA fun K hK => ?_
 refine zA fun K hK => zB (yS ?_)
 refine zQ (zC rfl rfl) ?_; simp only [nA, ↓reduceIte]
 refine zQ (zC rfl rfl) ?_; simp only [nA, ↓reduceIte]
 refine zQ (op_leq rfl rfl rfl) ?_; try simp only [nA, Nat.reduceBEq, Nat.reduceEqDiff, ↓reduceIte, Nat.reduceAdd, Nat.reduceSub]
 refine zQ (zC rfl rfl) ?_; simp only [nA]
 refine' yK [_, _, _, _, _, _] [80,81,82,83,84,85] rfl rfl rfl rfl rfl rfl rfl rfl rfl rfl rfl rfl (fun hb => ?_) ?_; rotate_left
 ·
  (try simp only [z7] at hb)
  (refine zQ (zH rfl rfl rfl fl114_0 (by exact sz2) (by decide) rfl) ?_); try simp only [nA, Nat.reduceBEq, Nat.reduceEqDiff, ↓reduceIte, Nat.reduceAdd, Nat.reduceSub]
  (refine aqR (zG rfl rfl rfl rfl ag87 rfl rfl) ?_); try simp only [nA, Nat.reduceBEq, Nat.reduceEqDiff, ↓reduceIte, Nat.reduceAdd, Nat.reduceSub]
  refine zQ (zC rfl rfl) ?_; simp only [nA, ↓reduceIte]
  refine zQ (zC rfl rfl) ?_; simp only [nA, ↓reduceIte]
  refine aqQ (op_lt (r := 0) (d := dm) rfl rfl rfl rfl rfl (by omega) (by omega) (by omega)) ?_; try simp only [nA, Nat.reduceBEq, Nat.reduceEqDiff, ↓reduceIte, Nat.reduceAdd, Nat.reduceSub]
  refine zQ (op_not rfl rfl rfl) ?_; try simp only [nA, Nat.reduceBEq, Nat.reduceEqDiff, ↓reduceIte, Nat.reduceAdd, Nat.reduceSub]
  (refine yL rfl rfl rfl ?_; repeat (first | exact fun _ _ => rfl | refine zU rfl ?_))
 refine yN (hK _ ?_); clear hK K
 refine zL rfl rfl rfl (fun hc => ?_) (fun hc => ?_)
 ·
  (try simp only [z7] at hc); have hc5 := hc; simp only [Int.toNat_natCast, Bool.and_eq_true, Bool.not_eq_true', decide_eq_true_eq] at hc
  refine zM ?_
  refine hK _ ?_; clear hK K
  refine zN ?_
  refine zB ?_
  refine zF (zC rfl rfl) ?_; simp only [nA, Nat.reduceEqDiff, ↓reduceIte]
  (refine zF (op_subi rfl rfl rfl (by omega)) ?_); try simp only [nA, Nat.reduceBEq, Nat.reduceEqDiff, ↓reduceIte, Nat.reduceAdd, Nat.reduceSub]
  refine zF (zD rfl rfl) ?_; simp only [nA]
  refine zE ?_
  (try simp only [zI, zJ, Nat.reduceEqDiff, ↓reduceIte])
  refine ⟨j3 - 1, ⟨by omega, by omega, by rw [← hJ3]; exact (down_pos (p := fun x => !yB x dm[a]!) (d := dm) (i := i3) (j := j3) (by omega) (by omega) (by simp [hc.2])).symm⟩, by omega, ⟨rfl, rfl, rfl, vint (by omega), trivial⟩, (by trivial), (by trivial)⟩
 (try simp only [z7] at hc); have hc5 := hc; simp only [Int.toNat_natCast, Bool.and_eq_true, Bool.not_eq_true', decide_eq_true_eq] at hc; have hD2 : Go.Sort.scanDown (fun x => !yB x dm[a]!) dm i3 j2 = j3 := (by rw [← hJ3]; exact down_neg (by rintro ⟨h1, h2⟩; rcases hc with h | h; omega; simp [h] at h2))
 refine yE ?_; try simp only [zI, zJ, Nat.reduceEqDiff, ↓reduceIte]
 clear hK K
 refine hK _ ?_; clear hK K
 refine zA fun K hK => ?_
 refine zA fun K hK => zB ?_
 refine zF (zC rfl rfl) ?_; simp only [nA, Nat.reduceEqDiff, ↓reduceIte]
 refine zF (zC rfl rfl) ?_; simp only [nA, Nat.reduceEqDiff, ↓reduceIte]
 refine zF (op_gtr rfl rfl rfl) ?_; try simp only [nA, Nat.reduceBEq, Nat.reduceEqDiff, ↓reduceIte, Nat.reduceAdd, Nat.reduceSub]
 refine zE (hK _ ?_); clear hK K
 refine zL rfl rfl rfl (fun hc => ?_) (fun hc => ?_)
 ·
  (try simp only [z7] at hc); have hc6 := hc
  refine yE ?_; try simp only [zI, zJ, Nat.reduceEqDiff, ↓reduceIte]
  clear hK K
  refine hK _ ?_; clear hK K
  refine zA fun K hK => zB ?_
  (refine zF (zH rfl rfl rfl fl114_1 (by exact sz2) (by decide) rfl) ?_); try simp only [nA, Nat.reduceBEq, Nat.reduceEqDiff, ↓reduceIte, Nat.reduceAdd, Nat.reduceSub]
  (refine awR (zG rfl rfl rfl rfl ag108 rfl rfl) ?_); try simp only [nA, Nat.reduceBEq, Nat.reduceEqDiff, ↓reduceIte, Nat.reduceAdd, Nat.reduceSub]
  refine zF (zC rfl rfl) ?_; simp only [nA, Nat.reduceEqDiff, ↓reduceIte]
  refine zF (zC rfl rfl) ?_; simp only [nA, Nat.reduceEqDiff, ↓reduceIte]
  refine yD (op_sw (r := 0) (d := dm) rfl rfl rfl rfl rfl (by omega) (by omega) rfl) ?_; try simp only [nA, Nat.reduceBEq, Nat.reduceEqDiff, ↓reduceIte, Nat.reduceAdd, Nat.reduceSub]
  refine zE (hK _ ?_); clear hK K
  refine zA fun K hK => zB ?_
  refine zF (zC rfl rfl) ?_; simp only [nA, Nat.reduceEqDiff, ↓reduceIte]
  refine zF (zD rfl rfl) ?_; simp only [nA]
  refine zF (zD rfl rfl) ?_; try simp only [nA, Nat.reduceBEq, Nat.reduceEqDiff, ↓reduceIte, Nat.reduceAdd, Nat.reduceSub]
  refine zE (hK _ ?_); clear hK K
  skip
  refine zO ?_; (try simp only [zI, zJ, Nat.reduceEqDiff, ↓reduceIte]); rw [show Go.Sort.partition yB d a b pv = (j3, false, Go.Sort.swp dm j3 a) by unfold Go.Sort.partition; simp only [hd0, hU, hD]; rw [if_neg (by omega), ← hP, part_stop hU2 hD2 (by omega)]]; simp only [Int.toNat_natCast]; exact RQ.of (.inl rfl) rfl (.tmp (bl rfl) rfl rfl (.tmp (bl rfl) rfl rfl .nil)) (by simp) rfl (one_out rfl)
 (try simp only [z7] at hc); have hc6 := hc
 refine zM ?_
 refine hK _ ?_; clear hK K
 refine zA fun K hK => zB ?_
 (refine zF (zH rfl rfl rfl fl114_1 (by exact sz2) (by decide) rfl) ?_); try simp only [nA, Nat.reduceBEq, Nat.reduceEqDiff, ↓reduceIte, Nat.reduceAdd, Nat.reduceSub]
 (refine awR (zG rfl rfl rfl rfl ag108 rfl rfl) ?_); try simp only [nA, Nat.reduceBEq, Nat.reduceEqDiff, ↓reduceIte, Nat.reduceAdd, Nat.reduceSub]
 refine zF (zC rfl rfl) ?_; simp only [nA, Nat.reduceEqDiff, ↓reduceIte]
 refine zF (zC rfl rfl) ?_; simp only [nA, Nat.reduceEqDiff, ↓reduceIte]
 refine yD (op_sw (r := 0) (d := dm) rfl rfl rfl rfl rfl (by omega) (by omega) rfl) ?_; try simp only [nA, Nat.reduceBEq, Nat.reduceEqDiff, ↓reduceIte, Nat.reduceAdd, Nat.reduceSub]
 refine zE (hK _ ?_); clear hK K
 refine zA fun K hK => zB ?_
 refine zF (zC rfl rfl) ?_; simp only [nA, Nat.reduceEqDiff, ↓reduceIte]
 (refine zF (zR rfl rfl rfl (by omega)) ?_); try simp only [nA, Nat.reduceBEq, Nat.reduceEqDiff, ↓reduceIte, Nat.reduceAdd, Nat.reduceSub]
 refine zF (zD rfl rfl) ?_; simp only [nA]
 refine zE (hK _ ?_); clear hK K
 refine zB ?_
 refine zF (zC rfl rfl) ?_; simp only [nA, Nat.reduceEqDiff, ↓reduceIte]
 (refine zF (op_subi rfl rfl rfl (by omega)) ?_); try simp only [nA, Nat.reduceBEq, Nat.reduceEqDiff, ↓reduceIte, Nat.reduceAdd, Nat.reduceSub]
 refine zF (zD rfl rfl) ?_; simp only [nA]
 refine zE ?_
 (try simp only [zI, zJ, Nat.reduceEqDiff, ↓reduceIte])
 refine ⟨(i3 + 1, j3 - 1, Go.Sort.swp dm i3 j3), ⟨by dsimp only; omega, by dsimp only; omega, by dsimp only; omega, by dsimp only; omega, by rw [Go.Sort.size_swp, hsm], by rw [← hP]; exact (part_step hU2 hD2 (by omega) (by omega)).symm⟩, by dsimp only; omega, ⟨rfl, rfl, vint (by dsimp only; omega), vint (by dsimp only; omega), trivial⟩, (by simp only [Int.toNat_natCast]), (by trivial)⟩
set_option maxRecDepth 100000
section
open Go.Sort
variable {lt : Piece → Piece → Bool} {d : Array Piece} {i j : Nat}
theorem peq_stop {a i2 j2 : Nat} (h1 : scanUp (fun x => !lt d[a]! x) d j i = i2) (h2 : scanDown (fun x => lt d[a]! x) d i2 j = j2) (h : j2 < i2) : partEqLoop lt a i j d = (i2, d) := by
 rw [partEqLoop]; simp only [h1, h2]; rw [if_pos h]
theorem peq_step {a i2 j2 : Nat} (h1 : scanUp (fun x => !lt d[a]! x) d j i = i2) (h2 : scanDown (fun x => lt d[a]! x) d i2 j = j2) (h : ¬ j2 < i2) (hg : (j2 - 1) + 1 - (i2 + 1) < j + 1 - i) : partEqLoop lt a i j d = partEqLoop lt a (i2 + 1) (j2 - 1) (swp d i2 j2) := by
 rw [partEqLoop]; simp only [h1, h2]; rw [if_neg h, dif_pos hg]
end
theorem C101 {u : Value} {d : Array Piece} {a b pv : Nat} (hab : a < b) (hp : a ≤ pv ∧ pv < b) (hb : b ≤ d.size) (hl : d.size ≤ 1000) : Fn Tryz.prog 101 [srt u d] [.agg (dataW u), .v (.int .i64 a), .v (.int .i64 b), .v (.int .i64 pv)] [.v (.int .i64 (Go.Sort.partitionEqual yB d a b pv).1)] [srt u (Go.Sort.partitionEqual yB d a b pv).2] := by
 refine Spec.body Tryz.func101 rfl Tryz.ntmps101 (by simp) rfl ?_; intro S0 own0 v0 w0
 refine zA fun K hK => zB ?_
 refine yD (yO rfl rfl rfl sz114 rfl) ?_; simp only [nA, Nat.reduceBEq, Nat.reduceEqDiff, ↓reduceIte]
 refine zF (zD rfl rfl) ?_; try simp only [nA, Nat.reduceBEq, Nat.reduceEqDiff, ↓reduceIte, Nat.reduceAdd, Nat.reduceSub]
 refine zE (hK _ ?_); clear hK K; try simp only [nA, Nat.reduceBEq, Nat.reduceEqDiff, ↓reduceIte, Nat.reduceAdd, Nat.reduceSub]
 refine zA fun K hK => zB ?_
 (refine zF (zH rfl rfl rfl fl114_1 (by exact sz2) (by decide) rfl) ?_); try simp only [nA, Nat.reduceBEq, Nat.reduceEqDiff, ↓reduceIte, Nat.reduceAdd, Nat.reduceSub]
 (refine awR (zG rfl rfl rfl rfl ag108 rfl rfl) ?_); try simp only [nA, Nat.reduceBEq, Nat.reduceEqDiff, ↓reduceIte, Nat.reduceAdd, Nat.reduceSub]
 refine zF (zC rfl rfl) ?_; simp only [nA, ↓reduceIte]
 refine zF (zC rfl rfl) ?_; simp only [nA, ↓reduceIte]
 refine yD (op_sw (r := 0) (d := d) rfl rfl rfl rfl rfl (by omega) (by omega) rfl) ?_; try simp only [nA, Nat.reduceBEq, Nat.reduceEqDiff, ↓reduceIte, Nat.reduceAdd, Nat.reduceSub]
 refine zE (hK _ ?_); clear hK K
 refine zA fun K hK => zB ?_
 refine zF (zC rfl rfl) ?_; simp only [nA, ↓reduceIte]
 (refine zF (zR rfl rfl rfl (by omega)) ?_); try simp only [nA, Nat.reduceBEq, Nat.reduceEqDiff, ↓reduceIte, Nat.reduceAdd, Nat.reduceSub]
 refine zF (zC rfl rfl) ?_; simp only [nA, ↓reduceIte]
 (refine zF (op_subi rfl rfl rfl (by omega)) ?_); try simp only [nA, Nat.reduceBEq, Nat.reduceEqDiff, ↓reduceIte, Nat.reduceAdd, Nat.reduceSub]
 refine zF (zD rfl rfl) ?_; simp only [nA, ↓reduceIte]
 refine zF (zD rfl rfl) ?_; simp only [nA, ↓reduceIte]
 refine zE (hK _ ?_); clear hK K
 refine zA fun K hK => zN ?_
 refine yC (fun (q : Nat × Nat × Array Piece) => [(1, .v (.int .i64 a)), (4, .ptr 1 1 0 0), (9, .v (.int .i64 (q.1 : Nat))), (10, .v (.int .i64 (q.2.1 : Nat)))]) (fun q => ⟨[(0, srt u q.2.2), (1, .own 114 [dataW u])], 2⟩) (fun q => a < q.1 ∧ q.1 ≤ b ∧ a ≤ q.2.1 ∧ q.2.1 ≤ b - 1 ∧ q.2.2.size = d.size ∧ Go.Sort.partEqLoop yB a q.1 q.2.1 q.2.2 = Go.Sort.partitionEqual yB d a b pv) (fun q => q.2.1 + 1 - q.1) (a + 1, b - 1, Go.Sort.swp d a pv) ⟨by dsimp only; omega, by dsimp only; omega, by dsimp only; omega, by dsimp only; omega, Go.Sort.size_swp _ _ _, rfl⟩ ⟨rfl, rfl, vint (by dsimp only; omega), vint (by dsimp only; omega), trivial⟩ (by simp only [Int.toNat_natCast]; rfl) ?_; rintro ⟨i2, j2, dm⟩ ρ ⟨hi2a, hi2b, hj2a, hj2b, hsm, hP⟩; dsimp only at hi2a hi2b hj2a hj2b hsm hP ⊢; simp only [updL]
 refine zN ?_
 refine zA fun K hK => zN ?_
 refine yC (fun (i3 : Nat) => [(1, .v (.int .i64 a)), (4, .ptr 1 1 0 0), (9, .v (.int .i64 (i3 : Nat))), (10, .v (.int .i64 (j2 : Nat)))]) (fun _ => ⟨[(0, srt u dm), (1, .own 114 [dataW u])], 2⟩) (fun i3 => i2 ≤ i3 ∧ i3 ≤ b ∧ Go.Sort.scanUp (fun x => !yB dm[a]! x) dm j2 i3 = Go.Sort.scanUp (fun x => !yB dm[a]! x) dm j2 i2) (fun i3 => b - i3) i2 ⟨by omega, by omega, rfl⟩ ⟨rfl, rfl, rfl, rfl, trivial⟩ rfl ?_; rintro i3 ρ ⟨hi3a, hi3b, hI3⟩; simp only [updL]
 refine zA fun K hK => ?_
 refine zA fun K hK => zB (yS ?_)
 refine zQ (zC rfl rfl) ?_; simp only [nA, ↓reduceIte]
 refine zQ (zC rfl rfl) ?_; simp only [nA, ↓reduceIte]
 refine zQ (op_leq rfl rfl rfl) ?_; try simp only [nA, Nat.reduceBEq, Nat.reduceEqDiff, ↓reduceIte, Nat.reduceAdd, Nat.reduceSub]
 refine zQ (zC rfl rfl) ?_; simp only [nA]
 refine' yK [_, _, _, _, _, _] [24,25,26,27,28,29] rfl rfl rfl rfl rfl rfl rfl rfl rfl rfl rfl rfl (fun hb => ?_) ?_; rotate_left
 ·
  (try simp only [z7] at hb)
  (refine zQ (zH rfl rfl rfl fl114_0 (by exact sz2) (by decide) rfl) ?_); try simp only [nA, Nat.reduceBEq, Nat.reduceEqDiff, ↓reduceIte, Nat.reduceAdd, Nat.reduceSub]
  (refine aqR (zG rfl rfl rfl rfl ag87 rfl rfl) ?_); try simp only [nA, Nat.reduceBEq, Nat.reduceEqDiff, ↓reduceIte, Nat.reduceAdd, Nat.reduceSub]
  refine zQ (zC rfl rfl) ?_; simp only [nA, ↓reduceIte]
  refine zQ (zC rfl rfl) ?_; simp only [nA, ↓reduceIte]
  refine aqQ (op_lt (r := 0) (d := dm) rfl rfl rfl rfl rfl (by omega) (by omega) (by omega)) ?_; try simp only [nA, Nat.reduceBEq, Nat.reduceEqDiff, ↓reduceIte, Nat.reduceAdd, Nat.reduceSub]
  refine zQ (op_not rfl rfl rfl) ?_; try simp only [nA, Nat.reduceBEq, Nat.reduceEqDiff, ↓reduceIte, Nat.reduceAdd, Nat.reduceSub]
  (refine yL rfl rfl rfl ?_; repeat (first | exact fun _ _ => rfl | refine zU rfl ?_))
 refine yN (hK _ ?_); clear hK K
 refine zL rfl rfl rfl (fun hc => ?_) (fun hc => ?_)
 ·
  (try simp only [z7] at hc); have hc1 := hc; simp only [Int.toNat_natCast, Bool.and_eq_true, Bool.not_eq_true', decide_eq_true_eq] at hc
  refine zM ?_
  refine hK _ ?_; clear hK K
  refine zN ?_
  refine zB ?_
  refine zF (zC rfl rfl) ?_; simp only [nA, Nat.reduceEqDiff, ↓reduceIte]
  (refine zF (zR rfl rfl rfl (by omega)) ?_); try simp only [nA, Nat.reduceBEq, Nat.reduceEqDiff, ↓reduceIte, Nat.reduceAdd, Nat.reduceSub]
  refine zF (zD rfl rfl) ?_; simp only [nA]
  refine zE ?_
  (try simp only [zI, zJ, Nat.reduceEqDiff, ↓reduceIte])
  refine ⟨i3 + 1, ⟨by omega, by omega, by rw [← hI3]; exact (up_pos (p := fun x => !yB dm[a]! x) (d := dm) (i := i3) (j := j2) (by omega) (by simp [hc.2])).symm⟩, by omega, ⟨rfl, rfl, rfl, rfl, trivial⟩, (by trivial), (by trivial)⟩
 (try simp only [z7] at hc); have hc1 := hc; simp only [Int.toNat_natCast, Bool.and_eq_true, Bool.not_eq_true', decide_eq_true_eq] at hc; have hU2 : Go.Sort.scanUp (fun x => !yB dm[a]! x) dm j2 i2 = i3 := (by rw [← hI3]; exact up_neg (by rintro ⟨h1, h2⟩; rcases hc with h | h; omega; simp [h] at h2))
 refine yE ?_; try simp only [zI, zJ, Nat.reduceEqDiff, ↓reduceIte]
 clear hK K
 refine hK _ ?_; clear hK K
 refine zA fun K hK => zN ?_
 refine yC (fun (j3 : Nat) => [(1, .v (.int .i64 a)), (4, .ptr 1 1 0 0), (9, .v (.int .i64 (i3 : Nat))), (10, .v (.int .i64 (j3 : Nat)))]) (fun _ => ⟨[(0, srt u dm), (1, .own 114 [dataW u])], 2⟩) (fun j3 => a ≤ j3 ∧ j3 ≤ j2 ∧ Go.Sort.scanDown (fun x => yB dm[a]! x) dm i3 j3 = Go.Sort.scanDown (fun x => yB dm[a]! x) dm i3 j2) (fun j3 => j3) j2 ⟨by omega, by omega, rfl⟩ ⟨rfl, rfl, rfl, rfl, trivial⟩ rfl ?_; rintro j3 ρ ⟨hj3a, hj3b, hJ3⟩; simp only [updL]
 refine zA fun K hK => ?_
 refine zA fun K hK => zB (yS ?_)
 refine zQ (zC rfl rfl) ?_; simp only [nA, ↓reduceIte]
 refine zQ (zC rfl rfl) ?_; simp only [nA, ↓reduceIte]
 refine zQ (op_leq rfl rfl rfl) ?_; try simp only [nA, Nat.reduceBEq, Nat.reduceEqDiff, ↓reduceIte, Nat.reduceAdd, Nat.reduceSub]
 refine zQ (zC rfl rfl) ?_; simp only [nA]
 refine' yK [_, _, _, _, _] [37,38,39,40,41] rfl rfl rfl rfl rfl rfl rfl rfl rfl rfl rfl rfl (fun hb => ?_) ?_; rotate_left
 ·
  (try simp only [z7] at hb)
  (refine zQ (zH rfl rfl rfl fl114_0 (by exact sz2) (by decide) rfl) ?_); try simp only [nA, Nat.reduceBEq, Nat.reduceEqDiff, ↓reduceIte, Nat.reduceAdd, Nat.reduceSub]
  (refine aqR (zG rfl rfl rfl rfl ag87 rfl rfl) ?_); try simp only [nA, Nat.reduceBEq, Nat.reduceEqDiff, ↓reduceIte, Nat.reduceAdd, Nat.reduceSub]
  refine zQ (zC rfl rfl) ?_; simp only [nA, ↓reduceIte]
  refine zQ (zC rfl rfl) ?_; simp only [nA, ↓reduceIte]
  refine aqQ (op_lt (r := 0) (d := dm) rfl rfl rfl rfl rfl (by omega) (by omega) (by omega)) ?_; try simp only [nA, Nat.reduceBEq, Nat.reduceEqDiff, ↓reduceIte, Nat.reduceAdd, Nat.reduceSub]
  (refine yL rfl rfl rfl ?_; repeat (first | exact fun _ _ => rfl | refine zU rfl ?_))
 refine yN (hK _ ?_); clear hK K
 refine zL rfl rfl rfl (fun hc => ?_) (fun hc => ?_)
 ·
  (try simp only [z7] at hc); have hc2 := hc; simp only [Int.toNat_natCast, Bool.and_eq_true, Bool.not_eq_true', decide_eq_true_eq] at hc
  refine zM ?_
  refine hK _ ?_; clear hK K
  refine zN ?_
  refine zB ?_
  refine zF (zC rfl rfl) ?_; simp only [nA, Nat.reduceEqDiff, ↓reduceIte]
  (refine zF (op_subi rfl rfl rfl (by omega)) ?_); try simp only [nA, Nat.reduceBEq, Nat.reduceEqDiff, ↓reduceIte, Nat.reduceAdd, Nat.reduceSub]
  refine zF (zD rfl rfl) ?_; simp only [nA]
  refine zE ?_
  (try simp only [zI, zJ, Nat.reduceEqDiff, ↓reduceIte])
  refine ⟨j3 - 1, ⟨by omega, by omega, by rw [← hJ3]; exact (down_pos (p := fun x => yB dm[a]! x) (d := dm) (i := i3) (j := j3) (by omega) (by omega) hc.2).symm⟩, by omega, ⟨rfl, rfl, rfl, vint (by omega), trivial⟩, (by trivial), (by trivial)⟩
 (try simp only [z7] at hc); have hc2 := hc; simp only [Int.toNat_natCast, Bool.and_eq_true, Bool.not_eq_true', decide_eq_true_eq] at hc; have hD2 : Go.Sort.scanDown (fun x => yB dm[a]! x) dm i3 j2 = j3 := (by rw [← hJ3]; exact down_neg (by rintro ⟨h1, h2⟩; rcases hc with h | h; omega; simp [h] at h2))
 refine yE ?_; try simp only [zI, zJ, Nat.reduceEqDiff, ↓reduceIte]
 clear hK K
 refine hK _ ?_; clear hK K
 refine zA fun K hK => ?_
 refine zA fun K hK => zB ?_
 refine zF (zC rfl rfl) ?_; simp only [nA, Nat.reduceEqDiff, ↓reduceIte]
 refine zF (zC rfl rfl) ?_; simp only [nA, Nat.reduceEqDiff, ↓reduceIte]
 refine zF (op_gtr rfl rfl rfl) ?_; try simp only [nA, Nat.reduceBEq, Nat.reduceEqDiff, ↓reduceIte, Nat.reduceAdd, Nat.reduceSub]
 refine zE (hK _ ?_); clear hK K
 refine zL rfl rfl rfl (fun hc => ?_) (fun hc => ?_)
 ·
  (try simp only [z7] at hc); have hc3 := hc
  refine yE ?_; try simp only [zI, zJ, Nat.reduceEqDiff, ↓reduceIte]
  clear hK K
  refine hK _ ?_; clear hK K
  refine zA fun K hK => zB ?_
  refine zF (zC rfl rfl) ?_; simp only [nA, Nat.reduceEqDiff, ↓reduceIte]
  refine zF (zD rfl rfl) ?_; simp only [nA]
  refine zE (hK _ ?_); clear hK K
  skip
  refine zO ?_; (try simp only [zI, zJ, Nat.reduceEqDiff, ↓reduceIte]); rw [← hP, peq_stop hU2 hD2 (by omega)]; exact RQ.of (.inl rfl) rfl (.tmp (bl rfl) rfl rfl .nil) (by simp) rfl (one_out rfl)
 (try simp only [z7] at hc); have hc3 := hc
 refine zM ?_
 refine hK _ ?_; clear hK K
 refine zA fun K hK => zB ?_
 (refine zF (zH rfl rfl rfl fl114_1 (by exact sz2) (by decide) rfl) ?_); try simp only [nA, Nat.reduceBEq, Nat.reduceEqDiff, ↓reduceIte, Nat.reduceAdd, Nat.reduceSub]
 (refine awR (zG rfl rfl rfl rfl ag108 rfl rfl) ?_); try simp only [nA, Nat.reduceBEq, Nat.reduceEqDiff, ↓reduceIte, Nat.reduceAdd, Nat.reduceSub]
 refine zF (zC rfl rfl) ?_; simp only [nA, Nat.reduceEqDiff, ↓reduceIte]
 refine zF (zC rfl rfl) ?_; simp only [nA, Nat.reduceEqDiff, ↓reduceIte]
 refine yD (op_sw (r := 0) (d := dm) rfl rfl rfl rfl rfl (by omega) (by omega) rfl) ?_; try simp only [nA, Nat.reduceBEq, Nat.reduceEqDiff, ↓reduceIte, Nat.reduceAdd, Nat.reduceSub]
 refine zE (hK _ ?_); clear hK K
 refine zA fun K hK => zB ?_
 refine zF (zC rfl rfl) ?_; simp only [nA, Nat.reduceEqDiff, ↓reduceIte]
 (refine zF (zR rfl rfl rfl (by omega)) ?_); try simp only [nA, Nat.reduceBEq, Nat.reduceEqDiff, ↓reduceIte, Nat.reduceAdd, Nat.reduceSub]
 refine zF (zD rfl rfl) ?_; simp only [nA]
 refine zE (hK _ ?_); clear hK K
 refine zB ?_
 refine zF (zC rfl rfl) ?_; simp only [nA, Nat.reduceEqDiff, ↓reduceIte]
 (refine zF (op_subi rfl rfl rfl (by omega)) ?_); try simp only [nA, Nat.reduceBEq, Nat.reduceEqDiff, ↓reduceIte, Nat.reduceAdd, Nat.reduceSub]
 refine zF (zD rfl rfl) ?_; simp only [nA]
 refine zE ?_
 (try simp only [zI, zJ, Nat.reduceEqDiff, ↓reduceIte])
 refine ⟨(i3 + 1, j3 - 1, Go.Sort.swp dm i3 j3), ⟨by dsimp only; omega, by dsimp only; omega, by dsimp only; omega, by dsimp only; omega, by rw [Go.Sort.size_swp, hsm], by rw [← hP]; exact (peq_step hU2 hD2 (by omega) (by omega)).symm⟩, by dsimp only; omega, ⟨rfl, rfl, vint (by dsimp only; omega), vint (by dsimp only; omega), trivial⟩, (by simp only [Int.toNat_natCast]), (by trivial)⟩
set_option maxRecDepth 100000
section
open Go.Sort
variable {p : Piece → Bool} {lt : Piece → Piece → Bool}
theorem up_bd {d : Array Piece} {j : Nat} : ∀ (n i : Nat), j + 1 - i = n → i ≤ scanUp p d j i ∧ (scanUp p d j i ≤ j + 1 ∨ scanUp p d j i = i) := by
 intro n
 induction n with
 | zero =>
   intro i h
   rw [up_neg (by omega)]
   exact ⟨Nat.le_refl _, .inr rfl⟩
 | succ n ih =>
   intro i h
   by_cases hc : i ≤ j ∧ p d[i]! = true
   · rw [up_pos hc.1 hc.2]
     have := ih (i + 1) (by omega)
     omega
   rw [up_neg hc]
   exact ⟨Nat.le_refl _, .inr rfl⟩
theorem down_bd {d : Array Piece} {i : Nat} (hi : 0 < i) : ∀ j, scanDown p d i j ≤ j ∧ (i ≤ scanDown p d i j + 1 ∨ scanDown p d i j = j) := by
 intro j
 induction j with
 | zero => exact ⟨Nat.le_refl _, .inr rfl⟩
 | succ j ih =>
   by_cases hc : i ≤ j + 1 ∧ p d[j + 1]! = true
   · rw [down_pos (by omega) hc.1 hc.2, Nat.add_sub_cancel]
     omega
   rw [down_neg hc]
   exact ⟨Nat.le_refl _, .inr rfl⟩
theorem peq_facts {a b : Nat} : ∀ (n i j : Nat) (d : Array Piece), j + 1 - i = n → a < i → i ≤ b → j + 1 ≤ b → a < (partEqLoop lt a i j d).1 ∧ (partEqLoop lt a i j d).1 ≤ b ∧ (partEqLoop lt a i j d).2.size = d.size := by
 intro n
 induction n using Nat.strongRecOn with
 | _ n ih =>
   intro i j d hn hi1 hi2 hj
   have hu := up_bd (p := fun x => !lt d[a]! x) (d := d) (j := j) _ i rfl
   generalize h1 : scanUp (fun x => !lt d[a]! x) d j i = i2 at hu
   have hd := down_bd (p := fun x => lt d[a]! x) (d := d) (i := i2) (by omega) j
   generalize h2 : scanDown (fun x => lt d[a]! x) d i2 j = j2 at hd
   by_cases h : j2 < i2
   · rw [peq_stop h1 h2 h]
     exact ⟨by dsimp only; omega, by dsimp only; omega, rfl⟩
   rw [peq_step h1 h2 h (by omega)]
   have := ih _ (by omega) (i2 + 1) (j2 - 1) (swp d i2 j2) rfl (by omega) (by omega) (by omega)
   rw [size_swp] at this
   exact this
theorem part_facts {a b : Nat} : ∀ (n i j : Nat) (d : Array Piece), j + 1 - i = n → a < i → a ≤ j → j < b → a ≤ (partLoop lt a i j d).1 ∧ (partLoop lt a i j d).1 < b ∧ (partLoop lt a i j d).2.size = d.size := by
 intro n
 induction n using Nat.strongRecOn with
 | _ n ih =>
   intro i j d hn hi1 hj1 hj
   have hu := up_bd (p := fun x => lt x d[a]!) (d := d) (j := j) _ i rfl
   generalize h1 : scanUp (fun x => lt x d[a]!) d j i = i2 at hu
   have hd := down_bd (p := fun x => !lt x d[a]!) (d := d) (i := i2) (by omega) j
   generalize h2 : scanDown (fun x => !lt x d[a]!) d i2 j = j2 at hd
   by_cases h : j2 < i2
   · rw [part_stop h1 h2 h]
     exact ⟨by dsimp only; omega, by dsimp only; omega, rfl⟩
   rw [part_step h1 h2 h (by omega)]
   have := ih _ (by omega) (i2 + 1) (j2 - 1) (swp d i2 j2) rfl (by omega) (by omega) (by omega)
   rw [size_swp] at this
   exact this
theorem eq_facts {d : Array Piece} {a b pv : Nat} (hab : a < b) : a < (partitionEqual lt d a b pv).1 ∧ (partitionEqual lt d a b pv).1 ≤ b ∧ (partitionEqual lt d a b pv).2.size = d.size := by
 have := peq_facts (lt := lt) (a := a) (b := b) _ (a + 1) (b - 1) (swp d a pv) rfl (by omega) (by omega) (by omega)
 rw [size_swp] at this
 exact this
theorem p_facts {d : Array Piece} {a b pv : Nat} (hab : a < b) : a ≤ (partition lt d a b pv).1 ∧ (partition lt d a b pv).1 < b ∧ (partition lt d a b pv).2.2.size = d.size := by
 unfold partition
 dsimp only
 have hu := up_bd (p := fun x => lt x (swp d a pv)[a]!) (d := swp d a pv) (j := b - 1) _ (a + 1) rfl
 generalize h1 : scanUp (fun x => lt x (swp d a pv)[a]!) (swp d a pv) (b - 1) (a + 1) = i2 at hu
 have hd := down_bd (p := fun x => !lt x (swp d a pv)[a]!) (d := swp d a pv) (i := i2) (by omega) (b - 1)
 generalize h2 : scanDown (fun x => !lt x (swp d a pv)[a]!) (swp d a pv) i2 (b - 1) = j2 at hd
 split
 · exact ⟨by dsimp only; omega, by dsimp only; omega, by simp only [size_swp]⟩
 have := part_facts (lt := lt) (a := a) (b := b) _ (i2 + 1) (j2 - 1) (swp (swp d a pv) i2 j2) rfl (by omega) (by omega) (by omega)
 simp only [size_swp] at this ⊢
 exact this
end
set_option maxRecDepth 100000
section
open Go.Sort
variable {lt : Piece → Piece → Bool} {d d1 d2 : Array Piece} {a b lim lim1 pv : Nat} {wb wp : Bool} {hint : Hint}
theorem pdq_ins (h : b - a ≤ 12) : pdq lt d a b lim wb wp = insertionSort lt d a b := by rw [pdq, if_pos h]
theorem pdq_heap (h : ¬ b - a ≤ 12) (hl : lim = 0) : pdq lt d a b lim wb wp = heapSort lt d a b := by rw [pdq, if_neg h, if_pos hl]
/-- What a round does ahead of the partition. -/
structure Round (lt : Piece → Piece → Bool) (d : Array Piece) (a b lim : Nat) (wb : Bool) (d1 : Array Piece) (lim1 : Nat) (d2 : Array Piece) (pv : Nat) (hint : Hint) : Prop where
 h12 : ¬ b - a ≤ 12
 hl : ¬ lim = 0
 e1 : (if !wb then breakPatterns d a b else d) = d1
 e2 : (if !wb then lim - 1 else lim) = lim1
 e3 : (if (choosePivot lt d1 a b).2 = .decreasing then reverseRange d1 a b else d1) = d2
 e4 : (if (choosePivot lt d1 a b).2 = .decreasing then (b - 1) - ((choosePivot lt d1 a b).1 - a) else (choosePivot lt d1 a b).1) = pv
 e5 : (if (choosePivot lt d1 a b).2 = .decreasing then Hint.increasing else (choosePivot lt d1 a b).2) = hint
theorem Round.done (h : Round lt d a b lim wb d1 lim1 d2 pv hint) (h1 : wb = true ∧ wp = true ∧ hint = .increasing) (h2 : (partialInsertionSort lt d2 a b).2 = true) : pdq lt d a b lim wb wp = (partialInsertionSort lt d2 a b).1 := by
 rw [pdq, if_neg h.h12, if_neg h.hl]
 simp only [h.e1, h.e2, h.e3, h.e4, h.e5]
 have hp : (if (wb && wp && decide (hint = Hint.increasing)) = true then partialInsertionSort lt d2 a b else (d2, false)) = ((partialInsertionSort lt d2 a b).1, true) := by
   rw [if_pos (by simp [h1]), ← h2]
 rw [hp]
 rfl
/-- What the partial sort leaves where it does not end the round. -/
def part3 (lt : Piece → Piece → Bool) (d2 : Array Piece) (a b : Nat) (wb wp : Bool) (hint : Hint) : Array Piece := if wb = true ∧ wp = true ∧ hint = .increasing then (partialInsertionSort lt d2 a b).1 else d2
theorem part3_size : (part3 lt d2 a b wb wp hint).size = d2.size := by
 unfold part3
 split
 · exact pI_size d2 a b
 rfl
theorem Round.rest {d3 : Array Piece} (h : Round lt d a b lim wb d1 lim1 d2 pv hint) (h1 : ¬ ((wb = true ∧ wp = true ∧ hint = .increasing) ∧ (partialInsertionSort lt d2 a b).2 = true)) (h3 : part3 lt d2 a b wb wp hint = d3) : pdq lt d a b lim wb wp =
   if a > 0 && !lt d3[a - 1]! d3[pv]! then
     (if _h : a < (partitionEqual lt d3 a b pv).1 ∧ (partitionEqual lt d3 a b pv).1 ≤ b then pdq lt (partitionEqual lt d3 a b pv).2 (partitionEqual lt d3 a b pv).1 b lim1 wb wp else (partitionEqual lt d3 a b pv).2)
   else
     (if _h : a ≤ (partition lt d3 a b pv).1 ∧ (partition lt d3 a b pv).1 < b then
       if (partition lt d3 a b pv).1 - a < b - (partition lt d3 a b pv).1 then
         pdq lt (pdq lt (partition lt d3 a b pv).2.2 a (partition lt d3 a b pv).1 lim1 true true) ((partition lt d3 a b pv).1 + 1) b lim1 (decide ((partition lt d3 a b pv).1 - a ≥ (b - a) / 8)) (partition lt d3 a b pv).2.1
       else
         pdq lt (pdq lt (partition lt d3 a b pv).2.2 ((partition lt d3 a b pv).1 + 1) b lim1 true true) a (partition lt d3 a b pv).1 lim1 (decide (b - (partition lt d3 a b pv).1 ≥ (b - a) / 8)) (partition lt d3 a b pv).2.1
     else (partition lt d3 a b pv).2.2) := by
 subst h3
 rw [pdq, if_neg h.h12, if_neg h.hl]
 simp only [h.e1, h.e2, h.e3, h.e4, h.e5]
 have hp : (if (wb && wp && decide (hint = Hint.increasing)) = true then partialInsertionSort lt d2 a b else (d2, false)).1 = part3 lt d2 a b wb wp hint ∧ (if (wb && wp && decide (hint = Hint.increasing)) = true then partialInsertionSort lt d2 a b else (d2, false)).2 = false := by
   unfold part3
   by_cases hc : wb = true ∧ wp = true ∧ hint = .increasing
   · rw [if_pos (by simp [hc]), if_pos hc]
     refine ⟨rfl, ?_⟩
     cases hh : (partialInsertionSort lt d2 a b).2 with
     | false => rfl
     | true => exact absurd ⟨hc, hh⟩ h1
   rw [if_neg (by simpa using hc), if_neg hc]
   exact ⟨rfl, rfl⟩
 rw [hp.1, hp.2]
 rfl
end
set_option maxRecDepth 100000
section
open Go.Sort
variable {lt : Piece → Piece → Bool}
theorem size_insInner (a : Nat) : ∀ (j : Nat) (d : Array Piece), (insInner lt a j d).size = d.size
 | 0, d => by unfold insInner; rfl
 | j + 1, d => by
   unfold insInner
   split
   · rw [size_insInner a j, size_swp]
   rfl
theorem size_insOuter (a b : Nat) : ∀ (n i : Nat) (d : Array Piece), b - i = n → (insOuter lt a b i d).size = d.size
 | 0, i, d, h => by unfold insOuter; rw [if_neg (by omega)]
 | n + 1, i, d, h => by unfold insOuter; rw [if_pos (by omega), size_insOuter a b n (i + 1) _ (by omega), size_insInner]
theorem size_ins (d : Array Piece) (a b : Nat) : (insertionSort lt d a b).size = d.size := size_insOuter a b _ _ d rfl
theorem size_hb (hi f : Nat) : ∀ (k : Nat) (d : Array Piece), (heapBuild lt hi f k d).size = d.size
 | 0, d => rfl
 | k + 1, d => by rw [heapBuild, size_hb hi f k, size_sift _ _ _ rfl]
theorem size_hp (f : Nat) : ∀ (k : Nat) (d : Array Piece), (heapPop lt f k d).size = d.size
 | 0, d => rfl
 | k + 1, d => by rw [heapPop, size_hp f k, size_sift _ _ _ rfl, size_swp]
theorem size_heap (d : Array Piece) (a b : Nat) : (heapSort lt d a b).size = d.size := by unfold heapSort; rw [size_hp, size_hb]
theorem Round.size {d d1 d2 : Array Piece} {a b lim lim1 pv : Nat} {wb : Bool} {hint : Hint} (h : Round lt d a b lim wb d1 lim1 d2 pv hint) (hb : b ≤ d.size) : d2.size = d.size := by
 have h12 := h.h12
 have s1 : d1.size = d.size := by
   rw [← h.e1]
   split
   · exact (breakPatterns_holds d a b (by omega) hb).1
   rfl
 rw [← h.e3, ← s1]
 split
 · exact (reverseRange_holds d1 a b (by omega) (by omega)).1
 rfl
theorem pdq_size : ∀ (n : Nat) (d : Array Piece) (a b lim : Nat) (wb wp : Bool), b - a = n → b ≤ d.size → (pdq lt d a b lim wb wp).size = d.size := by
 intro n
 induction n using Nat.strongRecOn with
 | _ n ih =>
   intro d a b lim wb wp hn hb
   by_cases h12 : b - a ≤ 12
   · rw [pdq_ins h12, size_ins]
   by_cases hl : lim = 0
   · rw [pdq_heap h12 hl, size_heap]
   have R : Round lt d a b lim wb _ _ _ _ _ := ⟨h12, hl, rfl, rfl, rfl, rfl, rfl⟩
   have hs := R.size hb
   revert R hs
   generalize (if !wb then breakPatterns d a b else d) = d1
   generalize (if !wb then lim - 1 else lim) = lim1
   generalize (if (choosePivot lt d1 a b).2 = .decreasing then reverseRange d1 a b else d1) = d2
   generalize (if (choosePivot lt d1 a b).2 = .decreasing then (b - 1) - ((choosePivot lt d1 a b).1 - a) else (choosePivot lt d1 a b).1) = pv
   generalize (if (choosePivot lt d1 a b).2 = .decreasing then Hint.increasing else (choosePivot lt d1 a b).2) = hint
   intro R hs
   by_cases hdone : (wb = true ∧ wp = true ∧ hint = .increasing) ∧ (partialInsertionSort lt d2 a b).2 = true
   · rw [R.done hdone.1 hdone.2, pI_size, hs]
   rw [R.rest hdone rfl]
   have hs3 := part3_size (lt := lt) (d2 := d2) (a := a) (b := b) (wb := wb) (wp := wp) (hint := hint)
   generalize part3 lt d2 a b wb wp hint = d3 at hs3
   have he := eq_facts (lt := lt) (d := d3) (a := a) (b := b) (pv := pv) (by omega)
   have hp := p_facts (lt := lt) (d := d3) (a := a) (b := b) (pv := pv) (by omega)
   split
   · rw [dif_pos ⟨he.1, he.2.1⟩, ih _ (by omega) _ _ _ _ _ _ rfl (by omega)]
     omega
   rw [dif_pos ⟨hp.1, hp.2.1⟩]
   have q1 := ih _ (by omega) (partition lt d3 a b pv).2.2 a (partition lt d3 a b pv).1 lim1 true true rfl (by omega)
   have q2 := ih _ (by omega) (partition lt d3 a b pv).2.2 ((partition lt d3 a b pv).1 + 1) b lim1 true true rfl (by omega)
   split
   · rw [ih _ (by omega) _ _ _ _ _ _ rfl (by omega)]; omega
   rw [ih _ (by omega) _ _ _ _ _ _ rfl (by omega)]; omega
end
set_option maxRecDepth 100000
theorem hint_2 {h : Go.Sort.Hint} : hintI h = 2 ↔ h = .decreasing := by cases h <;> decide
theorem hint_1 {h : Go.Sort.Hint} : hintI h = 1 ↔ h = .increasing := by cases h <;> decide
theorem en95 : zZ Tryz.prog 95 := enters_of Tryz.func95 (by kernel_rfl) rfl
theorem en96 : zZ Tryz.prog 96 := enters_of Tryz.func96 (by kernel_rfl) rfl
theorem en97 : zZ Tryz.prog 97 := enters_of Tryz.func97 (by kernel_rfl) rfl
theorem en98 : zZ Tryz.prog 98 := enters_of Tryz.func98 (by kernel_rfl) rfl
theorem en99 : zZ Tryz.prog 99 := enters_of Tryz.func99 (by kernel_rfl) rfl
theorem en100 : zZ Tryz.prog 100 := enters_of Tryz.func100 (by kernel_rfl) rfl
theorem en101 : zZ Tryz.prog 101 := enters_of Tryz.func101 (by kernel_rfl) rfl
theorem en102 : zZ Tryz.prog 102 := enters_of Tryz.func102 (by kernel_rfl) rfl
theorem en72 : zZ Tryz.prog 72 := enters_of Tryz.func72 (by kernel_rfl) rfl
theorem sol2 {P : Program} {x y : Value} : ∀ z ∈ [AV.v x, AV.v y], SolidA P z := fun z h => by
 simp only [List.mem_cons, List.not_mem_nil, or_false] at h
 rcases h with rfl | rfl <;> exact Solid.v _
theorem vbool {a b : Prop} [Decidable a] [Decidable b] (h : a ↔ b) : AV.v (.bool (decide a)) = AV.v (.bool (decide b)) := by rw [decide_eq_decide.2 h]
theorem C72 : ∀ (n : Nat) {u : Value} {d : Array Piece} {a b lim : Nat}, b - a = n → a ≤ b → b ≤ d.size → d.size ≤ 50 → 0 < d.size → lim ≤ 100 → Fn Tryz.prog 72 [srt u d] [.agg (dataW u), .v (.int .i64 a), .v (.int .i64 b), .v (.int .i64 lim)] [] [srt u (Go.Sort.pdq yB d a b lim true true)] := by
 intro n
 induction n using Nat.strongRecOn with
 | _ n ih =>
 intro u d a b lim hn hab hb hl h0 hlim
 refine Spec.body Tryz.func72 rfl Tryz.ntmps72 (by simp) rfl ?_; intro S0 own0 v0 w0
 refine zA fun K hK => zB ?_
 refine yD (yO rfl rfl rfl sz114 rfl) ?_; simp only [nA, Nat.reduceBEq, Nat.reduceEqDiff, ↓reduceIte]
 refine zE (hK _ ?_); clear hK K; try simp only [nA, Nat.reduceBEq, Nat.reduceEqDiff, ↓reduceIte, Nat.reduceAdd, Nat.reduceSub]
 refine zA fun K hK => zB ?_
 refine zF (zD rfl rfl) ?_; try simp only [nA, Nat.reduceBEq, Nat.reduceEqDiff, ↓reduceIte, Nat.reduceAdd, Nat.reduceSub]
 refine zE (hK _ ?_); clear hK K
 refine zA fun K hK => zB ?_
 refine zF (zD rfl rfl) ?_; try simp only [nA, Nat.reduceBEq, Nat.reduceEqDiff, ↓reduceIte, Nat.reduceAdd, Nat.reduceSub]
 refine zE (hK _ ?_); clear hK K
 refine zN ?_
 refine yC (fun (q : Nat × Nat × Nat × Bool × Bool × Array Piece) => [(1, .v (.int .i64 (q.1 : Nat))), (2, .v (.int .i64 (q.2.1 : Nat))), (3, .v (.int .i64 (q.2.2.1 : Nat))), (4, .ptr 1 1 0 0), (8, .v (.bool q.2.2.2.1)), (9, .v (.bool q.2.2.2.2.1))]) (fun q => ⟨[(0, srt u q.2.2.2.2.2), (1, .own 114 [dataW u])], 2⟩) (fun q => q.1 ≤ q.2.1 ∧ q.2.1 ≤ d.size ∧ q.2.1 - q.1 ≤ b - a ∧ q.2.2.1 ≤ 100 ∧ q.2.2.2.2.2.size = d.size ∧ Go.Sort.pdq yB q.2.2.2.2.2 q.1 q.2.1 q.2.2.1 q.2.2.2.1 q.2.2.2.2.1 = Go.Sort.pdq yB d a b lim true true) (fun q => q.2.1 - q.1) (a, b, lim, true, true, d) ⟨hab, hb, Nat.le_refl _, hlim, rfl, rfl⟩ ⟨rfl, rfl, rfl, rfl, rfl, rfl, trivial⟩ rfl ?_; rintro ⟨x, y, l, wb, wp, dk⟩ ρ ⟨hxy, hy, hxa, hl1, hs, hP⟩; dsimp only at hxy hy hxa hl1 hs hP ⊢; simp only [updL]
 refine zN ?_
 refine zA fun K hK => zB ?_
 refine zF (zC rfl rfl) ?_; simp only [nA, ↓reduceIte]
 refine zF (zC rfl rfl) ?_; simp only [nA, ↓reduceIte]
 (refine zF (op_subi rfl rfl rfl (by omega)) ?_); try simp only [nA, Nat.reduceBEq, Nat.reduceEqDiff, ↓reduceIte, Nat.reduceAdd, Nat.reduceSub]
 refine zF (zD rfl rfl) ?_; simp only [nA]
 refine zE (hK _ ?_); clear hK K
 refine zA fun K hK => ?_
 refine zA fun K hK => zB ?_
 refine zF (zC rfl rfl) ?_; simp only [nA]
 refine zF (op_leq rfl rfl rfl) ?_; try simp only [nA, Nat.reduceBEq, Nat.reduceEqDiff, ↓reduceIte, Nat.reduceAdd, Nat.reduceSub]
 refine zE (hK _ ?_); clear hK K
 refine zL rfl rfl rfl (fun hc => ?_) (fun hc => ?_)
 ·
  (try simp only [z7] at hc); have hc1 := hc; have h12 : y - x ≤ 12 := by omega
  refine zA fun K hK => zB ?_
  (refine awR (zK rfl rfl rfl rfl ag114 sz114 (bl rfl) rfl) ?_); try simp only [nA, Nat.reduceBEq, Nat.reduceEqDiff, ↓reduceIte, Nat.reduceAdd, Nat.reduceSub]
  refine zF (zC rfl rfl) ?_; simp only [nA, ↓reduceIte]
  refine zF (zC rfl rfl) ?_; simp only [nA, ↓reduceIte]
  refine yD (op_callN (r := 0) rfl en95 (C95 (u := u) (d := dk) (a := x) (b := y) hxy (by omega) (by omega)) (by exact rfl) (RL.cons (.base (.same (by exact rfl))) (RL.cons (.base (.same (by exact rfl))) (RL.cons (.base (.same (by exact rfl))) RL.nil))) (by exact ⟨_, _, _, _, rfl, rfl⟩) (by exact rfl) (by exact rfl) (by exact rfl)) ?_; try simp only [nA, Nat.reduceBEq, Nat.reduceEqDiff, ↓reduceIte, Nat.reduceAdd, Nat.reduceSub]
  refine zE (hK _ ?_); clear hK K
  skip
  refine zO ?_; (try simp only [zI, zJ, Nat.reduceEqDiff, ↓reduceIte]); rw [← hP, pdq_ins h12]; exact RQ.of (.inl rfl) rfl .nil (by simp) rfl (one_out rfl)
 (try simp only [z7] at hc); have hc1 := hc; have h12 : ¬ y - x ≤ 12 := by omega
 refine zM ?_
 refine hK _ ?_; clear hK K
 refine zA fun K hK => ?_
 refine zA fun K hK => zB ?_
 refine zF (zC rfl rfl) ?_; simp only [nA, ↓reduceIte]
 (refine zF (op_eql rfl rfl rfl) ?_); try simp only [nA, Nat.reduceBEq, Nat.reduceEqDiff, ↓reduceIte, Nat.reduceAdd, Nat.reduceSub]
 refine zE (hK _ ?_); clear hK K
 refine zL rfl rfl rfl (fun hc => ?_) (fun hc => ?_)
 ·
  (try simp only [z7] at hc); have hc2 := hc
  refine zA fun K hK => zB ?_
  (refine awR (zK rfl rfl rfl rfl ag114 sz114 (bl rfl) rfl) ?_); try simp only [nA, Nat.reduceBEq, Nat.reduceEqDiff, ↓reduceIte, Nat.reduceAdd, Nat.reduceSub]
  refine zF (zC rfl rfl) ?_; simp only [nA, ↓reduceIte]
  refine zF (zC rfl rfl) ?_; simp only [nA, ↓reduceIte]
  refine yD (op_callN (r := 0) rfl en96 (C96 (u := u) (d := dk) (a := x) (b := y) (by omega) (by omega) (by omega)) (by exact rfl) (RL.cons (.base (.same (by exact rfl))) (RL.cons (.base (.same (by exact rfl))) (RL.cons (.base (.same (by exact rfl))) RL.nil))) (by exact ⟨_, _, _, _, rfl, rfl⟩) (by exact rfl) (by exact rfl) (by exact rfl)) ?_; try simp only [nA, Nat.reduceBEq, Nat.reduceEqDiff, ↓reduceIte, Nat.reduceAdd, Nat.reduceSub]
  refine zE (hK _ ?_); clear hK K
  skip
  refine zO ?_; (try simp only [zI, zJ, Nat.reduceEqDiff, ↓reduceIte]); rw [← hP, pdq_heap h12 (by omega)]; exact RQ.of (.inl rfl) rfl .nil (by simp) rfl (one_out rfl)
 (try simp only [z7] at hc); have hc2 := hc
 refine zM ?_
 refine hK _ ?_; clear hK K
 refine AW.join (ι := Unit) (fun _ => [(1, .v (.int .i64 (x : Nat))), (2, .v (.int .i64 (y : Nat))), (4, .ptr 1 1 0 0), (8, .v (.bool wb)), (9, .v (.bool wp)), (10, .v (.int .i64 ((y : Int) - (x : Int)))), (3, .v (.int .i64 ((if !wb then l - 1 else l : Nat) : Int)))]) (fun _ => ⟨[(0, srt u (if !wb then Go.Sort.breakPatterns dk x y else dk)), (1, .own 114 [dataW u])], 2⟩) (fun _ => True) ?_ ?_
 ·
  refine zA fun K hK => zB ?_
  refine zF (zC rfl rfl) ?_; simp only [nA, ↓reduceIte]
  refine zF (op_not rfl rfl rfl) ?_; try simp only [nA, Nat.reduceBEq, Nat.reduceEqDiff, ↓reduceIte, Nat.reduceAdd, Nat.reduceSub]
  refine zE (hK _ ?_); clear hK K; try simp only [nA, Nat.reduceBEq, Nat.reduceEqDiff, ↓reduceIte, Nat.reduceAdd, Nat.reduceSub]
  refine zL rfl rfl rfl (fun hc => ?_) (fun hc => ?_)
  ·
   (try simp only [z7] at hc); have hc3 := hc
   refine zA fun K hK => zB ?_
   (refine awR (zK rfl rfl rfl rfl ag114 sz114 (bl rfl) rfl) ?_); try simp only [nA, Nat.reduceBEq, Nat.reduceEqDiff, ↓reduceIte, Nat.reduceAdd, Nat.reduceSub]
   refine zF (zC rfl rfl) ?_; simp only [nA, ↓reduceIte]
   refine zF (zC rfl rfl) ?_; simp only [nA, ↓reduceIte]
   refine yD (op_callN (r := 0) rfl en97 (C97 (u := u) (d := dk) (a := x) (b := y) (by omega) hxy (by omega) (by omega)) (by exact rfl) (RL.cons (.base (.same (by exact rfl))) (RL.cons (.base (.same (by exact rfl))) (RL.cons (.base (.same (by exact rfl))) RL.nil))) (by exact ⟨_, _, _, _, rfl, rfl⟩) (by exact rfl) (by exact rfl) (by exact rfl)) ?_; try simp only [nA, Nat.reduceBEq, Nat.reduceEqDiff, ↓reduceIte, Nat.reduceAdd, Nat.reduceSub]
   refine zE (hK _ ?_); clear hK K
   refine zB ?_
   refine zF (zC rfl rfl) ?_; simp only [nA, ↓reduceIte]
   (refine zF (op_subi rfl rfl rfl (by omega)) ?_); try simp only [nA, Nat.reduceBEq, Nat.reduceEqDiff, ↓reduceIte, Nat.reduceAdd, Nat.reduceSub]
   refine zF (zD rfl rfl) ?_; simp only [nA]
   refine zE ?_
   cases wb <;> first | (cases hc3; done) | exact ⟨(), trivial, ⟨rfl, rfl, rfl, rfl, rfl, rfl, vint (by simp; omega), trivial⟩, rfl, rfl⟩
  (try simp only [z7] at hc); have hc3 := hc
  refine zM ?_
  cases wb <;> first | (cases hc3; done) | exact ⟨(), trivial, ⟨rfl, rfl, rfl, rfl, rfl, rfl, rfl, trivial⟩, rfl, rfl⟩
 intro _ ρ _; simp only [updL]; generalize he1 : (if !wb then Go.Sort.breakPatterns dk x y else dk) = d1; generalize he2 : (if !wb then l - 1 else l) = l1; have hs1 : d1.size = d.size := (by rw [← he1, ← hs]; split; exact (Go.Sort.breakPatterns_holds dk x y hxy (by omega)).1; rfl); have hl2 : l1 ≤ 100 := (by rw [← he2]; split <;> omega); have hcp := Go.Sort.choosePivot_holds yB d1 x y (by omega)
 refine zA fun K hK => zB ?_
 (refine awR (zK rfl rfl rfl rfl ag114 sz114 (bl rfl) rfl) ?_); try simp only [nA, Nat.reduceBEq, Nat.reduceEqDiff, ↓reduceIte, Nat.reduceAdd, Nat.reduceSub]
 refine zF (zC rfl rfl) ?_; simp only [nA, ↓reduceIte]
 refine zF (zC rfl rfl) ?_; simp only [nA, ↓reduceIte]
 refine yD (op_callRd (r := 0) rfl en98 (C98 (u := u) (d := d1) (a := x) (b := y) (by omega) (by omega) (by omega)) (by exact rfl) (rowsP_flat d1) (RL.cons (.up (by exact rfl)) (RL.cons (.base (.same (by exact rfl))) (RL.cons (.base (.same (by exact rfl))) RL.nil))) (by exact rfl) sol2 (by exact rfl) (by exact rfl)) ?_; try simp only [nA, Nat.reduceBEq, Nat.reduceEqDiff, ↓reduceIte, Nat.reduceAdd, Nat.reduceSub]
 refine zF (zC rfl rfl) ?_; simp only [nA]
 refine zF (z6 rfl rfl rfl) ?_; try simp only [nA, Nat.reduceBEq, Nat.reduceEqDiff, ↓reduceIte, Nat.reduceAdd, Nat.reduceSub]
 refine zF (z6 rfl rfl rfl) ?_; try simp only [nA, Nat.reduceBEq, Nat.reduceEqDiff, ↓reduceIte, Nat.reduceAdd, Nat.reduceSub]
 refine zF (zD rfl rfl) ?_; simp only [nA, ↓reduceIte]
 refine zF (zD rfl rfl) ?_; simp only [nA, ↓reduceIte]
 refine zE (hK _ ?_); clear hK K
 refine AW.join (ι := Unit) (fun _ => [(1, .v (.int .i64 (x : Nat))), (2, .v (.int .i64 (y : Nat))), (4, .ptr 1 1 0 0), (8, .v (.bool wb)), (9, .v (.bool wp)), (10, .v (.int .i64 ((y : Int) - (x : Int)))), (3, .v (.int .i64 (l1 : Nat))), (11, .v (.int .i64 ((if (Go.Sort.choosePivot yB d1 x y).2 = .decreasing then (y - 1) - ((Go.Sort.choosePivot yB d1 x y).1 - x) else (Go.Sort.choosePivot yB d1 x y).1 : Nat) : Int))), (12, .v (.int .i64 (hintI (if (Go.Sort.choosePivot yB d1 x y).2 = .decreasing then Go.Sort.Hint.increasing else (Go.Sort.choosePivot yB d1 x y).2))))]) (fun _ => ⟨[(0, srt u (if (Go.Sort.choosePivot yB d1 x y).2 = .decreasing then Go.Sort.reverseRange d1 x y else d1)), (1, .own 114 [dataW u])], 2⟩) (fun _ => True) ?_ ?_
 ·
  refine zA fun K hK => zB ?_
  refine zF (zC rfl rfl) ?_; simp only [nA]
  (refine zF (op_eql rfl rfl rfl) ?_); try simp only [nA, Nat.reduceBEq, Nat.reduceEqDiff, ↓reduceIte, Nat.reduceAdd, Nat.reduceSub]
  refine zE (hK _ ?_); clear hK K; try simp only [nA, Nat.reduceBEq, Nat.reduceEqDiff, ↓reduceIte, Nat.reduceAdd, Nat.reduceSub]
  refine zL rfl rfl rfl (fun hc => ?_) (fun hc => ?_)
  ·
   (try simp only [z7] at hc); have hc4 := hc
   refine zA fun K hK => zB ?_
   (refine awR (zK rfl rfl rfl rfl ag114 sz114 (bl rfl) rfl) ?_); try simp only [nA, Nat.reduceBEq, Nat.reduceEqDiff, ↓reduceIte, Nat.reduceAdd, Nat.reduceSub]
   refine zF (zC rfl rfl) ?_; simp only [nA, ↓reduceIte]
   refine zF (zC rfl rfl) ?_; simp only [nA, ↓reduceIte]
   refine yD (op_callN (r := 0) rfl en99 (C99 (u := u) (d := d1) (a := x) (b := y) (by omega) hxy (by omega) (by omega)) (by exact rfl) (RL.cons (.base (.same (by exact rfl))) (RL.cons (.base (.same (by exact rfl))) (RL.cons (.base (.same (by exact rfl))) RL.nil))) (by exact ⟨_, _, _, _, rfl, rfl⟩) (by exact rfl) (by exact rfl) (by exact rfl)) ?_; try simp only [nA, Nat.reduceBEq, Nat.reduceEqDiff, ↓reduceIte, Nat.reduceAdd, Nat.reduceSub]
   refine zE (hK _ ?_); clear hK K
   refine zA fun K hK => zB ?_
   refine zF (zC rfl rfl) ?_; simp only [nA, ↓reduceIte]
   (refine zF (op_subi rfl rfl rfl (by omega)) ?_); try simp only [nA, Nat.reduceBEq, Nat.reduceEqDiff, ↓reduceIte, Nat.reduceAdd, Nat.reduceSub]
   refine zF (zC rfl rfl) ?_; simp only [nA, ↓reduceIte]
   refine zF (zC rfl rfl) ?_; simp only [nA, ↓reduceIte]
   (refine zF (op_subi rfl rfl rfl (by omega)) ?_); try simp only [nA, Nat.reduceBEq, Nat.reduceEqDiff, ↓reduceIte, Nat.reduceAdd, Nat.reduceSub]
   (refine zF (op_subi rfl rfl rfl (by omega)) ?_); try simp only [nA, Nat.reduceBEq, Nat.reduceEqDiff, ↓reduceIte, Nat.reduceAdd, Nat.reduceSub]
   refine zF (zD rfl rfl) ?_; simp only [nA]
   refine zE (hK _ ?_); clear hK K
   refine zB ?_
   refine zF (zD rfl rfl) ?_; try simp only [nA, Nat.reduceBEq, Nat.reduceEqDiff, ↓reduceIte, Nat.reduceAdd, Nat.reduceSub]
   refine zE ?_
   rw [hint_2] at hc; simp only [if_pos hc]; exact ⟨(), trivial, ⟨rfl, rfl, rfl, rfl, rfl, rfl, rfl, vint (by omega), rfl, trivial⟩, rfl, rfl⟩
  (try simp only [z7] at hc); have hc4 := hc
  refine zM ?_
  rw [hint_2] at hc; simp only [if_neg hc]; exact ⟨(), trivial, ⟨rfl, rfl, rfl, rfl, rfl, rfl, rfl, rfl, rfl, trivial⟩, rfl, rfl⟩
 intro _ ρ _; simp only [updL]; have R : Round yB dk x y l wb _ _ _ _ _ := ⟨h12, (by omega), he1, he2, rfl, rfl, rfl⟩; have hs2 := R.size (by omega); have hpv := Go.Sort.pivot_range hcp.1 hcp.2 ((Go.Sort.choosePivot yB d1 x y).2 = .decreasing); simp only [dite_eq_ite] at hpv; revert R hs2 hpv; generalize (if (Go.Sort.choosePivot yB d1 x y).2 = .decreasing then Go.Sort.reverseRange d1 x y else d1) = d2; generalize (if (Go.Sort.choosePivot yB d1 x y).2 = .decreasing then (y - 1) - ((Go.Sort.choosePivot yB d1 x y).1 - x) else (Go.Sort.choosePivot yB d1 x y).1) = pv; generalize (if (Go.Sort.choosePivot yB d1 x y).2 = .decreasing then Go.Sort.Hint.increasing else (Go.Sort.choosePivot yB d1 x y).2) = hint; intro R hs2 hpv
 refine AW.join (ι := Array Piece) (fun _ => [(1, .v (.int .i64 (x : Nat))), (2, .v (.int .i64 (y : Nat))), (4, .ptr 1 1 0 0), (8, .v (.bool wb)), (9, .v (.bool wp)), (10, .v (.int .i64 ((y : Int) - (x : Int)))), (3, .v (.int .i64 (l1 : Nat))), (11, .v (.int .i64 (pv : Nat)))]) (fun d3 => ⟨[(0, srt u d3), (1, .own 114 [dataW u])], 2⟩) (fun d3 => part3 yB d2 x y wb wp hint = d3 ∧ ¬ ((wb = true ∧ wp = true ∧ hint = .increasing) ∧ (Go.Sort.partialInsertionSort yB d2 x y).2 = true)) ?_ ?_
 ·
  refine zA fun K hK => zB (yS ?_)
  refine zQ (zC rfl rfl) ?_; simp only [nA, ↓reduceIte]
  refine zQ (zC rfl rfl) ?_; simp only [nA]
  refine' yK [_] [63] rfl rfl rfl rfl rfl rfl rfl rfl rfl rfl rfl rfl (fun hb => ?_) ?_; rotate_left
  ·
   (try simp only [z7] at hb)
   refine zQ (zC rfl rfl) ?_; simp only [nA, ↓reduceIte]
   (refine yL rfl rfl rfl ?_; repeat (first | exact fun _ _ => rfl | refine zU rfl ?_))
  refine zQ (zC rfl rfl) ?_; simp only [nA]
  refine' yK [_, _] [66,67] rfl rfl rfl rfl rfl rfl rfl rfl rfl rfl rfl rfl (fun hb => ?_) ?_; rotate_left
  ·
   (try simp only [z7] at hb)
   refine zQ (zC rfl rfl) ?_; simp only [nA, Nat.reduceEqDiff, ↓reduceIte]
   (refine zQ (op_eql rfl rfl rfl) ?_); try simp only [nA, Nat.reduceBEq, Nat.reduceEqDiff, ↓reduceIte, Nat.reduceAdd, Nat.reduceSub]
   (refine yL rfl rfl rfl ?_; repeat (first | exact fun _ _ => rfl | refine zU rfl ?_))
  refine yN (hK _ ?_); clear hK K; try simp only [nA, Nat.reduceBEq, Nat.reduceEqDiff, ↓reduceIte, Nat.reduceAdd, Nat.reduceSub]
  refine zL rfl rfl rfl (fun hc => ?_) (fun hc => ?_)
  ·
   (try simp only [z7] at hc); have hc5 := hc; simp only [Bool.and_eq_true, decide_eq_true_eq, hint_1] at hc hc5
   refine zA fun K hK => zB ?_
   (refine awR (zK rfl rfl rfl rfl ag114 sz114 (bl rfl) rfl) ?_); try simp only [nA, Nat.reduceBEq, Nat.reduceEqDiff, ↓reduceIte, Nat.reduceAdd, Nat.reduceSub]
   refine zF (zC rfl rfl) ?_; simp only [nA, Nat.reduceEqDiff, ↓reduceIte]
   refine zF (zC rfl rfl) ?_; simp only [nA, Nat.reduceEqDiff, ↓reduceIte]
   refine yD (op_callN (r := 0) rfl en100 (C100 (u := u) (d := d2) (a := x) (b := y) (by omega) (by omega) (by omega)) (by exact rfl) (RL.cons (.base (.same (by exact rfl))) (RL.cons (.base (.same (by exact rfl))) (RL.cons (.base (.same (by exact rfl))) RL.nil))) (by exact ⟨_, _, _, _, rfl, rfl⟩) (by exact rfl) (by exact rfl) (by exact rfl)) ?_; try simp only [nA, Nat.reduceBEq, Nat.reduceEqDiff, ↓reduceIte, Nat.reduceAdd, Nat.reduceSub]
   refine zE (hK _ ?_); clear hK K
   refine zL rfl rfl rfl (fun hc => ?_) (fun hc => ?_)
   ·
    (try simp only [z7] at hc); have hc6 := hc
    skip
    refine zO ?_; (try simp only [zI, zJ, Nat.reduceEqDiff, ↓reduceIte]); rw [← hP, R.done ⟨hc5.1.1, hc5.1.2, hc5.2⟩ (by simpa using hc)]; exact RQ.of (.inl rfl) rfl .nil (by simp) rfl (one_out rfl)
   (try simp only [z7] at hc); have hc6 := hc
   refine zM ?_
   exact ⟨(Go.Sort.partialInsertionSort yB d2 x y).1, ⟨by unfold part3; rw [if_pos ⟨hc5.1.1, hc5.1.2, hc5.2⟩], fun h => (by simp [h.2] at hc)⟩, ⟨rfl, rfl, rfl, rfl, rfl, rfl, rfl, rfl, trivial⟩, rfl, rfl⟩
  (try simp only [z7] at hc); have hc5 := hc; simp only [Bool.and_eq_true, decide_eq_true_eq, hint_1] at hc hc5
  refine zM ?_
  exact ⟨d2, ⟨by unfold part3; rw [if_neg (fun h => by simp [h.1, h.2.1, h.2.2, hintI] at hc)], fun h => (by simp [h.1.1, h.1.2.1, h.1.2.2, hintI] at hc)⟩, ⟨rfl, rfl, rfl, rfl, rfl, rfl, rfl, rfl, trivial⟩, rfl, rfl⟩
 rintro d3 ρ ⟨hq3, hnd⟩; simp only [updL]; have hs3 : d3.size = d2.size := (by rw [← hq3]; exact part3_size)
 refine zA fun K hK => ?_
 refine zA fun K hK => zB (yS ?_)
 refine zQ (zC rfl rfl) ?_; simp only [nA]
 refine zQ (op_gtr rfl rfl rfl) ?_; try simp only [nA, Nat.reduceBEq, Nat.reduceEqDiff, ↓reduceIte, Nat.reduceAdd, Nat.reduceSub]
 refine zQ (zC rfl rfl) ?_; simp only [nA]
 refine' yK [_, _, _, _, _, _, _] [76,77,78,79,80,81,82] rfl rfl rfl rfl rfl rfl rfl rfl rfl rfl rfl rfl (fun hb => ?_) ?_; rotate_left
 ·
  (try simp only [z7] at hb)
  (refine zQ (zH rfl rfl rfl fl114_0 (by exact sz2) (by decide) rfl) ?_); try simp only [nA, Nat.reduceBEq, Nat.reduceEqDiff, ↓reduceIte, Nat.reduceAdd, Nat.reduceSub]
  (refine aqR (zG rfl rfl rfl rfl ag87 rfl rfl) ?_); try simp only [nA, Nat.reduceBEq, Nat.reduceEqDiff, ↓reduceIte, Nat.reduceAdd, Nat.reduceSub]
  refine zQ (zC rfl rfl) ?_; simp only [nA, ↓reduceIte]
  (refine zQ (op_subi rfl rfl rfl (by omega)) ?_); try simp only [nA, Nat.reduceBEq, Nat.reduceEqDiff, ↓reduceIte, Nat.reduceAdd, Nat.reduceSub]
  refine zQ (zC rfl rfl) ?_; simp only [nA, ↓reduceIte]
  refine aqQ (op_lt (r := 0) (d := d3) rfl rfl rfl rfl rfl (by omega) (by omega) (by omega)) ?_; try simp only [nA, Nat.reduceBEq, Nat.reduceEqDiff, ↓reduceIte, Nat.reduceAdd, Nat.reduceSub]
  refine zQ (op_not rfl rfl rfl) ?_; try simp only [nA, Nat.reduceBEq, Nat.reduceEqDiff, ↓reduceIte, Nat.reduceAdd, Nat.reduceSub]
  (refine yL rfl rfl rfl ?_; repeat (first | exact fun _ _ => rfl | refine zU rfl ?_))
 refine yN (hK _ ?_); clear hK K
 refine zL rfl rfl rfl (fun hc => ?_) (fun hc => ?_)
 ·
  (try simp only [z7] at hc); have hc7 := hc; rw [Int.toNat_natCast, show ((x : Int) - 1).toNat = x - 1 by omega] at hc7; have hg : (decide (x > 0) && !yB d3[x - 1]! d3[pv]!) = true := (by rw [hc7.2, decide_eq_true (by omega)]; rfl); have he := eq_facts (lt := yB) (d := d3) (a := x) (b := y) (pv := pv) (by omega)
  refine zA fun K hK => zB ?_
  (refine awR (zK rfl rfl rfl rfl ag114 sz114 (bl rfl) rfl) ?_); try simp only [nA, Nat.reduceBEq, Nat.reduceEqDiff, ↓reduceIte, Nat.reduceAdd, Nat.reduceSub]
  refine zF (zC rfl rfl) ?_; simp only [nA, Nat.reduceEqDiff, ↓reduceIte]
  refine zF (zC rfl rfl) ?_; simp only [nA, Nat.reduceEqDiff, ↓reduceIte]
  refine zF (zC rfl rfl) ?_; simp only [nA, Nat.reduceEqDiff, ↓reduceIte]
  refine yD (op_callN (r := 0) rfl en101 (C101 (u := u) (d := d3) (a := x) (b := y) (pv := pv) (by omega) hpv (by omega) (by omega)) (by exact rfl) (RL.cons (.base (.same (by exact rfl))) (RL.cons (.base (.same (by exact rfl))) (RL.cons (.base (.same (by exact rfl))) (RL.cons (.base (.same (by exact rfl))) RL.nil)))) (by exact ⟨_, _, _, _, rfl, rfl⟩) (by exact rfl) (by exact rfl) (by exact rfl)) ?_; try simp only [nA, Nat.reduceBEq, Nat.reduceEqDiff, ↓reduceIte, Nat.reduceAdd, Nat.reduceSub]
  refine zF (zD rfl rfl) ?_; simp only [nA]
  refine zE (hK _ ?_); clear hK K
  refine zA fun K hK => zB ?_
  refine zF (zC rfl rfl) ?_; simp only [nA]
  refine zF (zD rfl rfl) ?_; simp only [nA]
  refine zE (hK _ ?_); clear hK K
  refine yE ?_; try simp only [zI, zJ, Nat.reduceEqDiff, ↓reduceIte]
  clear hK K
  exact ⟨((Go.Sort.partitionEqual yB d3 x y pv).1, y, l1, wb, wp, (Go.Sort.partitionEqual yB d3 x y pv).2), ⟨(by dsimp only; omega), (by dsimp only; omega), (by dsimp only; omega), hl2, (by dsimp only; omega), (by dsimp only; rw [← hP, R.rest hnd hq3, if_pos hg, dif_pos ⟨he.1, he.2.1⟩])⟩, (by dsimp only; omega), ⟨rfl, rfl, rfl, rfl, rfl, rfl, trivial⟩, rfl, trivial⟩
 (try simp only [z7] at hc); have hc7 := hc; rw [Int.toNat_natCast, show ((x : Int) - 1).toNat = x - 1 by omega] at hc7; have hg : ¬ (decide (x > 0) && !yB d3[x - 1]! d3[pv]!) = true := (by rcases hc7 with h | h; (rw [decide_eq_false (by omega)]; simp); (rw [h]; simp)); have hp := p_facts (lt := yB) (d := d3) (a := x) (b := y) (pv := pv) (by omega); have hrest := R.rest hnd hq3; rw [if_neg hg, dif_pos ⟨hp.1, hp.2.1⟩] at hrest; have z1 := pdq_size (lt := yB) _ (Go.Sort.partition yB d3 x y pv).2.2 x (Go.Sort.partition yB d3 x y pv).1 l1 true true rfl (by omega); have z2 := pdq_size (lt := yB) _ (Go.Sort.partition yB d3 x y pv).2.2 ((Go.Sort.partition yB d3 x y pv).1 + 1) y l1 true true rfl (by omega)
 refine zM ?_
 refine hK _ ?_; clear hK K
 refine zA fun K hK => zB ?_
 (refine awR (zK rfl rfl rfl rfl ag114 sz114 (bl rfl) rfl) ?_); try simp only [nA, Nat.reduceBEq, Nat.reduceEqDiff, ↓reduceIte, Nat.reduceAdd, Nat.reduceSub]
 refine zF (zC rfl rfl) ?_; simp only [nA, Nat.reduceEqDiff, ↓reduceIte]
 refine zF (zC rfl rfl) ?_; simp only [nA, Nat.reduceEqDiff, ↓reduceIte]
 refine zF (zC rfl rfl) ?_; simp only [nA, Nat.reduceEqDiff, ↓reduceIte]
 refine yD (op_callN (r := 0) rfl en102 (C102 (u := u) (d := d3) (a := x) (b := y) (pv := pv) (by omega) hpv (by omega) (by omega)) (by exact rfl) (RL.cons (.base (.same (by exact rfl))) (RL.cons (.base (.same (by exact rfl))) (RL.cons (.base (.same (by exact rfl))) (RL.cons (.base (.same (by exact rfl))) RL.nil)))) (by exact ⟨_, _, _, _, rfl, rfl⟩) (by exact rfl) (by exact rfl) (by exact rfl)) ?_; try simp only [nA, Nat.reduceBEq, Nat.reduceEqDiff, ↓reduceIte, Nat.reduceAdd, Nat.reduceSub]
 refine zF (zC rfl rfl) ?_; simp only [nA]
 refine zF (z6 rfl rfl rfl) ?_; try simp only [nA, Nat.reduceBEq, Nat.reduceEqDiff, ↓reduceIte, Nat.reduceAdd, Nat.reduceSub]
 refine zF (z6 rfl rfl rfl) ?_; try simp only [nA, Nat.reduceBEq, Nat.reduceEqDiff, ↓reduceIte, Nat.reduceAdd, Nat.reduceSub]
 refine zF (zD rfl rfl) ?_; simp only [nA, ↓reduceIte]
 refine zF (zD rfl rfl) ?_; simp only [nA, ↓reduceIte]
 refine zE (hK _ ?_); clear hK K
 refine zA fun K hK => zB ?_
 refine zF (zC rfl rfl) ?_; simp only [nA]
 refine zF (zD rfl rfl) ?_; simp only [nA]
 refine zE (hK _ ?_); clear hK K
 refine zA fun K hK => zB ?_
 refine zF (zC rfl rfl) ?_; simp only [nA, ↓reduceIte]
 refine zF (zC rfl rfl) ?_; simp only [nA, Nat.reduceEqDiff, ↓reduceIte]
 (refine zF (op_subi rfl rfl rfl (by omega)) ?_); try simp only [nA, Nat.reduceBEq, Nat.reduceEqDiff, ↓reduceIte, Nat.reduceAdd, Nat.reduceSub]
 refine zF (zC rfl rfl) ?_; simp only [nA, Nat.reduceEqDiff, ↓reduceIte]
 refine zF (zC rfl rfl) ?_; simp only [nA, ↓reduceIte]
 (refine zF (op_subi rfl rfl rfl (by omega)) ?_); try simp only [nA, Nat.reduceBEq, Nat.reduceEqDiff, ↓reduceIte, Nat.reduceAdd, Nat.reduceSub]
 refine zF (zD rfl rfl) ?_; simp only [nA, ↓reduceIte]
 refine zF (zD rfl rfl) ?_; simp only [nA, ↓reduceIte]
 refine zE (hK _ ?_); clear hK K
 refine zA fun K hK => zB ?_
 refine zF (zC rfl rfl) ?_; simp only [nA, Nat.reduceEqDiff, ↓reduceIte]
 (refine zF (op_quoi rfl rfl rfl (by omega)) ?_); try simp only [nA, Nat.reduceBEq, Nat.reduceEqDiff, ↓reduceIte, Nat.reduceAdd, Nat.reduceSub]
 refine zF (zD rfl rfl) ?_; simp only [nA]
 refine zE (hK _ ?_); clear hK K
 refine zA fun K hK => zB ?_
 refine zF (zC rfl rfl) ?_; simp only [nA, ↓reduceIte]
 refine zF (zC rfl rfl) ?_; simp only [nA, ↓reduceIte]
 refine zF (yP rfl rfl rfl) ?_; try simp only [nA, Nat.reduceBEq, Nat.reduceEqDiff, ↓reduceIte, Nat.reduceAdd, Nat.reduceSub]
 refine zE (hK _ ?_); clear hK K
 refine zL rfl rfl rfl (fun hc => ?_) (fun hc => ?_)
 ·
  (try simp only [z7] at hc); have hc8 := hc; (try simp only [decide_eq_true_eq] at hc8); rw [if_pos (by omega)] at hrest
  refine zA fun K hK => zB ?_
  refine zF (zC rfl rfl) ?_; simp only [nA, ↓reduceIte]
  refine zF (zC rfl rfl) ?_; simp only [nA, ↓reduceIte]
  refine zF (op_geq rfl rfl rfl) ?_; try simp only [nA, Nat.reduceBEq, Nat.reduceEqDiff, ↓reduceIte, Nat.reduceAdd, Nat.reduceSub]
  refine zF (zD rfl rfl) ?_; simp only [nA]
  refine zE (hK _ ?_); clear hK K
  refine zA fun K hK => zB ?_
  (refine awR (zK rfl rfl rfl rfl ag114 sz114 (bl rfl) rfl) ?_); try simp only [nA, Nat.reduceBEq, Nat.reduceEqDiff, ↓reduceIte, Nat.reduceAdd, Nat.reduceSub]
  refine zF (zC rfl rfl) ?_; simp only [nA, Nat.reduceEqDiff, ↓reduceIte]
  refine zF (zC rfl rfl) ?_; simp only [nA, ↓reduceIte]
  refine zF (zC rfl rfl) ?_; simp only [nA, Nat.reduceEqDiff, ↓reduceIte]
  refine yD (op_callN (r := 0) rfl en72 (ih ((Go.Sort.partition yB d3 x y pv).1 - x) (by omega) (u := u) (d := (Go.Sort.partition yB d3 x y pv).2.2) (a := x) (b := (Go.Sort.partition yB d3 x y pv).1) (lim := l1) rfl (by omega) (by omega) (by omega) (by omega) (by omega)) (by exact rfl) (RL.cons (.base (.same (by exact rfl))) (RL.cons (.base (.same (by exact rfl))) (RL.cons (.base (.same (by exact rfl))) (RL.cons (.base (.same (by exact rfl))) RL.nil)))) (by exact ⟨_, _, _, _, rfl, rfl⟩) (by exact rfl) (by exact rfl) (by exact rfl)) ?_; try simp only [nA, Nat.reduceBEq, Nat.reduceEqDiff, ↓reduceIte, Nat.reduceAdd, Nat.reduceSub]
  refine zE (hK _ ?_); clear hK K
  refine zB ?_
  refine zF (zC rfl rfl) ?_; simp only [nA, ↓reduceIte]
  (refine zF (zR rfl rfl rfl (by omega)) ?_); try simp only [nA, Nat.reduceBEq, Nat.reduceEqDiff, ↓reduceIte, Nat.reduceAdd, Nat.reduceSub]
  refine zF (zD rfl rfl) ?_; simp only [nA]
  refine zE ?_
  (try simp only [zI, zJ, Nat.reduceEqDiff, ↓reduceIte])
  exact ⟨((Go.Sort.partition yB d3 x y pv).1 + 1, y, l1, decide ((Go.Sort.partition yB d3 x y pv).1 - x ≥ (y - x) / 8), (Go.Sort.partition yB d3 x y pv).2.1, Go.Sort.pdq yB (Go.Sort.partition yB d3 x y pv).2.2 x (Go.Sort.partition yB d3 x y pv).1 l1 true true), ⟨(by dsimp only; omega), (by dsimp only; omega), (by dsimp only; omega), hl2, (by dsimp only; omega), (by dsimp only; rw [← hP, hrest])⟩, (by dsimp only; omega), ⟨vint (by simp), rfl, rfl, rfl, vbool (by omega), rfl, trivial⟩, rfl, trivial⟩
 (try simp only [z7] at hc); have hc8 := hc; (try simp only [decide_eq_false_iff_not] at hc8); rw [if_neg (by omega)] at hrest
 refine zA fun K hK => zB ?_
 refine zF (zC rfl rfl) ?_; simp only [nA, ↓reduceIte]
 refine zF (zC rfl rfl) ?_; simp only [nA, ↓reduceIte]
 refine zF (op_geq rfl rfl rfl) ?_; try simp only [nA, Nat.reduceBEq, Nat.reduceEqDiff, ↓reduceIte, Nat.reduceAdd, Nat.reduceSub]
 refine zF (zD rfl rfl) ?_; simp only [nA]
 refine zE (hK _ ?_); clear hK K
 refine zA fun K hK => zB ?_
 (refine awR (zK rfl rfl rfl rfl ag114 sz114 (bl rfl) rfl) ?_); try simp only [nA, Nat.reduceBEq, Nat.reduceEqDiff, ↓reduceIte, Nat.reduceAdd, Nat.reduceSub]
 refine zF (zC rfl rfl) ?_; simp only [nA, ↓reduceIte]
 (refine zF (zR rfl rfl rfl (by omega)) ?_); try simp only [nA, Nat.reduceBEq, Nat.reduceEqDiff, ↓reduceIte, Nat.reduceAdd, Nat.reduceSub]
 refine zF (zC rfl rfl) ?_; simp only [nA, Nat.reduceEqDiff, ↓reduceIte]
 refine zF (zC rfl rfl) ?_; simp only [nA, Nat.reduceEqDiff, ↓reduceIte]
 refine yD (op_callN (r := 0) rfl en72 (show Fn Tryz.prog 72 [srt u (Go.Sort.partition yB d3 x y pv).2.2] [.agg (dataW u), .v (.int .i64 (((Go.Sort.partition yB d3 x y pv).1 : Nat) + 1)), .v (.int .i64 (y : Nat)), .v (.int .i64 (l1 : Nat))] [] [srt u (Go.Sort.pdq yB (Go.Sort.partition yB d3 x y pv).2.2 ((Go.Sort.partition yB d3 x y pv).1 + 1) y l1 true true)] from ih (y - ((Go.Sort.partition yB d3 x y pv).1 + 1)) (by omega) (u := u) (d := (Go.Sort.partition yB d3 x y pv).2.2) (a := (Go.Sort.partition yB d3 x y pv).1 + 1) (b := y) (lim := l1) rfl (by omega) (by omega) (by omega) (by omega) (by omega)) (by exact rfl) (RL.cons (.base (.same (by exact rfl))) (RL.cons (.base (.same (by exact rfl))) (RL.cons (.base (.same (by exact rfl))) (RL.cons (.base (.same (by exact rfl))) RL.nil)))) (by exact ⟨_, _, _, _, rfl, rfl⟩) (by exact rfl) (by exact rfl) (by exact rfl)) ?_; try simp only [nA, Nat.reduceBEq, Nat.reduceEqDiff, ↓reduceIte, Nat.reduceAdd, Nat.reduceSub]
 refine zE (hK _ ?_); clear hK K
 refine zB ?_
 refine zF (zC rfl rfl) ?_; simp only [nA, ↓reduceIte]
 refine zF (zD rfl rfl) ?_; simp only [nA]
 refine zE ?_
 (try simp only [zI, zJ, Nat.reduceEqDiff, ↓reduceIte])
 exact ⟨(x, (Go.Sort.partition yB d3 x y pv).1, l1, decide (y - (Go.Sort.partition yB d3 x y pv).1 ≥ (y - x) / 8), (Go.Sort.partition yB d3 x y pv).2.1, Go.Sort.pdq yB (Go.Sort.partition yB d3 x y pv).2.2 ((Go.Sort.partition yB d3 x y pv).1 + 1) y l1 true true), ⟨(by dsimp only; omega), (by dsimp only; omega), (by dsimp only; omega), hl2, (by dsimp only; omega), (by dsimp only; rw [← hP, hrest])⟩, (by dsimp only; omega), ⟨rfl, rfl, rfl, rfl, vbool (by omega), rfl, trivial⟩, rfl, trivial⟩
end Go.Proofs.YtmdohphcolffmaaGreat
namespace Go.Proofs.YtmdohphcolffmaaGreat
set_option maxHeartbeats 8000000
open Go.RowKit Go.Shelf
section
open Go.Sort
theorem befB_swo : SWO yB := by
 refine ⟨fun x => ?_, fun x y z h1 h2 => ?_, fun x y z h1 h2 => ?_⟩
 · cases h : yB x x with
   | false => rfl
   | true => exact absurd (bef_iff.1 h) (Bef.asymm x x (bef_iff.1 h))
 · exact bef_iff.2 ((bef_iff.1 h1).trans (bef_iff.1 h2))
 cases h : yB x z with
 | false => rfl
 | true =>
   have h3 := bef_iff.1 h
   have n1 : ¬ Bef x y := fun e => by rw [bef_iff.2 e] at h1; cases h1
   have n2 : ¬ Bef y z := fun e => by rw [bef_iff.2 e] at h2; cases h2
   exfalso
   unfold Bef at h3 n1 n2
   rcases h3 with h3 | ⟨h3, hp⟩
   · have a1 : ¬ x.weight > y.weight := fun e => n1 (.inl e)
     have a2 : ¬ y.weight > z.weight := fun e => n2 (.inl e)
     omega
   have a1 : ¬ x.weight > y.weight := fun e => n1 (.inl e)
   have a2 : ¬ y.weight > z.weight := fun e => n2 (.inl e)
   have b1 : ¬ PLt x.plate y.plate := fun e => n1 (.inr ⟨by omega, e⟩)
   have b2 : ¬ PLt y.plate z.plate := fun e => n2 (.inr ⟨by omega, e⟩)
   rcases cmpP_cases x.plate y.plate with ⟨q, _⟩ | ⟨q, _⟩ | ⟨q, _⟩
   · exact b1 q
   · rw [q] at hp; exact b2 hp
   exact b2 (q.trans hp)
theorem pdq_ordV {d : Array Piece} {lim : Nat} (h : DisP d.toList) : (pdq yB d 0 d.size lim true true).toList = ordV d.toList := by
 obtain ⟨⟨h1, _, h2⟩, h3⟩ := pdq_sorts yB befB_swo d 0 d.size lim true true (Nat.zero_le _) (Nat.le_refl _) (.inl rfl)
 generalize hd' : pdq yB d 0 d.size lim true true = d' at *
 have hperm : d'.toList.Perm d.toList := by
   have := h2
   rw [Array.extract_eq_self_of_le (by omega), Array.extract_eq_self_of_le (by omega)] at this
   exact this
 refine ord_unique h hperm ?_
 rw [List.pairwise_iff_getElem]
 intro i j hi hj hij
 rw [Array.length_toList] at hi hj
 have hl := h3 i j (Nat.zero_le _) hij (by omega)
 rw [getElem!_pos d' j hj, getElem!_pos d' i hi] at hl
 simp only [Array.getElem_toList]
 have hdis : DisP d'.toList := List.Pairwise.perm h hperm.symm (fun h e => h e.symm)
 have hne := List.pairwise_iff_getElem.1 hdis i j (by simpa using hi) (by simpa using hj) hij
 simp only [Array.getElem_toList] at hne
 refine Bef.total (fun e => hne e.symm) (fun e => ?_)
 rw [bef_iff.2 e] at hl
 cases hl
end
/-- A contract that holds where two blocks have come, holds where they have not. -/
theorem Fn34 {u : Value} {d : Array Piece} (h49 : d.size ≤ 50) : ∃ lim, Fn Tryz.prog 47 [srt u d] [.v (.iface 31 u), .clo 48 [.rop [.v u]]] [] [srt u (if d.size ≤ 1 then d else Go.Sort.pdq yB d 0 d.size lim true true)] := by
 refine ⟨Lib.bitLen d.size, ?_⟩
 intro w S vals bss vs hc
 obtain ⟨v, rfl⟩ : ∃ v, vals = [v] := by
   match vals, hc.nv with
   | [v], _ => exact ⟨v, rfl⟩
 obtain ⟨bs, rfl⟩ : ∃ b, bss = [b] := by
   match bss, hc.nb with
   | [b], _ => exact ⟨b, rfl⟩
 have hrep := hc.rep 0 _ v bs rfl rfl rfl
 have hnm : v = u ∧ Rep Tryz.prog S w bs u (.own 35 (rowsP d)) := by
   cases hrep with
   | nm h => exact ⟨rfl, h⟩
 obtain ⟨rfl, hr1⟩ := hnm
 obtain ⟨v1, v2, rfl⟩ : ∃ v1 v2, vs = [v1, v2] := by
   match vs, hc.args.1 with
   | [v1, v2], _ => exact ⟨v1, v2, rfl⟩
 have e1 : v1 = .iface 31 v := (show Rep Tryz.prog S w [] v1 (.v (.iface 31 v)) from hc.args.2 0 v1 _ rfl rfl).v_inv.1
 subst e1
 obtain ⟨lb, rfl, l1, l2⟩ := (show Rep Tryz.prog S w [] v2 (.clo 48 [.rop [.v v]]) from hc.args.2 1 v2 _ rfl rfl).clo_inv
 have hk0 : ∀ os, Kept (fun _ => True) w (Go.Sort.grow w os) := fun os => kept_grow
 by_cases hd : d.size ≤ 1
 · rw [if_pos hd]
   have hu : ∃ p n c, v = .slice p n c ∧ n ≤ 1 := by
     obtain ⟨us', sz, bss', -, -, -, hown, -⟩ := hr1.own_inv
     rw [List.length_map, Array.length_toList] at hown
     rcases hown.2 with ⟨hnil, h0⟩ | ⟨g', cap, cur, hc, -⟩
     · exact ⟨_, _, _, hnil, by omega⟩
     exact ⟨_, _, _, hc, hd⟩
   obtain ⟨p, n, c, rfl, hn⟩ := hu
   have hcall : Calls Tryz.prog 47 #[.iface 31 (.slice p n c), .func (.func 48) #[] lb.toArray] w fun e w' => e = .returned (.tuple #[]) ∧ ∃ os, w' = Go.Sort.grow w os := by
     rcases (by omega : n = 0 ∨ n = 1) with rfl | rfl
     · exact Any.sort_Slice_tiny laysGg6 31 35 pcT pcE (by kernel_rfl) (by kernel_rfl) (by kernel_rfl) (by kernel_rfl) 25 (fun _ => by kernel_rfl) p 0 c (by decide) 84 (by kernel_rfl) (.func 48) #[] lb.toArray w
     exact Any.sort_Slice_tiny laysGg6 31 35 pcT pcE (by kernel_rfl) (by kernel_rfl) (by kernel_rfl) (by kernel_rfl) 25 (fun _ => by kernel_rfl) p 1 c (by decide) 85 (by kernel_rfl) (.func 48) #[] lb.toArray w
   refine hcall.mono ?_
   rintro e w' ⟨rfl, os, rfl⟩
   refine ⟨[], [], [srt (.slice p n c) d], [], [bs], rfl, ⟨(hk0 os).mono fun _ _ _ => trivial, rfl, rfl, rfl, rfl, fun i u y bs h => by simp at h, fun r x v b h1 h2 h3 => ?_, by simpa using hc.own, fun b h => .inr (by simpa using h)⟩, rfl, rfl⟩
   cases r with
   | succ r => simp at h1
   | zero =>
     simp at h1 h2 h3
     subst h1 h2 h3
     exact (hrep.kept (hk0 os) (fun _ _ _ => trivial) (fun _ _ => trivial)).mono fun k _ h => .inl h
 rw [if_neg hd]
 obtain ⟨g, cap, cur, hu, hg, c1, c2, c3, c4, hbs⟩ := repK_inv (enc := encP) (k := 5) (ds := d.toList) (fun _ => rfl) hr1 yR (by rw [Array.length_toList]; omega)
 rw [Array.length_toList] at hu c1 c4
 subst hu
 have hb0 : Lib.bitLen d.size ≤ 100 := by
   have : ∀ n, n < 51 → Lib.bitLen n ≤ 100 := by decide
   exact this _ (by omega)
 refine Any.sort_Slice_of_pdq laysGg6 31 35 pcT pcE (by kernel_rfl) (by kernel_rfl) (by kernel_rfl) (by kernel_rfl) 25 (fun _ => by kernel_rfl) _ d.size cap (by omega) 92 (by rw [pcK _ (by omega)]; kernel_rfl) (.func 48) #[] lb.toArray w
   (fun w' => ∃ bss', Went Tryz.prog w S [.slice (some ⟨g, 0, none⟩) d.size cap] [bs] w' [] [] [srt (.slice (some ⟨g, 0, none⟩) d.size cap) (Go.Sort.pdq yB d 0 d.size (Lib.bitLen d.size) true true)] [] bss') ?_ |>.mono ?_
 · have hB : sliceBound Tryz.prog 35 pcE 25 (some ⟨g, 0, none⟩) d.size cap = #[.slice (some ⟨g, 0, none⟩) d.size cap, th41] := by
     unfold sliceBound
     rw [pcK _ (by omega)]
     rfl
   rw [hB]
   have hkW : Kept (fun _ => True) w (sliceWorld Tryz.prog laysGg6_ren 31 (some ⟨g, 0, none⟩) d.size cap w) := ((Kept.refl _ w).alloc _).alloc _
   generalize sliceWorld Tryz.prog laysGg6_ren 31 (some ⟨g, 0, none⟩) d.size cap w = W at hkW ⊢
   have hsz := hkW.size
   have hcl : Rep Tryz.prog S W [] (.func (.func 48) #[] lb.toArray) (.clo 48 [.rop [.v (.slice (some ⟨g, 0, none⟩) d.size cap)]]) :=
     (Rep.clo l1 l2).kept hkW (fun _ _ _ => trivial) (fun _ h => by simp at h)
   have hcame : Came Tryz.prog [srt (.slice (some ⟨g, 0, none⟩) d.size cap) d] [.agg (dataW (.slice (some ⟨g, 0, none⟩) d.size cap)), .v (.int .i64 ((0 : Nat) : Int)), .v (.int .i64 (d.size : Nat)), .v (.int .i64 (Lib.bitLen d.size : Nat))] W S
       [.slice (some ⟨g, 0, none⟩) d.size cap] [bs] [.agg #[.func (.func 48) #[] lb.toArray, .func (.func 92) #[] #[.slice (some ⟨g, 0, none⟩) d.size cap, th41]], .int .i64 ((0 : Nat) : Int), .int .i64 (d.size : Nat), .int .i64 (Lib.bitLen d.size : Nat)] := by
     refine ⟨fun k h => Nat.lt_of_lt_of_le (hc.lt k h) hsz, rfl, rfl, fun r x v b h1 h2 h3 => ?_, hc.own, hc.apart, RL.cons ⟨_, rfl, RL.cons hcl (RL.cons ?_ RL.nil)⟩ (RL.cons (Rep.v rfl) (RL.cons (Rep.v rfl) (RL.cons (Rep.v rfl) RL.nil)))⟩
     · exact (hc.rep r x v b h1 h2 h3).kept hkW (fun _ _ _ => trivial) (fun _ _ => trivial)
     · exact Rep.clo (us := [.slice (some ⟨g, 0, none⟩) d.size cap, th41]) rfl (fun i u x h1 h2 => by
         match i, h1, h2 with
         | 0, h1, h2 => injection h1 with h1; injection h2 with h2; subst h1 h2; exact .v rfl
         | 1, h1, h2 => injection h1 with h1; injection h2 with h2; subst h1 h2; exact .v rfl)
   have hsp := C72 (d.size - 0) (u := .slice (some ⟨g, 0, none⟩) d.size cap) (d := d) (a := 0) (b := d.size) (lim := Lib.bitLen d.size) rfl (Nat.zero_le _) (Nat.le_refl _) h49 (by omega) hb0
   refine (hsp W S _ _ _ hcame).mono ?_
   rintro e w' ⟨us, ys, outs, bsr, bss', rfl, went, rfl, rfl⟩
   have hus : us = [] := List.eq_nil_of_length_eq_zero went.nu
   have hbr : bsr = [] := List.eq_nil_of_length_eq_zero went.nr
   subst hus hbr
   refine ⟨rfl, bss', (hkW.mono (fun _ _ _ => trivial)).then went.kept (fun _ _ h => h), rfl, rfl, rfl, went.nb, fun i u y b h => by simp at h, fun r x v b h1 h2 h3 => (went.rep r x v b h1 h2 h3).mono fun k _ h => ?_, went.own, fun b h => ?_⟩
   · rcases h with h | ⟨h1, h2, h3⟩
     · exact .inl h
     exact .inr ⟨h1.imp (fun h => Nat.le_trans hsz h) id, h2, h3⟩
   exact (went.mine b h).imp (fun h => Nat.le_trans hsz h) id
 rintro e w' ⟨rfl, bss', hw⟩
 exact ⟨[], [], _, [], bss', rfl, hw, rfl, rfl⟩
end Go.Proofs.YtmdohphcolffmaaGreat
namespace Go.Proofs.YtmdohphcolffmaaGreat
set_option maxHeartbeats 8000000
open Go.RowKit
set_option linter.unusedSimpArgs false
set_option linter.unusedVariables false
set_option maxRecDepth 100000
theorem asgE_at {l : List Container} {bags : List Piece} {i : Nat} (hi : i < bags.length) (h0 : ∀ j, j < i → errB l bags j = 0) (he : errB l bags i ≠ 0) : asgE l bags = errB l bags i := by
 unfold asgE
 rw [orL_yes (i := i) (by simpa using hi) (fun x hx => ?_) (by simpa using he)]
 · simp
 rw [← List.map_take, List.take_range] at hx
 obtain ⟨j, hj, rfl⟩ := List.mem_map.1 hx
 rw [List.mem_range] at hj
 exact h0 j (by omega)
theorem asgE_no {l : List Container} {bags : List Piece} (h0 : ∀ j, j < bags.length → errB l bags j = 0) : asgE l bags = 0 := by
 unfold asgE
 refine orL_no (i := bags.length) (by simp) (fun x hx => ?_)
 rw [← List.map_take, List.take_range] at hx
 obtain ⟨j, hj, rfl⟩ := List.mem_map.1 hx
 rw [List.mem_range] at hj
 exact h0 j (by omega)
theorem asgV_chk {l : List Container} {f : Flight} {bags : List Piece} (h : chkL l ≠ 0) : asgV l f bags = ([], [], chkL l) := by unfold asgV; rw [if_pos h]
theorem asgV_err {l : List Container} {f : Flight} {bags : List Piece} (h : chkL l = 0) {e : Int} (he : asgE l bags = e) (h0 : e ≠ 0) : asgV l f bags = ([], [], e) := by
 unfold asgV
 rw [if_neg (by simpa using h), if_pos (by rw [he]; exact h0), he]
theorem asgV_yes {l : List Container} {f : Flight} {bags : List Piece} (h : chkL l = 0) (he : asgE l bags = 0) : asgV l f bags = ((asgF f (l, []) (ordV bags)).1, (asgF f (l, []) (ordV bags)).2, 0) := by
 unfold asgV
 rw [if_neg (by simpa using h), if_neg (by simpa using he)]
theorem errB_1 {l : List Container} {bags : List Piece} {i : Nat} (h : piB (bags.getD i default) = false) : errB l bags i = 1 := by unfold errB; rw [if_pos h]
theorem errB_5 {l : List Container} {bags : List Piece} {i : Nat} (h : piB (bags.getD i default) = true) (h5 : ((findL l (bags.getD i default).plate).2 || (bags.take i).any fun x => decide (x.plate = (bags.getD i default).plate)) = true) : errB l bags i = 5 := by
 unfold errB
 rw [if_neg (by rw [h]; decide), if_pos h5]
theorem errB_00 {l : List Container} {bags : List Piece} {i : Nat} (h : piB (bags.getD i default) = true) (h5 : ((findL l (bags.getD i default).plate).2 || (bags.take i).any fun x => decide (x.plate = (bags.getD i default).plate)) = false) : errB l bags i = 0 := by
 unfold errB
 rw [if_neg (by rw [h]; decide), if_neg (by rw [h5]; decide)]
/-- The plates seen so far. -/
def seenP (bags : List Piece) (i : Nat) : List Plate := ((bags.take i).map Piece.plate).reverse
theorem seen_succ {bags : List Piece} {i : Nat} (h : i < bags.length) : seenP bags (i + 1) = (bags.getD i default).plate :: seenP bags i := by
 unfold seenP
 rw [List.take_add_one, List.getElem?_eq_getElem h, getD_el h, List.map_append, List.reverse_append]
 rfl
theorem seen_len {bags : List Piece} {i : Nat} (h : i ≤ bags.length) : (seenP bags i).length = i := by unfold seenP; simp; omega
theorem seen_mem {bags : List Piece} {i : Nat} {p : Plate} : decide (p ∈ seenP bags i) = (bags.take i).any fun x => decide (x.plate = p) := by
 unfold seenP
 rw [Bool.eq_iff_iff]
 simp only [decide_eq_true_eq, List.mem_reverse, List.mem_map, List.any_eq_true]
theorem S34 {u : Value} {bags : List Piece} (h : bags.length ≤ 50) (hd : DisP bags) : Fn Tryz.prog 47 [.nm u 35 (bags.map Piece.av)] [.v (.iface 31 u), .clo 48 [.rop [.v u]]] [] [.nm u 35 ((ordV bags).map Piece.av)] := by
 obtain ⟨lim, hF⟩ := Fn34 (u := u) (d := bags.toArray) (by simpa using h)
 have e : (if bags.toArray.size ≤ 1 then bags.toArray else Go.Sort.pdq yB bags.toArray 0 bags.toArray.size lim true true).toList = ordV bags := by
   split
   · rename_i h1
     have h1 : bags.length ≤ 1 := by simpa using h1
     refine ord_unique hd (List.Perm.refl _) ?_
     match bags, h1 with
     | [], _ => exact List.Pairwise.nil
     | [_], _ => exact List.pairwise_singleton _ _
   exact pdq_ordV hd
 have : rowsP (if bags.toArray.size ≤ 1 then bags.toArray else Go.Sort.pdq yB bags.toArray 0 bags.toArray.size lim true true) = (ordV bags).map Piece.av := by
   unfold rowsP
   rw [e]
 unfold srt at hF
 rw [this] at hF
 exact hF
theorem zf83 : ∀ w, (zeroValue 83).run Tryz.prog w = .ok (.agg #[]) w := fun w => by kernel_rfl
theorem ordV_len (l : List Piece) : (ordV l).length = l.length := (ordV_perm l).length_eq
end Go.Proofs.YtmdohphcolffmaaGreat
