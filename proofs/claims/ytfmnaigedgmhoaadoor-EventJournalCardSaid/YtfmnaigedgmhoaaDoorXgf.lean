import Derived.Test.YtfmnaigedgmhoaaDoorXge
import Derived.Deep.Slices
import Derived.OpenShut
import Derived.WalkKit
import Derived.ProofKit
namespace Go.Proofs.YtfmnaigedgmhoaaDoor
open Go.RowKit
set_option linter.unusedSimpArgs false
set_option linter.unusedVariables false
set_option maxRecDepth 100000
def rN (l : List Int) : Nat → Nat → Nat
  | 0, k => k
  | j + 1, k => rN l j (rawN l k)
def opV (l : List Int) (k : Nat) (d : Int) : Op := ⟨gmod (rawV l k) 1048577, d, 1 + gmod (rawV l (rN l 1 k)) 99, 1 + gmod (rawV l (rN l 2 k)) 2, 1 + gmod (rawV l (rN l 3 k)) 999, pieceV l (rN l 4 k) 1000⟩
set_option maxHeartbeats 8000000 in
theorem C29 {l : List Int} {k : Nat} {d : Int} (hl : l.length ≤ 2000) : Fn Tryd.prog 29 [.own 68 [srcRow l k]] [.ptr 0 0 0 0, .v (.int .i64 d)] [.agg (opV l k d).av] [.own 68 [srcRow l (rN l 7 k)]] := by
  have h1 := gmod_bd (x := rawV l (rN l 1 k)) (n := 99) (by decide)
  have h2 := gmod_bd (x := rawV l (rN l 2 k)) (n := 2) (by decide)
  have h3 := gmod_bd (x := rawV l (rN l 3 k)) (n := 999) (by decide)
  refine Spec.body Tryd.func29 rfl Tryd.ntmps29 (by simp) rfl ?_; intro S0 own0 v0 w0 gl
  (refine AW.seq_k ?_; intro K hK)
  refine AW.region ?_
  refine awJ (op_alloc rfl ze32 rfl) ?_; (simp only [nA, Nat.reduceBEq, Nat.reduceEqDiff, ↓reduceIte])
  refine AWL.nil ?_
  (refine hK _ ?_; clear hK K; (try simp only [nA, Nat.reduceBEq, Nat.reduceEqDiff, ↓reduceIte, Nat.reduceAdd, Nat.reduceSub]))
  (refine AW.seq_k ?_; intro K hK)
  refine AW.region ?_
  refine awP (op_move rfl rfl) ?_; (simp only [nA, ↓reduceIte])
  refine awJ (op_call1 rfl en22 (C22 (k := k) (n := 1048577) hl (by decide)) (by exact rfl) (RL.cons .ptr (RL.cons (.base (by exact View.same rfl)) (RL.nil))) (by exact ⟨_, _, _, rfl, rfl, rfl⟩) (by exact rfl) (by exact rfl) (by exact rfl)) ?_; (try simp only [nA, Nat.reduceBEq, Nat.reduceEqDiff, ↓reduceIte, Nat.reduceAdd, Nat.reduceSub])
  refine awP (op_move rfl rfl) ?_; (simp only [nA, ↓reduceIte])
  refine awP (op_move rfl rfl) ?_; (simp only [nA, ↓reduceIte])
  refine awJ (op_call1 rfl en22 (C22 (k := rN l 1 k) (n := 99) hl (by decide)) (by exact rfl) (RL.cons .ptr (RL.cons (.base (by exact View.same rfl)) (RL.nil))) (by exact ⟨_, _, _, rfl, rfl, rfl⟩) (by exact rfl) (by exact rfl) (by exact rfl)) ?_; (try simp only [nA, Nat.reduceBEq, Nat.reduceEqDiff, ↓reduceIte, Nat.reduceAdd, Nat.reduceSub])
  (refine awP (op_addi rfl rfl rfl (by omega)) ?_); (try simp only [nA, Nat.reduceBEq, Nat.reduceEqDiff, ↓reduceIte, Nat.reduceAdd, Nat.reduceSub])
  refine awP (op_move rfl rfl) ?_; (simp only [nA, ↓reduceIte])
  refine awJ (op_call1 rfl en22 (C22 (k := rN l 2 k) (n := 2) hl (by decide)) (by exact rfl) (RL.cons .ptr (RL.cons (.base (by exact View.same rfl)) (RL.nil))) (by exact ⟨_, _, _, rfl, rfl, rfl⟩) (by exact rfl) (by exact rfl) (by exact rfl)) ?_; (try simp only [nA, Nat.reduceBEq, Nat.reduceEqDiff, ↓reduceIte, Nat.reduceAdd, Nat.reduceSub])
  (refine awP (op_addi rfl rfl rfl (by omega)) ?_); (try simp only [nA, Nat.reduceBEq, Nat.reduceEqDiff, ↓reduceIte, Nat.reduceAdd, Nat.reduceSub])
  refine awP (op_move rfl rfl) ?_; (simp only [nA, ↓reduceIte])
  refine awJ (op_call1 rfl en22 (C22 (k := rN l 3 k) (n := 999) hl (by decide)) (by exact rfl) (RL.cons .ptr (RL.cons (.base (by exact View.same rfl)) (RL.nil))) (by exact ⟨_, _, _, rfl, rfl, rfl⟩) (by exact rfl) (by exact rfl) (by exact rfl)) ?_; (try simp only [nA, Nat.reduceBEq, Nat.reduceEqDiff, ↓reduceIte, Nat.reduceAdd, Nat.reduceSub])
  (refine awP (op_addi rfl rfl rfl (by omega)) ?_); (try simp only [nA, Nat.reduceBEq, Nat.reduceEqDiff, ↓reduceIte, Nat.reduceAdd, Nat.reduceSub])
  refine awP (op_move rfl rfl) ?_; (simp only [nA, ↓reduceIte])
  refine awJ (op_call1 rfl en50 (C50 (k := rN l 4 k) (n := 1000) hl (by decide)) (by exact rfl) (RL.cons .ptr (RL.cons (.base (by exact View.same rfl)) (RL.nil))) (by exact ⟨_, _, _, rfl, rfl, rfl⟩) (by exact rfl) (by exact rfl) (by exact rfl)) ?_; (try simp only [nA, Nat.reduceBEq, Nat.reduceEqDiff, ↓reduceIte, Nat.reduceAdd, Nat.reduceSub])
  refine awP (op_build2 (xs := [_, _, _, _, _, _, _, _, _, _]) rfl pl32 ze32 [(0, [_]), (1, [_]), (2, [_]), (3, [_]), (4, [_]), (5, [_, _, _, _, _])] rfl rfl rfl) ?_; (simp only [nA, ↓reduceIte])
  refine awJ (op_store rfl rfl rfl rfl rfl rfl sz32 rfl (bl rfl) rfl) ?_; (simp only [nA, Nat.reduceBEq, Nat.reduceEqDiff, ↓reduceIte])
  refine AWL.nil ?_
  (refine hK _ ?_; clear hK K; (skip))
  skip
  refine AW.ret ?_; (try simp only [thenE, inBlk, Nat.reduceEqDiff, ↓reduceIte]); exact RQ.of (.inl rfl) rfl (.cell (bl rfl) rfl rfl rfl ag32 sz32 (bl rfl) rfl rfl .nil) (by simp) rfl (one_out rfl)
def evT : List ByteArray := [⟨#[]⟩, ⟨#[65]⟩, ⟨#[66, 83, 77, 10, 46, 86, 47, 49, 76, 67, 80, 72, 47, 49, 10, 69, 78, 68, 66, 83, 77, 10]⟩, ⟨#[0, 255]⟩]
def rpT : List ByteArray := [⟨#[]⟩, ⟨#[]⟩, ⟨#[48, 49, 49, 55, 48, 48, 49, 48, 48, 48]⟩, ⟨#[48, 49, 49, 55, 48, 48, 49, 48, 63, 48]⟩]
abbrev tmL : List Int := [0, 1, 300, 1048576]
def repsV (l : List Int) : Nat → Nat → List Report → List Report × Nat
  | 0, k, acc => (acc, k)
  | n + 1, k, acc => if gmod (rawV l k) 6 = 5 then repsV l n (rN l 3 k) (acc ++ [⟨((23 - n : Nat) : Int), decide (gmod (rawV l (rN l 1 k)) 2 = 1), textV l (rN l 2 k) rpT⟩]) else repsV l n (rN l 1 k) acc
def opsV (l : List Int) (d : Int) : Nat → Nat → List Op → List Op × Nat
  | 0, k, acc => (acc, k)
  | n + 1, k, acc => opsV l d n (rN l 7 k) (acc ++ [opV l k d])
def evK (l : List Int) (k : Nat) : Int := 1 + gmod (rawV l k) 14
def evD (l : List Int) (k : Nat) : Int := 1 + gmod (rawV l (rN l 1 k)) 6
def evV (l : List Int) (k : Nat) : Ev × Nat :=
  if evK l k = 1 then ({ ev0 (evK l k) with text := textV l (rN l 1 k) evT }, rN l 2 k)
  else if evK l k = 2 ∨ evK l k = 10 then ({ ev0 (evK l k) with plate := platesP (gmod (rawV l (rN l 1 k)) 1000), node := gmod (rawV l (rN l 2 k)) 24 }, rN l 3 k)
  else if evK l k = 3 then ({ ev0 (evK l k) with time := pickV l (rN l 1 k) tmL, reports := (repsV l 24 (rN l 2 k) []).1 }, (repsV l 24 (rN l 2 k) []).2)
  else if evK l k = 4 then ({ ev0 (evK l k) with image := gmod (rawV l (rN l 1 k)) 1048577, clear := decide (gmod (rawV l (rN l 2 k)) 2 = 1) }, rN l 3 k)
  else if evK l k = 5 then ({ ev0 (evK l k) with rev := ⟨1 + gmod (rawV l (rN l 1 k)) 5, gmod (rawV l (rN l 2 k)) 1048577, flS l (rN l 3 k)⟩ }, rN l 6 k)
  else if evK l k = 6 ∨ evK l k = 7 then ({ ev0 (evK l k) with node := gmod (rawV l (rN l 1 k)) 24 }, rN l 2 k)
  else if evK l k = 8 then ({ ev0 (evK l k) with op := { opV l (rN l 2 k) (evD l k) with kind := 1 }, node := gmod (rawV l (rN l 9 k)) 24 }, rN l 10 k)
  else if evK l k = 9 then ({ ev0 (evK l k) with op := { opV l (rN l 2 k) (evD l k) with kind := 2 } }, rN l 9 k)
  else if evK l k = 11 then ({ ev0 (evK l k) with device := evD l k }, rN l 2 k)
  else if evK l k = 12 then ({ ev0 (evK l k) with device := evD l k, ops := (opsV l (evD l k) (gmod (rawV l (rN l 2 k)) 6).toNat (rN l 3 k) []).1 }, (opsV l (evD l k) (gmod (rawV l (rN l 2 k)) 6).toNat (rN l 3 k) []).2)
  else if evK l k = 13 then ({ ev0 (evK l k) with fl := flS l (rN l 1 k) }, rN l 4 k)
  else (ev0 (evK l k), rN l 1 k)
section
variable {l : List Int} {k : Nat}
theorem evV_1 (h : evK l k = 1) : evV l k = ({ ev0 (evK l k) with text := textV l (rN l 1 k) evT }, rN l 2 k) := by
  unfold evV; rw [if_pos h]
theorem evV_2 (h : evK l k = 2 ∨ evK l k = 10) : evV l k = ({ ev0 (evK l k) with plate := platesP (gmod (rawV l (rN l 1 k)) 1000), node := gmod (rawV l (rN l 2 k)) 24 }, rN l 3 k) := by
  unfold evV; rw [if_neg (by omega), if_pos h]
theorem evV_3 (h : evK l k = 3) : evV l k = ({ ev0 (evK l k) with time := pickV l (rN l 1 k) tmL, reports := (repsV l 24 (rN l 2 k) []).1 }, (repsV l 24 (rN l 2 k) []).2) := by
  unfold evV; rw [if_neg (by omega), if_neg (by omega), if_pos h]
theorem evV_4 (h : evK l k = 4) : evV l k = ({ ev0 (evK l k) with image := gmod (rawV l (rN l 1 k)) 1048577, clear := decide (gmod (rawV l (rN l 2 k)) 2 = 1) }, rN l 3 k) := by
  unfold evV; rw [if_neg (by omega), if_neg (by omega), if_neg (by omega), if_pos h]
theorem evV_5 (h : evK l k = 5) : evV l k = ({ ev0 (evK l k) with rev := ⟨1 + gmod (rawV l (rN l 1 k)) 5, gmod (rawV l (rN l 2 k)) 1048577, flS l (rN l 3 k)⟩ }, rN l 6 k) := by
  unfold evV; rw [if_neg (by omega), if_neg (by omega), if_neg (by omega), if_neg (by omega), if_pos h]
theorem evV_6 (h : evK l k = 6 ∨ evK l k = 7) : evV l k = ({ ev0 (evK l k) with node := gmod (rawV l (rN l 1 k)) 24 }, rN l 2 k) := by
  unfold evV; rw [if_neg (by omega), if_neg (by omega), if_neg (by omega), if_neg (by omega), if_neg (by omega), if_pos h]
theorem evV_8 (h : evK l k = 8) : evV l k = ({ ev0 (evK l k) with op := { opV l (rN l 2 k) (evD l k) with kind := 1 }, node := gmod (rawV l (rN l 9 k)) 24 }, rN l 10 k) := by
  unfold evV; rw [if_neg (by omega), if_neg (by omega), if_neg (by omega), if_neg (by omega), if_neg (by omega), if_neg (by omega), if_pos h]
theorem evV_9 (h : evK l k = 9) : evV l k = ({ ev0 (evK l k) with op := { opV l (rN l 2 k) (evD l k) with kind := 2 } }, rN l 9 k) := by
  unfold evV; rw [if_neg (by omega), if_neg (by omega), if_neg (by omega), if_neg (by omega), if_neg (by omega), if_neg (by omega), if_neg (by omega), if_pos h]
theorem evV_11 (h : evK l k = 11) : evV l k = ({ ev0 (evK l k) with device := evD l k }, rN l 2 k) := by
  unfold evV; rw [if_neg (by omega), if_neg (by omega), if_neg (by omega), if_neg (by omega), if_neg (by omega), if_neg (by omega), if_neg (by omega), if_neg (by omega), if_pos h]
theorem evV_12 (h : evK l k = 12) : evV l k = ({ ev0 (evK l k) with device := evD l k, ops := (opsV l (evD l k) (gmod (rawV l (rN l 2 k)) 6).toNat (rN l 3 k) []).1 }, (opsV l (evD l k) (gmod (rawV l (rN l 2 k)) 6).toNat (rN l 3 k) []).2) := by
  unfold evV; rw [if_neg (by omega), if_neg (by omega), if_neg (by omega), if_neg (by omega), if_neg (by omega), if_neg (by omega), if_neg (by omega), if_neg (by omega), if_neg (by omega), if_pos h]
theorem evV_13 (h : evK l k = 13) : evV l k = ({ ev0 (evK l k) with fl := flS l (rN l 1 k) }, rN l 4 k) := by
  unfold evV; rw [if_neg (by omega), if_neg (by omega), if_neg (by omega), if_neg (by omega), if_neg (by omega), if_neg (by omega), if_neg (by omega), if_neg (by omega), if_neg (by omega), if_neg (by omega), if_pos h]
theorem evV_0 (h : evK l k ≠ 1 ∧ ¬ (evK l k = 2 ∨ evK l k = 10) ∧ evK l k ≠ 3 ∧ evK l k ≠ 4 ∧ evK l k ≠ 5 ∧ ¬ (evK l k = 6 ∨ evK l k = 7) ∧ ¬ (evK l k = 8 ∨ evK l k = 9) ∧ evK l k ≠ 11 ∧ evK l k ≠ 12 ∧ evK l k ≠ 13) : evV l k = (ev0 (evK l k), rN l 1 k) := by
  unfold evV; rw [if_neg (by omega), if_neg (by omega), if_neg (by omega), if_neg (by omega), if_neg (by omega), if_neg (by omega), if_neg (by omega), if_neg (by omega), if_neg (by omega), if_neg (by omega), if_neg (by omega)]
end
end Go.Proofs.YtfmnaigedgmhoaaDoor
namespace Go.Proofs.YtfmnaigedgmhoaaDoor
open Go.RowKit
set_option linter.unusedSimpArgs false
set_option linter.unusedVariables false
set_option maxRecDepth 100000
theorem reps_y {l : List Int} {i kk : Nat} {acc : List Report} (hi : i < 24) (h : gmod (rawV l kk) 6 = 5) : repsV l (24 - i) kk acc = repsV l (24 - (i + 1)) (rN l 3 kk) (acc ++ [⟨(i : Nat), decide (gmod (rawV l (rN l 1 kk)) 2 = 1), textV l (rN l 2 kk) rpT⟩]) := by
  obtain ⟨n, hn⟩ : ∃ n, n = 23 - i := ⟨_, rfl⟩
  rw [show 24 - i = n + 1 by omega, show 24 - (i + 1) = n by omega]
  show (if gmod (rawV l kk) 6 = 5 then _ else _) = _
  rw [if_pos h, show 23 - n = i by omega]
theorem reps_n {l : List Int} {i kk : Nat} {acc : List Report} (hi : i < 24) (h : ¬ gmod (rawV l kk) 6 = 5) : repsV l (24 - i) kk acc = repsV l (24 - (i + 1)) (rN l 1 kk) acc := by
  obtain ⟨n, hn⟩ : ∃ n, n = 23 - i := ⟨_, rfl⟩
  rw [show 24 - i = n + 1 by omega, show 24 - (i + 1) = n by omega]
  show (if gmod (rawV l kk) 6 = 5 then _ else _) = _
  rw [if_neg h]
theorem le_kr (x : Ev) : RL (Le2 Tryd.prog) [evC x (.v (.slice none 0 0)) (.v (.slice none 0 0))].flatten [evC x (.own 66 []) (.ro [])].flatten := by
  repeat (first | exact RL.nil | refine RL.cons Le2.same ?_ | refine RL.cons (Le2.nilo sz66) ?_ | refine RL.cons Le2.nil ?_)
theorem le_ko (x : Ev) : RL (Le2 Tryd.prog) [evC x (.v (.slice none 0 0)) (.v (.slice none 0 0))].flatten [evC x (.ro []) (.own 32 [])].flatten := by
  repeat (first | exact RL.nil | refine RL.cons Le2.same ?_ | refine RL.cons Le2.nil ?_ | refine RL.cons (Le2.nilo sz32) ?_)
theorem sv_flat (l : List ByteArray) : ∀ r ∈ l.map sv, ∀ c ∈ r, flatA c = true := fun r hr c hc => by
  obtain ⟨p, _, rfl⟩ := List.mem_map.1 hr
  obtain rfl : c = _ := by simpa using hc
  rfl
set_option maxHeartbeats 8000000 in
theorem C10 {l : List Int} {k : Nat} (hl : l.length ≤ 2000) : Fn Tryd.prog 10 [.own 68 [srcRow l k]] [.ptr 0 0 0 0] [.agg (evV l k).1.av] [.own 68 [srcRow l (evV l k).2]] := by
  have hg := gmod_bd (x := rawV l k) (n := 14) (by decide)
  have hg5 := gmod_bd (x := rawV l (rN l 1 k)) (n := 5) (by decide)
  have hg1 := gmod_bd (x := rawV l (rN l 1 k)) (n := 6) (by decide)
  have hg6 := gmod_bd (x := rawV l (rN l 2 k)) (n := 6) (by decide)
  refine Spec.body Tryd.func10 rfl Tryd.ntmps10 (by simp) rfl ?_; intro S0 own0 v0 w0 gl
  (refine AW.seq_k ?_; intro K hK)
  refine AW.region ?_
  refine awJ (op_alloc rfl ze35 rfl) ?_; (simp only [nA, Nat.reduceBEq, Nat.reduceEqDiff, ↓reduceIte])
  refine AWL.nil ?_
  (refine hK _ ?_; clear hK K; (try simp only [nA, Nat.reduceBEq, Nat.reduceEqDiff, ↓reduceIte, Nat.reduceAdd, Nat.reduceSub]))
  (refine AW.seq_k ?_; intro K hK)
  refine AW.region ?_
  refine awP (op_move rfl rfl) ?_; (simp only [nA, ↓reduceIte])
  refine awJ (op_call1 rfl en22 (C22 (k := k) (n := 14) hl (by decide)) (by exact rfl) (RL.cons .ptr (RL.cons (.base (by exact View.same rfl)) (RL.nil))) (by exact ⟨_, _, _, rfl, rfl, rfl⟩) (by exact rfl) (by exact rfl) (by exact rfl)) ?_; (try simp only [nA, Nat.reduceBEq, Nat.reduceEqDiff, ↓reduceIte, Nat.reduceAdd, Nat.reduceSub])
  refine awP (op_add (z := (evK l k)) rfl rfl rfl (by rw [IntKind.wrap_i64]; unfold evK; omega)) ?_; (try simp only [nA, Nat.reduceBEq, Nat.reduceEqDiff, ↓reduceIte, Nat.reduceAdd, Nat.reduceSub])
  refine awP (op_build2 (xs := [_, .v (.int .i64 0), .v (.string ⟨#[]⟩), .v (.int .i64 0), .v (.int .i64 0), .v (.int .i64 0), .v (.int .i64 0), .v (.int .i64 0), .v (.bool false), .v (.slice none 0 0), .v (.int .i64 0), .v (.int .i64 0), .v (.string ⟨#[]⟩), .v (.int .i64 0), .v (.string ⟨#[]⟩), .v (.int .i64 0), .v (.int .i64 0), .v (.int .i64 0), .v (.int .i64 0), .v (.int .i64 0), .v (.int .i64 0), .v (.int .i64 0), .v (.int .i64 0), .v (.int .i64 0), .v (.int .i64 0), .v (.int .i64 0), .v (.int .i64 0), .v (.slice none 0 0), .v (.string ⟨#[]⟩), .v (.int .i64 0), .v (.string ⟨#[]⟩), .v (.int .i64 0)]) rfl pl35 ze35 [(0, [_])] rfl rfl rfl) ?_; (simp only [nA])
  refine awJ (op_alloc rfl ze35 rfl) ?_; (simp only [nA, Nat.reduceBEq, Nat.reduceEqDiff, ↓reduceIte])
  refine awJ (op_store rfl rfl rfl rfl rfl rfl sz35 rfl (bl rfl) rfl) ?_; (simp only [nA, Nat.reduceBEq, Nat.reduceEqDiff, ↓reduceIte])
  refine AWL.nil ?_
  (refine hK _ ?_; clear hK K; (skip))
  refine AW.join (fun (q : Ev × Nat × Nat) => [(2, .ptr 1 1 0 0), (3, .ptr 2 2 0 0)]) (fun q => ⟨[(0, .own 68 [srcRow l q.2.1]), (1, .own 35 [evC (ev0 0) (.v (.slice none 0 0)) (.v (.slice none 0 0))]), (2, .own 35 [q.1.av])], q.2.2⟩) (fun q => (q.1, q.2.1) = evV l k) ?_ ?_
  ·
   (refine AW.seq_k ?_; intro K hK)
   refine AW.region ?_
   (refine awP (op_fa_ptr rfl rfl rfl fl35_0 (by exact sz3) (by decide) rfl) ?_); (try simp only [nA, Nat.reduceBEq, Nat.reduceEqDiff, ↓reduceIte, Nat.reduceAdd, Nat.reduceSub])
   (refine awR (op_load_ptr1 rfl rfl rfl rfl ag3 rfl rfl) ?_); (try simp only [nA, Nat.reduceBEq, Nat.reduceEqDiff, ↓reduceIte, Nat.reduceAdd, Nat.reduceSub])
   refine AWL.nil ?_
   (refine hK _ ?_; clear hK K; (try simp only [nA, Nat.reduceBEq, Nat.reduceEqDiff, ↓reduceIte, Nat.reduceAdd, Nat.reduceSub]))
   refine AW.block ?_
   (refine AW.seq_k ?_; intro K hK)
   refine AW.region ?_
   (refine awP (op_eql rfl rfl rfl) ?_); (try simp only [nA, Nat.reduceBEq, Nat.reduceEqDiff, ↓reduceIte, Nat.reduceAdd, Nat.reduceSub])
   refine awP (op_assign rfl rfl) ?_; (simp only [nA])
   refine AWL.nil ?_
   (refine hK _ ?_; clear hK K; (skip))
   refine AW.cond rfl rfl rfl (fun hc => ?_) (fun hc => ?_)
   ·
    have hc1 := hc; have hk := of_decide_eq_true hc1; refine AW.gh (Gh.slot (r := 2) (es' := [(ev0 (evK l k)).av]) rfl rfl (le_ev0s (evK l k))) ?_; (try simp only [nA, Nat.reduceBEq, Nat.reduceEqDiff, ↓reduceIte, Nat.reduceAdd, Nat.reduceSub])
    refine AW.region ?_
    refine awP (op_move rfl rfl) ?_; (simp only [nA, ↓reduceIte])
    refine awJ (OpJ.frz (op_buildSlice rfl [(0, sv ⟨#[]⟩), (1, sv ⟨#[65]⟩), (2, sv ⟨#[66, 83, 77, 10, 46, 86, 47, 49, 76, 67, 80, 72, 47, 49, 10, 69, 78, 68, 66, 83, 77, 10]⟩), (3, sv ⟨#[0, 255]⟩)] (evT.map sv) Tryd.underlying70 ze9 rfl (by decide) rfl (by simp) rfl (bl rfl) (by decide)) (sv_flat _) rfl) ?_; (try simp only [nA, Nat.reduceBEq, Nat.reduceEqDiff, ↓reduceIte, Nat.reduceAdd, Nat.reduceSub])
    refine awJ (op_call1 rfl en25 (C25 (k := rN l 1 k) (ss := evT) hl (by decide) (by decide)) (by exact rfl) (RL.cons .ptr (RL.cons (.base (by exact View.same rfl)) (RL.nil))) (by exact ⟨_, _, _, rfl, rfl, rfl⟩) (by exact rfl) (by exact rfl) (by exact rfl)) ?_; (try simp only [nA, Nat.reduceBEq, Nat.reduceEqDiff, ↓reduceIte, Nat.reduceAdd, Nat.reduceSub])
    (refine awP (op_fa_ptr rfl rfl rfl fl35_2 (by exact sz9) (by decide) rfl) ?_); (try simp only [nA, Nat.reduceBEq, Nat.reduceEqDiff, ↓reduceIte, Nat.reduceAdd, Nat.reduceSub])
    refine awJ (op_store rfl rfl rfl rfl rfl rfl sz9 rfl (bl rfl) rfl) ?_; (simp only [nA, ↓reduceIte])
    refine AWL.nil ?_
    (try simp only [thenE, inBlk, Nat.reduceEqDiff, ↓reduceIte])
    exact ⟨(_, _, _), (evV_1 hk).symm, ⟨rfl, rfl, trivial⟩, (by rfl), (by trivial)⟩
   have hc1 := hc
   refine AW.join (fun (b : Bool) => [(0, .ptr 0 0 0 0), (2, .ptr 1 1 0 0), (3, .ptr 2 2 0 0), (11, .v (.int .i64 (evK l k))), (18, .v (.bool b))]) (fun b => ⟨[(0, .own 68 [srcRow l (rN l 1 k)]), (1, .own 35 [evC (ev0 0) (.v (.slice none 0 0)) (.v (.slice none 0 0))]), (2, .own 35 [evC (ev0 (evK l k)) (.v (.slice none 0 0)) (.v (.slice none 0 0))])], 3⟩) (fun b => b = true ↔ (evK l k) = 2 ∨ (evK l k) = 10) ?_ ?_
   ·
    (refine AW.seq_k ?_; intro K hK)
    refine AW.region ?_
    (refine awP (op_eql rfl rfl rfl) ?_); (try simp only [nA, Nat.reduceBEq, Nat.reduceEqDiff, ↓reduceIte, Nat.reduceAdd, Nat.reduceSub])
    refine awP (op_assign rfl rfl) ?_; (simp only [nA])
    refine AWL.nil ?_
    (refine hK _ ?_; clear hK K; (try simp only [nA, Nat.reduceBEq, Nat.reduceEqDiff, ↓reduceIte, Nat.reduceAdd, Nat.reduceSub]))
    refine AW.cond rfl rfl rfl (fun hc => ?_) (fun hc => ?_)
    ·
     have hc2 := hc
     refine AW.skip ?_
     exact ⟨decide ((evK l k) = 2), ⟨fun h => .inl (of_decide_eq_true h), fun _ => hc2⟩, ⟨rfl, rfl, rfl, rfl, rfl, trivial⟩, (by rfl), (by rfl)⟩
    have hc2 := hc
    refine AW.region ?_
    (refine awP (op_eql rfl rfl rfl) ?_); (try simp only [nA, Nat.reduceBEq, Nat.reduceEqDiff, ↓reduceIte, Nat.reduceAdd, Nat.reduceSub])
    refine awP (op_assign rfl rfl) ?_; (simp only [nA])
    refine AWL.nil ?_
    exact ⟨decide ((evK l k) = 10), ⟨fun h => .inr (of_decide_eq_true h), fun h => h.elim (fun h => absurd h (of_decide_eq_false hc2)) decide_eq_true⟩, ⟨rfl, rfl, rfl, rfl, rfl, trivial⟩, (by rfl), (by rfl)⟩
   intro b2 ρ hb2; simp only [updL]
   refine AW.cond rfl rfl rfl (fun hc => ?_) (fun hc => ?_)
   ·
    have hc3 := hc; have hk := hb2.1 hc3; refine AW.gh (Gh.slot (r := 2) (es' := [(ev0 (evK l k)).av]) rfl rfl (le_ev0s (evK l k))) ?_; (try simp only [nA, Nat.reduceBEq, Nat.reduceEqDiff, ↓reduceIte, Nat.reduceAdd, Nat.reduceSub])
    refine AW.region ?_
    refine awP (op_move rfl rfl) ?_; (simp only [nA])
    refine awJ (op_call1 rfl en26 (C26 (k := rN l 1 k) (n := 1000) hl (by decide)) (by exact rfl) (RL.cons .ptr (RL.cons (.base (by exact View.same rfl)) (RL.nil))) (by exact ⟨_, _, _, rfl, rfl, rfl⟩) (by exact rfl) (by exact rfl) (by exact rfl)) ?_; (try simp only [nA, Nat.reduceBEq, Nat.reduceEqDiff, ↓reduceIte, Nat.reduceAdd, Nat.reduceSub])
    refine awP (op_move rfl rfl) ?_; (simp only [nA, ↓reduceIte])
    refine awJ (op_call1 rfl en22 (C22 (k := rN l 2 k) (n := 24) hl (by decide)) (by exact rfl) (RL.cons .ptr (RL.cons (.base (by exact View.same rfl)) (RL.nil))) (by exact ⟨_, _, _, rfl, rfl, rfl⟩) (by exact rfl) (by exact rfl) (by exact rfl)) ?_; (try simp only [nA, Nat.reduceBEq, Nat.reduceEqDiff, ↓reduceIte, Nat.reduceAdd, Nat.reduceSub])
    (refine awP (op_fa_ptr rfl rfl rfl fl35_3 (by exact sz23) (by decide) rfl) ?_); (try simp only [nA, Nat.reduceBEq, Nat.reduceEqDiff, ↓reduceIte, Nat.reduceAdd, Nat.reduceSub])
    refine awJ (op_store rfl rfl rfl rfl rfl rfl sz23 rfl (bl rfl) rfl) ?_; (try simp only [nA, Nat.reduceBEq, Nat.reduceEqDiff, ↓reduceIte, Nat.reduceAdd, Nat.reduceSub])
    (refine awP (op_fa_ptr rfl rfl rfl fl35_4 (by exact sz3) (by decide) rfl) ?_); (try simp only [nA, Nat.reduceBEq, Nat.reduceEqDiff, ↓reduceIte, Nat.reduceAdd, Nat.reduceSub])
    refine awJ (op_store rfl rfl rfl rfl rfl rfl sz3 rfl (bl rfl) rfl) ?_; (simp only [nA, ↓reduceIte])
    refine AWL.nil ?_
    (try simp only [thenE, inBlk, Nat.reduceEqDiff, ↓reduceIte])
    exact ⟨(_, _, _), (evV_2 hk).symm, ⟨rfl, rfl, trivial⟩, (by rfl), (by trivial)⟩
   have hc3 := hc
   (refine AW.seq_k ?_; intro K hK)
   refine AW.region ?_
   (refine awP (op_eql rfl rfl rfl) ?_); (try simp only [nA, Nat.reduceBEq, Nat.reduceEqDiff, ↓reduceIte, Nat.reduceAdd, Nat.reduceSub])
   refine awP (op_assign rfl rfl) ?_; (simp only [nA])
   refine AWL.nil ?_
   (refine hK _ ?_; clear hK K; (skip))
   refine AW.cond rfl rfl rfl (fun hc => ?_) (fun hc => ?_)
   ·
    have hc4 := hc; have hk := of_decide_eq_true hc4; refine AW.gh (Gh.slot2 (r := 2) (es' := [evC (ev0 (evK l k)) (.own 66 []) (.ro [])]) rfl rfl (le_kr _)) ?_; (try simp only [nA, Nat.reduceBEq, Nat.reduceEqDiff, ↓reduceIte, Nat.reduceAdd, Nat.reduceSub])
    (refine AW.seq_k ?_; intro K hK)
    refine AW.region ?_
    refine awP (op_move rfl rfl) ?_; (simp only [nA, ↓reduceIte])
    refine awJ (OpJ.frz (op_buildSlice rfl [(0, iv 0), (1, iv 1), (2, iv 300), (3, iv 1048576)] (([0, 1, 300, 1048576] : List Int).map iv) Tryd.underlying36 ze3 rfl (by simp) (fold_dense 1 (([0, 1, 300, 1048576] : List Int).map iv) (iv_len _)) (iv_len _) rfl (bl rfl) (by simp [maxLen])) (iv_flat tmL) rfl) ?_; (try simp only [nA, Nat.reduceBEq, Nat.reduceEqDiff, ↓reduceIte, Nat.reduceAdd, Nat.reduceSub])
    refine awJ (op_call1 rfl en27 (C27 (k := rN l 1 k) (xs := tmL) hl (by decide) (by decide)) (by exact rfl) (RL.cons .ptr (RL.cons (.base (by exact View.same rfl)) (RL.nil))) (by exact ⟨_, _, _, rfl, rfl, rfl⟩) (by exact rfl) (by exact rfl) (by exact rfl)) ?_; (try simp only [nA, Nat.reduceBEq, Nat.reduceEqDiff, ↓reduceIte, Nat.reduceAdd, Nat.reduceSub])
    (refine awP (op_fa_ptr rfl rfl rfl fl35_1 (by exact sz3) (by decide) rfl) ?_); (try simp only [nA, Nat.reduceBEq, Nat.reduceEqDiff, ↓reduceIte, Nat.reduceAdd, Nat.reduceSub])
    refine awJ (op_store rfl rfl rfl rfl rfl rfl sz3 rfl (bl rfl) rfl) ?_; (simp only [nA, ↓reduceIte])
    refine AWL.nil ?_
    (refine hK _ ?_; clear hK K; (skip))
    (refine AW.seq_k ?_; intro K hK)
    refine AW.region ?_
    refine awP (op_assign rfl rfl) ?_; (try simp only [nA, Nat.reduceBEq, Nat.reduceEqDiff, ↓reduceIte, Nat.reduceAdd, Nat.reduceSub])
    refine AWL.nil ?_
    (refine hK _ ?_; clear hK K; (skip))
    refine AW.block ?_
    refine AW.loopI (fun (q : Nat × Nat × List Report × Nat) => [(0, .ptr 0 0 0 0), (2, .ptr 1 1 0 0), (3, .ptr 2 2 0 0), (4, .v (.int .i64 (q.1 : Nat)))]) (fun q => ⟨[(0, .own 68 [srcRow l q.2.1]), (1, .own 35 [evC (ev0 0) (.v (.slice none 0 0)) (.v (.slice none 0 0))]), (2, .own 35 [evC ({ ev0 (evK l k) with time := pickV l (rN l 1 k) tmL } : Ev) (.own 66 (q.2.2.1.map Report.av)) (.ro [])])], q.2.2.2⟩) (fun q => q.1 ≤ 24 ∧ repsV l (24 - q.1) q.2.1 q.2.2.1 = repsV l 24 (rN l 2 k) [] ∧ q.2.2.1.length ≤ q.1) (fun q => 24 - q.1) (0, rN l 2 k, [], 3) ⟨by dsimp only; omega, rfl, by simp⟩ ⟨rfl, rfl, rfl, rfl, trivial⟩ rfl ?_; rintro ⟨i, kk, acc, ep⟩ ρ ⟨hi, hR, hA⟩; dsimp only at hi hR hA ⊢; simp only [updL]
    (refine AW.seq_k ?_; intro K hK)
    (refine AW.seq_k ?_; intro K hK)
    refine AW.region ?_
    refine awP (op_move rfl rfl) ?_; (simp only [nA, ↓reduceIte])
    refine awP (op_lss rfl rfl rfl) ?_; (try simp only [nA, Nat.reduceBEq, Nat.reduceEqDiff, ↓reduceIte, Nat.reduceAdd, Nat.reduceSub])
    refine AWL.nil ?_
    (refine hK _ ?_; clear hK K; (skip))
    refine AW.cond rfl rfl rfl (fun hc => ?_) (fun hc => ?_)
    ·
     have hc5 := hc; have hlt : i < 24 := (by have := of_decide_eq_true hc5; omega)
     refine AW.skip ?_
     (refine hK _ ?_; clear hK K; (skip))
     (refine AW.seq_k ?_; intro K hK)
     refine AW.block ?_
     (refine AW.seq_k ?_; intro K hK)
     refine AW.region ?_
     refine awP (op_move rfl rfl) ?_; (simp only [nA, ↓reduceIte])
     refine awJ (op_call1 rfl en22 (C22 (k := kk) (n := 6) hl (by decide)) (by exact rfl) (RL.cons .ptr (RL.cons (.base (by exact View.same rfl)) (RL.nil))) (by exact ⟨_, _, _, rfl, rfl, rfl⟩) (by exact rfl) (by exact rfl) (by exact rfl)) ?_; (try simp only [nA, Nat.reduceBEq, Nat.reduceEqDiff, ↓reduceIte, Nat.reduceAdd, Nat.reduceSub])
     (refine awP (op_eql rfl rfl rfl) ?_); (try simp only [nA, Nat.reduceBEq, Nat.reduceEqDiff, ↓reduceIte, Nat.reduceAdd, Nat.reduceSub])
     refine AWL.nil ?_
     (refine hK _ ?_; clear hK K; (skip))
     refine AW.cond rfl rfl rfl (fun hc => ?_) (fun hc => ?_)
     ·
      have hc6 := hc; have h5 := of_decide_eq_true hc6; rw [reps_y hlt h5] at hR
      refine AW.ghE (GhE.unnest (r := 2) (row := evC ({ ev0 (evK l k) with time := pickV l (rN l 1 k) tmL } : Ev) (.own 66 (acc.map Report.av)) (.ro [])) 0 9 rfl rfl rfl) ?_; intro u hu; (try simp only [nA, Nat.reduceBEq, Nat.reduceEqDiff, ↓reduceIte, Nat.reduceAdd, Nat.reduceSub])
      refine AW.aeo (fun T' => T'.slots[2]? = some (2, .own 35 [evC ({ ev0 (evK l k) with time := pickV l (rN l 1 k) tmL } : Ev) (.v u) (.ro [])])) mix rfl ?_
      refine aePo 0 rfl (fun T' ok => op_fa_ptr rfl rfl ok fl35_7 (by exact sz24) (by decide) rfl) rfl (by kernel_rfl) (by kernel_rfl) ?_; (simp only [nA, Nat.reduceBEq, Nat.reduceEqDiff, ↓reduceIte])
      refine aeRo 1 rfl (fun T' ok => op_load_ptr1 (row := evC ({ ev0 (evK l k) with time := pickV l (rN l 1 k) tmL } : Ev) (.v u) (.ro [])) rfl rfl ok rfl ag24 rfl rfl) rfl (by kernel_rfl) (by kernel_rfl) ?_; (try simp only [nA, Nat.reduceBEq, Nat.reduceEqDiff, ↓reduceIte, Nat.reduceAdd, Nat.reduceSub])
      refine aePo 2 rfl (fun T' ok => op_move rfl rfl) rfl (by kernel_rfl) (by kernel_rfl) ?_; (simp only [nA, ↓reduceIte])
      refine aePo 3 rfl (fun T' ok => op_move rfl rfl) rfl (by kernel_rfl) (by kernel_rfl) ?_; (simp only [nA, ↓reduceIte])
      refine aePo 6 rfl (fun T' ok => op_move rfl rfl) rfl (by kernel_rfl) (by kernel_rfl) ?_; (simp only [nA, ↓reduceIte])
      refine aeFo 7 rfl (fun T' ok => OpJ.frz (op_buildSlice rfl [(0, sv ⟨#[]⟩), (1, sv ⟨#[]⟩), (2, sv ⟨#[48, 49, 49, 55, 48, 48, 49, 48, 48, 48]⟩), (3, sv ⟨#[48, 49, 49, 55, 48, 48, 49, 48, 63, 48]⟩)] (rpT.map sv) Tryd.underlying70 ze9 rfl (by decide) rfl (by simp) rfl (bl rfl) (by decide)) (sv_flat _) rfl) rfl (by kernel_rfl) (by kernel_rfl) ?_; (try simp only [nA, Nat.reduceBEq, Nat.reduceEqDiff, ↓reduceIte, Nat.reduceAdd, Nat.reduceSub])
      refine aeJo 4 rfl (op_call1 rfl en22 (C22 (k := rN l 1 kk) (n := 2) hl (by decide)) (by exact rfl) (RL.cons .ptr (RL.cons (.base (by exact View.same rfl)) (RL.nil))) (by exact ⟨_, _, _, rfl, rfl, rfl⟩) (by exact rfl) (by exact rfl) (by exact rfl)) (by kernel_rfl) rfl ?_; (try simp only [nA, Nat.reduceBEq, Nat.reduceEqDiff, ↓reduceIte, Nat.reduceAdd, Nat.reduceSub])
      refine aePo 5 rfl (fun T' ok => op_eql rfl rfl rfl) rfl (by kernel_rfl) (by kernel_rfl) ?_; (try simp only [nA, Nat.reduceBEq, Nat.reduceEqDiff, ↓reduceIte, Nat.reduceAdd, Nat.reduceSub])
      refine aeJo 8 rfl (op_call1 rfl en25 (C25 (k := rN l 2 kk) (ss := rpT) hl (by decide) (by decide)) (by exact rfl) (RL.cons .ptr (RL.cons (.base (by exact View.same rfl)) (RL.nil))) (by exact ⟨_, _, _, rfl, rfl, rfl⟩) (by exact rfl) (by exact rfl) (by exact rfl)) (by kernel_rfl) rfl ?_; (try simp only [nA, Nat.reduceBEq, Nat.reduceEqDiff, ↓reduceIte, Nat.reduceAdd, Nat.reduceSub])
      refine aePo 9 rfl (fun T' ok => op_build2 (xs := [_, _, _]) rfl pl66 ze66 [(0, [_]), (1, [_]), (2, [_])] rfl rfl rfl) rfl (by kernel_rfl) (by kernel_rfl) ?_; (simp only [nA, ↓reduceIte])
      refine aeJo 10 rfl (OpJ.frz (op_buildSlice rfl [(0, (⟨(i : Nat), decide (gmod (rawV l (rN l 1 kk)) 2 = 1), textV l (rN l 2 kk) rpT⟩ : Report).av)] [(⟨(i : Nat), decide (gmod (rawV l (rN l 1 kk)) 2 = 1), textV l (rN l 2 kk) rpT⟩ : Report).av] Tryd.underlying24 ze66 rfl (by simp) rfl (by simp) rfl (bl rfl) (by simp [maxLen])) (rp_flat [(⟨(i : Nat), decide (gmod (rawV l (rN l 1 kk)) 2 = 1), textV l (rN l 2 kk) rpT⟩ : Report)]) rfl) (by kernel_rfl) rfl ?_; (try simp only [nA, Nat.reduceBEq, Nat.reduceEqDiff, ↓reduceIte, Nat.reduceAdd, Nat.reduceSub])
      refine aeJo 11 rfl (OpJ.nm (t := 41) (r := 3) rfl rfl (op_app (rows := [(⟨(i : Nat), decide (gmod (rawV l (rN l 1 kk)) 2 = 1), textV l (rN l 2 kk) rpT⟩ : Report).av]) rfl rfl rfl rfl (by simp) .ro Tryd.underlying24 ze66 (by decide) (by simp) (by simp; omega) (by decide) (es' := (acc ++ [(⟨(i : Nat), decide (gmod (rawV l (rN l 1 kk)) 2 = 1), textV l (rN l 2 kk) rpT⟩ : Report)]).map Report.av) (by simp) (n := (acc ++ [(⟨(i : Nat), decide (gmod (rawV l (rN l 1 kk)) 2 = 1), textV l (rN l 2 kk) rpT⟩ : Report)]).length) (by simp))) (by kernel_rfl) rfl ?_; (try simp only [nA, Nat.reduceBEq, Nat.reduceEqDiff, ↓reduceIte, Nat.reduceAdd, Nat.reduceSub])
      refine aePo 12 rfl (fun T' ok => op_fa_ptr rfl rfl ok fl35_7 (by exact sz24) (by decide) rfl) rfl (by kernel_rfl) (by kernel_rfl) ?_; (try simp only [nA, Nat.reduceBEq, Nat.reduceEqDiff, ↓reduceIte, Nat.reduceAdd, Nat.reduceSub])
      refine aeLo 13 rfl (op_store_nest (r := 2) (q := 3) rfl rfl rfl rfl (row := evC ({ ev0 (evK l k) with time := pickV l (rN l 1 k) tmL } : Ev) (.v u) (.ro [])) rfl sz24 rfl (by decide) (by simp) (by simp) (es2 := [evC ({ ev0 (evK l k) with time := pickV l (rN l 1 k) tmL } : Ev) (.own 66 ((acc ++ [(⟨(i : Nat), decide (gmod (rawV l (rN l 1 kk)) 2 = 1), textV l (rN l 2 kk) rpT⟩ : Report)]).map Report.av)) (.ro [])]) rfl) (by kernel_rfl) (by kernel_rfl) ?_; (try simp only [nA, Nat.reduceBEq, Nat.reduceEqDiff, ↓reduceIte, Nat.reduceAdd, Nat.reduceSub])
      refine aeDoneo (by kernel_rfl) ?_
      (try simp only [thenE, inBlk, Nat.reduceEqDiff, ↓reduceIte])
      (refine hK _ ?_; clear hK K; (skip))
      refine AW.region ?_
      refine awP (op_move rfl rfl) ?_; (simp only [nA, ↓reduceIte])
      (refine awP (op_addi rfl rfl rfl (by omega)) ?_); (try simp only [nA, Nat.reduceBEq, Nat.reduceEqDiff, ↓reduceIte, Nat.reduceAdd, Nat.reduceSub])
      refine awP (op_assign rfl rfl) ?_; (simp only [nA])
      refine AWL.gh (Gh.drop 3) ?_; (try simp only [nA, Nat.reduceBEq, Nat.reduceEqDiff, ↓reduceIte, Nat.reduceAdd, Nat.reduceSub])
      refine AWL.nil ?_
      refine ⟨(i + 1, rN l 3 kk, acc ++ [(⟨(i : Nat), decide (gmod (rawV l (rN l 1 kk)) 2 = 1), textV l (rN l 2 kk) rpT⟩ : Report)], _), ⟨by dsimp only; omega, hR, by dsimp only; rw [List.length_append]; simp only [List.length_cons, List.length_nil]; omega⟩, by dsimp only; omega, ⟨rfl, rfl, rfl, by dsimp only; exact congrArg (fun z => AV.v (.int .i64 z)) (by omega), trivial⟩, (by rfl), (by rfl)⟩
     have hc6 := hc; have h5 := of_decide_eq_false hc6; rw [reps_n hlt h5] at hR
     refine AW.skip ?_
     (try simp only [thenE, inBlk, Nat.reduceEqDiff, ↓reduceIte])
     (refine hK _ ?_; clear hK K; (skip))
     refine AW.region ?_
     refine awP (op_move rfl rfl) ?_; (simp only [nA, ↓reduceIte])
     (refine awP (op_addi rfl rfl rfl (by omega)) ?_); (try simp only [nA, Nat.reduceBEq, Nat.reduceEqDiff, ↓reduceIte, Nat.reduceAdd, Nat.reduceSub])
     refine awP (op_assign rfl rfl) ?_; (simp only [nA])
     refine AWL.gh (Gh.drop 3) ?_; (try simp only [nA, Nat.reduceBEq, Nat.reduceEqDiff, ↓reduceIte, Nat.reduceAdd, Nat.reduceSub])
     refine AWL.nil ?_
     refine ⟨(i + 1, rN l 1 kk, acc, _), ⟨by dsimp only; omega, hR, by dsimp only; omega⟩, by dsimp only; omega, ⟨rfl, rfl, rfl, by dsimp only; exact congrArg (fun z => AV.v (.int .i64 z)) (by omega), trivial⟩, (by rfl), (by rfl)⟩
    have hc5 := hc; have hi24 : i = 24 := (by have := of_decide_eq_false hc5; omega); subst hi24; rw [show repsV l (24 - 24) kk acc = (acc, kk) from rfl] at hR; refine AW.gh (Gh.freezeC (r := 2) 0 9 rfl rfl rfl (rp_flat _) rfl) ?_; (simp only [nA, Nat.reduceBEq, Nat.reduceEqDiff, ↓reduceIte, Nat.reduceAdd, Nat.reduceSub])
    refine AW.exit ?_; (try simp only [thenE, inBlk, Nat.reduceEqDiff, ↓reduceIte])
    clear hK K
    (try simp only [thenE, inBlk, Nat.reduceEqDiff, ↓reduceIte])
    exact ⟨(_, _, _), (by rw [evV_3 hk, ← hR]), ⟨rfl, rfl, trivial⟩, (by rfl), (by trivial)⟩
   have hc4 := hc
   (refine AW.seq_k ?_; intro K hK)
   refine AW.region ?_
   (refine awP (op_eql rfl rfl rfl) ?_); (try simp only [nA, Nat.reduceBEq, Nat.reduceEqDiff, ↓reduceIte, Nat.reduceAdd, Nat.reduceSub])
   refine awP (op_assign rfl rfl) ?_; (simp only [nA])
   refine AWL.nil ?_
   (refine hK _ ?_; clear hK K; (skip))
   refine AW.cond rfl rfl rfl (fun hc => ?_) (fun hc => ?_)
   ·
    have hc7 := hc; have hk := of_decide_eq_true hc7; refine AW.gh (Gh.slot (r := 2) (es' := [(ev0 (evK l k)).av]) rfl rfl (le_ev0s (evK l k))) ?_; (try simp only [nA, Nat.reduceBEq, Nat.reduceEqDiff, ↓reduceIte, Nat.reduceAdd, Nat.reduceSub])
    refine AW.region ?_
    refine awP (op_move rfl rfl) ?_; (simp only [nA, ↓reduceIte])
    refine awJ (op_call1 rfl en22 (C22 (k := rN l 1 k) (n := 1048577) hl (by decide)) (by exact rfl) (RL.cons .ptr (RL.cons (.base (by exact View.same rfl)) (RL.nil))) (by exact ⟨_, _, _, rfl, rfl, rfl⟩) (by exact rfl) (by exact rfl) (by exact rfl)) ?_; (try simp only [nA, Nat.reduceBEq, Nat.reduceEqDiff, ↓reduceIte, Nat.reduceAdd, Nat.reduceSub])
    refine awP (op_move rfl rfl) ?_; (simp only [nA, ↓reduceIte])
    refine awJ (op_call1 rfl en22 (C22 (k := rN l 2 k) (n := 2) hl (by decide)) (by exact rfl) (RL.cons .ptr (RL.cons (.base (by exact View.same rfl)) (RL.nil))) (by exact ⟨_, _, _, rfl, rfl, rfl⟩) (by exact rfl) (by exact rfl) (by exact rfl)) ?_; (try simp only [nA, Nat.reduceBEq, Nat.reduceEqDiff, ↓reduceIte, Nat.reduceAdd, Nat.reduceSub])
    (refine awP (op_eql rfl rfl rfl) ?_); (try simp only [nA, Nat.reduceBEq, Nat.reduceEqDiff, ↓reduceIte, Nat.reduceAdd, Nat.reduceSub])
    (refine awP (op_fa_ptr rfl rfl rfl fl35_5 (by exact sz3) (by decide) rfl) ?_); (try simp only [nA, Nat.reduceBEq, Nat.reduceEqDiff, ↓reduceIte, Nat.reduceAdd, Nat.reduceSub])
    refine awJ (op_store rfl rfl rfl rfl rfl rfl sz3 rfl (bl rfl) rfl) ?_; (simp only [nA, ↓reduceIte])
    (refine awP (op_fa_ptr rfl rfl rfl fl35_6 (by exact sz4) (by decide) rfl) ?_); (try simp only [nA, Nat.reduceBEq, Nat.reduceEqDiff, ↓reduceIte, Nat.reduceAdd, Nat.reduceSub])
    refine awJ (op_store rfl rfl rfl rfl rfl rfl sz4 rfl (bl rfl) rfl) ?_; (simp only [nA, ↓reduceIte])
    refine AWL.nil ?_
    (try simp only [thenE, inBlk, Nat.reduceEqDiff, ↓reduceIte])
    exact ⟨(_, _, _), (evV_4 hk).symm, ⟨rfl, rfl, trivial⟩, (by rfl), (by trivial)⟩
   have hc7 := hc
   (refine AW.seq_k ?_; intro K hK)
   refine AW.region ?_
   (refine awP (op_eql rfl rfl rfl) ?_); (try simp only [nA, Nat.reduceBEq, Nat.reduceEqDiff, ↓reduceIte, Nat.reduceAdd, Nat.reduceSub])
   refine awP (op_assign rfl rfl) ?_; (simp only [nA])
   refine AWL.nil ?_
   (refine hK _ ?_; clear hK K; (skip))
   refine AW.cond rfl rfl rfl (fun hc => ?_) (fun hc => ?_)
   ·
    have hc8 := hc; have hk := of_decide_eq_true hc8; refine AW.gh (Gh.slot (r := 2) (es' := [(ev0 (evK l k)).av]) rfl rfl (le_ev0s (evK l k))) ?_; (try simp only [nA, Nat.reduceBEq, Nat.reduceEqDiff, ↓reduceIte, Nat.reduceAdd, Nat.reduceSub])
    refine AW.region ?_
    refine awP (op_move rfl rfl) ?_; (simp only [nA, ↓reduceIte])
    refine awJ (op_call1 rfl en22 (C22 (k := rN l 1 k) (n := 5) hl (by decide)) (by exact rfl) (RL.cons .ptr (RL.cons (.base (by exact View.same rfl)) (RL.nil))) (by exact ⟨_, _, _, rfl, rfl, rfl⟩) (by exact rfl) (by exact rfl) (by exact rfl)) ?_; (try simp only [nA, Nat.reduceBEq, Nat.reduceEqDiff, ↓reduceIte, Nat.reduceAdd, Nat.reduceSub])
    (refine awP (op_addi rfl rfl rfl (by omega)) ?_); (try simp only [nA, Nat.reduceBEq, Nat.reduceEqDiff, ↓reduceIte, Nat.reduceAdd, Nat.reduceSub])
    refine awP (op_move rfl rfl) ?_; (simp only [nA, ↓reduceIte])
    refine awJ (op_call1 rfl en22 (C22 (k := rN l 2 k) (n := 1048577) hl (by decide)) (by exact rfl) (RL.cons .ptr (RL.cons (.base (by exact View.same rfl)) (RL.nil))) (by exact ⟨_, _, _, rfl, rfl, rfl⟩) (by exact rfl) (by exact rfl) (by exact rfl)) ?_; (try simp only [nA, Nat.reduceBEq, Nat.reduceEqDiff, ↓reduceIte, Nat.reduceAdd, Nat.reduceSub])
    refine awP (op_move rfl rfl) ?_; (simp only [nA, ↓reduceIte])
    refine awJ (op_call1 rfl en28 (C28 (k := rN l 3 k) hl) (by exact rfl) (RL.cons .ptr (RL.nil)) (by exact ⟨_, _, _, rfl, rfl, rfl⟩) (by exact rfl) (by exact rfl) (by exact rfl)) ?_; (try simp only [nA, Nat.reduceBEq, Nat.reduceEqDiff, ↓reduceIte, Nat.reduceAdd, Nat.reduceSub])
    refine awP (op_build2 (xs := [_, _, _, _, _, _]) rfl pl28 ze28 [(0, [_]), (1, [_]), (2, [_, _, _, _])] rfl rfl rfl) ?_; (simp only [nA, ↓reduceIte])
    (refine awP (op_fa_ptr rfl rfl rfl fl35_8 (by exact sz28) (by decide) rfl) ?_); (try simp only [nA, Nat.reduceBEq, Nat.reduceEqDiff, ↓reduceIte, Nat.reduceAdd, Nat.reduceSub])
    refine awJ (op_store rfl rfl rfl rfl rfl rfl sz28 rfl (bl rfl) rfl) ?_; (try simp only [nA, Nat.reduceBEq, Nat.reduceEqDiff, ↓reduceIte, Nat.reduceAdd, Nat.reduceSub])
    refine AWL.nil ?_
    (try simp only [thenE, inBlk, Nat.reduceEqDiff, ↓reduceIte])
    exact ⟨(_, _, _), (evV_5 hk).symm, ⟨rfl, rfl, trivial⟩, (by rfl), (by trivial)⟩
   have hc8 := hc
   refine AW.join (fun (b : Bool) => [(0, .ptr 0 0 0 0), (2, .ptr 1 1 0 0), (3, .ptr 2 2 0 0), (11, .v (.int .i64 (evK l k))), (73, .v (.bool b))]) (fun b => ⟨[(0, .own 68 [srcRow l (rN l 1 k)]), (1, .own 35 [evC (ev0 0) (.v (.slice none 0 0)) (.v (.slice none 0 0))]), (2, .own 35 [evC (ev0 (evK l k)) (.v (.slice none 0 0)) (.v (.slice none 0 0))])], 3⟩) (fun b => b = true ↔ (evK l k) = 6 ∨ (evK l k) = 7) ?_ ?_
   ·
    (refine AW.seq_k ?_; intro K hK)
    refine AW.region ?_
    (refine awP (op_eql rfl rfl rfl) ?_); (try simp only [nA, Nat.reduceBEq, Nat.reduceEqDiff, ↓reduceIte, Nat.reduceAdd, Nat.reduceSub])
    refine awP (op_assign rfl rfl) ?_; (simp only [nA])
    refine AWL.nil ?_
    (refine hK _ ?_; clear hK K; (try simp only [nA, Nat.reduceBEq, Nat.reduceEqDiff, ↓reduceIte, Nat.reduceAdd, Nat.reduceSub]))
    refine AW.cond rfl rfl rfl (fun hc => ?_) (fun hc => ?_)
    ·
     have hc9 := hc
     refine AW.skip ?_
     exact ⟨decide ((evK l k) = 6), ⟨fun h => .inl (of_decide_eq_true h), fun _ => hc9⟩, ⟨rfl, rfl, rfl, rfl, rfl, trivial⟩, (by rfl), (by rfl)⟩
    have hc9 := hc
    refine AW.region ?_
    (refine awP (op_eql rfl rfl rfl) ?_); (try simp only [nA, Nat.reduceBEq, Nat.reduceEqDiff, ↓reduceIte, Nat.reduceAdd, Nat.reduceSub])
    refine awP (op_assign rfl rfl) ?_; (simp only [nA])
    refine AWL.nil ?_
    exact ⟨decide ((evK l k) = 7), ⟨fun h => .inr (of_decide_eq_true h), fun h => h.elim (fun h => absurd h (of_decide_eq_false hc9)) decide_eq_true⟩, ⟨rfl, rfl, rfl, rfl, rfl, trivial⟩, (by rfl), (by rfl)⟩
   intro b6 ρ hb6; simp only [updL]
   refine AW.cond rfl rfl rfl (fun hc => ?_) (fun hc => ?_)
   ·
    have hc10 := hc; have hk := hb6.1 hc10; refine AW.gh (Gh.slot (r := 2) (es' := [(ev0 (evK l k)).av]) rfl rfl (le_ev0s (evK l k))) ?_; (try simp only [nA, Nat.reduceBEq, Nat.reduceEqDiff, ↓reduceIte, Nat.reduceAdd, Nat.reduceSub])
    refine AW.region ?_
    refine awP (op_move rfl rfl) ?_; (simp only [nA])
    refine awJ (op_call1 rfl en22 (C22 (k := rN l 1 k) (n := 24) hl (by decide)) (by exact rfl) (RL.cons .ptr (RL.cons (.base (by exact View.same rfl)) (RL.nil))) (by exact ⟨_, _, _, rfl, rfl, rfl⟩) (by exact rfl) (by exact rfl) (by exact rfl)) ?_; (try simp only [nA, Nat.reduceBEq, Nat.reduceEqDiff, ↓reduceIte, Nat.reduceAdd, Nat.reduceSub])
    (refine awP (op_fa_ptr rfl rfl rfl fl35_4 (by exact sz3) (by decide) rfl) ?_); (try simp only [nA, Nat.reduceBEq, Nat.reduceEqDiff, ↓reduceIte, Nat.reduceAdd, Nat.reduceSub])
    refine awJ (op_store rfl rfl rfl rfl rfl rfl sz3 rfl (bl rfl) rfl) ?_; (simp only [nA, ↓reduceIte])
    refine AWL.nil ?_
    (try simp only [thenE, inBlk, Nat.reduceEqDiff, ↓reduceIte])
    exact ⟨(_, _, _), (evV_6 hk).symm, ⟨rfl, rfl, trivial⟩, (by rfl), (by trivial)⟩
   have hc10 := hc
   refine AW.join (fun (b : Bool) => [(0, .ptr 0 0 0 0), (2, .ptr 1 1 0 0), (3, .ptr 2 2 0 0), (11, .v (.int .i64 (evK l k))), (79, .v (.bool b))]) (fun b => ⟨[(0, .own 68 [srcRow l (rN l 1 k)]), (1, .own 35 [evC (ev0 0) (.v (.slice none 0 0)) (.v (.slice none 0 0))]), (2, .own 35 [evC (ev0 (evK l k)) (.v (.slice none 0 0)) (.v (.slice none 0 0))])], 3⟩) (fun b => b = true ↔ (evK l k) = 8 ∨ (evK l k) = 9) ?_ ?_
   ·
    (refine AW.seq_k ?_; intro K hK)
    refine AW.region ?_
    (refine awP (op_eql rfl rfl rfl) ?_); (try simp only [nA, Nat.reduceBEq, Nat.reduceEqDiff, ↓reduceIte, Nat.reduceAdd, Nat.reduceSub])
    refine awP (op_assign rfl rfl) ?_; (simp only [nA])
    refine AWL.nil ?_
    (refine hK _ ?_; clear hK K; (try simp only [nA, Nat.reduceBEq, Nat.reduceEqDiff, ↓reduceIte, Nat.reduceAdd, Nat.reduceSub]))
    refine AW.cond rfl rfl rfl (fun hc => ?_) (fun hc => ?_)
    ·
     have hc11 := hc
     refine AW.skip ?_
     exact ⟨decide ((evK l k) = 8), ⟨fun h => .inl (of_decide_eq_true h), fun _ => hc11⟩, ⟨rfl, rfl, rfl, rfl, rfl, trivial⟩, (by rfl), (by rfl)⟩
    have hc11 := hc
    refine AW.region ?_
    (refine awP (op_eql rfl rfl rfl) ?_); (try simp only [nA, Nat.reduceBEq, Nat.reduceEqDiff, ↓reduceIte, Nat.reduceAdd, Nat.reduceSub])
    refine awP (op_assign rfl rfl) ?_; (simp only [nA])
    refine AWL.nil ?_
    exact ⟨decide ((evK l k) = 9), ⟨fun h => .inr (of_decide_eq_true h), fun h => h.elim (fun h => absurd h (of_decide_eq_false hc11)) decide_eq_true⟩, ⟨rfl, rfl, rfl, rfl, rfl, trivial⟩, (by rfl), (by rfl)⟩
   intro b8 ρ hb8; simp only [updL]
   refine AW.cond rfl rfl rfl (fun hc => ?_) (fun hc => ?_)
   ·
    have hc12 := hc; have hk := hb8.1 hc12; refine AW.gh (Gh.slot (r := 2) (es' := [(ev0 (evK l k)).av]) rfl rfl (le_ev0s (evK l k))) ?_; (try simp only [nA, Nat.reduceBEq, Nat.reduceEqDiff, ↓reduceIte, Nat.reduceAdd, Nat.reduceSub])
    (refine AW.seq_k ?_; intro K hK)
    refine AW.region ?_
    refine awP (op_move rfl rfl) ?_; (simp only [nA])
    refine awP (op_move rfl rfl) ?_; (simp only [nA, ↓reduceIte])
    refine awJ (op_call1 rfl en22 (C22 (k := rN l 1 k) (n := 6) hl (by decide)) (by exact rfl) (RL.cons .ptr (RL.cons (.base (by exact View.same rfl)) (RL.nil))) (by exact ⟨_, _, _, rfl, rfl, rfl⟩) (by exact rfl) (by exact rfl) (by exact rfl)) ?_; (try simp only [nA, Nat.reduceBEq, Nat.reduceEqDiff, ↓reduceIte, Nat.reduceAdd, Nat.reduceSub])
    refine awP (op_add (z := evD l k) rfl rfl rfl (by rw [IntKind.wrap_i64]; unfold evD; omega)) ?_; (try simp only [nA, Nat.reduceBEq, Nat.reduceEqDiff, ↓reduceIte, Nat.reduceAdd, Nat.reduceSub])
    refine awJ (op_call1 rfl en29 (C29 (k := rN l 2 k) (d := evD l k) hl) (by exact rfl) (RL.cons .ptr (RL.cons (.base (by exact View.same rfl)) (RL.nil))) (by exact ⟨_, _, _, rfl, rfl, rfl⟩) (by exact rfl) (by exact rfl) (by exact rfl)) ?_; (try simp only [nA, Nat.reduceBEq, Nat.reduceEqDiff, ↓reduceIte, Nat.reduceAdd, Nat.reduceSub])
    (refine awP (op_fa_ptr rfl rfl rfl fl35_10 (by exact sz32) (by decide) rfl) ?_); (try simp only [nA, Nat.reduceBEq, Nat.reduceEqDiff, ↓reduceIte, Nat.reduceAdd, Nat.reduceSub])
    refine awJ (op_store rfl rfl rfl rfl rfl rfl sz32 rfl (bl rfl) rfl) ?_; (try simp only [nA, Nat.reduceBEq, Nat.reduceEqDiff, ↓reduceIte, Nat.reduceAdd, Nat.reduceSub])
    refine AWL.nil ?_
    (refine hK _ ?_; clear hK K; (skip))
    (refine AW.seq_k ?_; intro K hK)
    refine AW.region ?_
    (refine awP (op_fa_ptr rfl rfl rfl fl35_10 (by exact sz32) (by decide) rfl) ?_); (try simp only [nA, Nat.reduceBEq, Nat.reduceEqDiff, ↓reduceIte, Nat.reduceAdd, Nat.reduceSub])
    (refine awP (op_fa_ptr rfl rfl rfl fl32_3 (by exact sz3) (by decide) rfl) ?_); (simp only [nA, Nat.reduceBEq, Nat.reduceEqDiff, ↓reduceIte])
    refine awJ (op_store rfl rfl rfl rfl rfl rfl sz3 rfl (bl rfl) rfl) ?_; (try simp only [nA, Nat.reduceBEq, Nat.reduceEqDiff, ↓reduceIte, Nat.reduceAdd, Nat.reduceSub])
    refine AWL.nil ?_
    (refine hK _ ?_; clear hK K; (skip))
    (refine AW.seq_k ?_; intro K hK)
    refine AW.region ?_
    (refine awP (op_fa_ptr rfl rfl rfl fl35_0 (by exact sz3) (by decide) rfl) ?_); (try simp only [nA, Nat.reduceBEq, Nat.reduceEqDiff, ↓reduceIte, Nat.reduceAdd, Nat.reduceSub])
    (refine awR (op_load_ptr1 rfl rfl rfl rfl ag3 rfl rfl) ?_); (try simp only [nA, Nat.reduceBEq, Nat.reduceEqDiff, ↓reduceIte, Nat.reduceAdd, Nat.reduceSub])
    (refine awP (op_eql rfl rfl rfl) ?_); (try simp only [nA, Nat.reduceBEq, Nat.reduceEqDiff, ↓reduceIte, Nat.reduceAdd, Nat.reduceSub])
    refine AWL.nil ?_
    (refine hK _ ?_; clear hK K; (skip))
    refine AW.cond rfl rfl rfl (fun hc => ?_) (fun hc => ?_)
    ·
     have hc13 := hc
     refine AW.region ?_
     (refine awP (op_fa_ptr rfl rfl rfl fl35_10 (by exact sz32) (by decide) rfl) ?_); (try simp only [nA, Nat.reduceBEq, Nat.reduceEqDiff, ↓reduceIte, Nat.reduceAdd, Nat.reduceSub])
     (refine awP (op_fa_ptr rfl rfl rfl fl32_3 (by exact sz3) (by decide) rfl) ?_); (simp only [nA, Nat.reduceBEq, Nat.reduceEqDiff, ↓reduceIte])
     refine awJ (op_store rfl rfl rfl rfl rfl rfl sz3 rfl (bl rfl) rfl) ?_; (try simp only [nA, Nat.reduceBEq, Nat.reduceEqDiff, ↓reduceIte, Nat.reduceAdd, Nat.reduceSub])
     refine AWL.nil ?_
     (try simp only [thenE, inBlk, Nat.reduceEqDiff, ↓reduceIte])
     exact ⟨(_, _, _), (evV_9 (of_decide_eq_true hc13)).symm, ⟨rfl, rfl, trivial⟩, (by rfl), (by trivial)⟩
    have hc13 := hc
    refine AW.region ?_
    refine awP (op_move rfl rfl) ?_; (simp only [nA, ↓reduceIte])
    refine awJ (op_call1 rfl en22 (C22 (k := rN l 9 k) (n := 24) hl (by decide)) (by exact rfl) (RL.cons .ptr (RL.cons (.base (by exact View.same rfl)) (RL.nil))) (by exact ⟨_, _, _, rfl, rfl, rfl⟩) (by exact rfl) (by exact rfl) (by exact rfl)) ?_; (try simp only [nA, Nat.reduceBEq, Nat.reduceEqDiff, ↓reduceIte, Nat.reduceAdd, Nat.reduceSub])
    (refine awP (op_fa_ptr rfl rfl rfl fl35_4 (by exact sz3) (by decide) rfl) ?_); (try simp only [nA, Nat.reduceBEq, Nat.reduceEqDiff, ↓reduceIte, Nat.reduceAdd, Nat.reduceSub])
    refine awJ (op_store rfl rfl rfl rfl rfl rfl sz3 rfl (bl rfl) rfl) ?_; (simp only [nA, ↓reduceIte])
    refine AWL.nil ?_
    (try simp only [thenE, inBlk, Nat.reduceEqDiff, ↓reduceIte])
    exact ⟨(_, _, _), (evV_8 (by have := of_decide_eq_false hc13; omega)).symm, ⟨rfl, rfl, trivial⟩, (by rfl), (by trivial)⟩
   have hc12 := hc
   (refine AW.seq_k ?_; intro K hK)
   refine AW.region ?_
   (refine awP (op_eql rfl rfl rfl) ?_); (try simp only [nA, Nat.reduceBEq, Nat.reduceEqDiff, ↓reduceIte, Nat.reduceAdd, Nat.reduceSub])
   refine awP (op_assign rfl rfl) ?_; (simp only [nA])
   refine AWL.nil ?_
   (refine hK _ ?_; clear hK K; (skip))
   refine AW.cond rfl rfl rfl (fun hc => ?_) (fun hc => ?_)
   ·
    have hc14 := hc; have hk := of_decide_eq_true hc14; refine AW.gh (Gh.slot (r := 2) (es' := [(ev0 (evK l k)).av]) rfl rfl (le_ev0s (evK l k))) ?_; (try simp only [nA, Nat.reduceBEq, Nat.reduceEqDiff, ↓reduceIte, Nat.reduceAdd, Nat.reduceSub])
    refine AW.region ?_
    refine awP (op_move rfl rfl) ?_; (simp only [nA, ↓reduceIte])
    refine awJ (op_call1 rfl en22 (C22 (k := rN l 1 k) (n := 6) hl (by decide)) (by exact rfl) (RL.cons .ptr (RL.cons (.base (by exact View.same rfl)) (RL.nil))) (by exact ⟨_, _, _, rfl, rfl, rfl⟩) (by exact rfl) (by exact rfl) (by exact rfl)) ?_; (try simp only [nA, Nat.reduceBEq, Nat.reduceEqDiff, ↓reduceIte, Nat.reduceAdd, Nat.reduceSub])
    refine awP (op_add (z := evD l k) rfl rfl rfl (by rw [IntKind.wrap_i64]; unfold evD; omega)) ?_; (try simp only [nA, Nat.reduceBEq, Nat.reduceEqDiff, ↓reduceIte, Nat.reduceAdd, Nat.reduceSub])
    (refine awP (op_fa_ptr rfl rfl rfl fl35_9 (by exact sz3) (by decide) rfl) ?_); (try simp only [nA, Nat.reduceBEq, Nat.reduceEqDiff, ↓reduceIte, Nat.reduceAdd, Nat.reduceSub])
    refine awJ (op_store rfl rfl rfl rfl rfl rfl sz3 rfl (bl rfl) rfl) ?_; (simp only [nA, ↓reduceIte])
    refine AWL.nil ?_
    (try simp only [thenE, inBlk, Nat.reduceEqDiff, ↓reduceIte])
    exact ⟨(_, _, _), (evV_11 hk).symm, ⟨rfl, rfl, trivial⟩, (by rfl), (by trivial)⟩
   have hc14 := hc
   (refine AW.seq_k ?_; intro K hK)
   refine AW.region ?_
   (refine awP (op_eql rfl rfl rfl) ?_); (try simp only [nA, Nat.reduceBEq, Nat.reduceEqDiff, ↓reduceIte, Nat.reduceAdd, Nat.reduceSub])
   refine awP (op_assign rfl rfl) ?_; (simp only [nA])
   refine AWL.nil ?_
   (refine hK _ ?_; clear hK K; (skip))
   refine AW.cond rfl rfl rfl (fun hc => ?_) (fun hc => ?_)
   ·
    have hc15 := hc; have hk := of_decide_eq_true hc15; refine AW.gh (Gh.slot2 (r := 2) (es' := [evC (ev0 (evK l k)) (.ro []) (.own 32 [])]) rfl rfl (le_ko _)) ?_; (try simp only [nA, Nat.reduceBEq, Nat.reduceEqDiff, ↓reduceIte, Nat.reduceAdd, Nat.reduceSub])
    (refine AW.seq_k ?_; intro K hK)
    refine AW.region ?_
    refine awP (op_move rfl rfl) ?_; (simp only [nA, ↓reduceIte])
    refine awJ (op_call1 rfl en22 (C22 (k := rN l 1 k) (n := 6) hl (by decide)) (by exact rfl) (RL.cons .ptr (RL.cons (.base (by exact View.same rfl)) (RL.nil))) (by exact ⟨_, _, _, rfl, rfl, rfl⟩) (by exact rfl) (by exact rfl) (by exact rfl)) ?_; (try simp only [nA, Nat.reduceBEq, Nat.reduceEqDiff, ↓reduceIte, Nat.reduceAdd, Nat.reduceSub])
    refine awP (op_add (z := evD l k) rfl rfl rfl (by rw [IntKind.wrap_i64]; unfold evD; omega)) ?_; (try simp only [nA, Nat.reduceBEq, Nat.reduceEqDiff, ↓reduceIte, Nat.reduceAdd, Nat.reduceSub])
    (refine awP (op_fa_ptr rfl rfl rfl fl35_9 (by exact sz3) (by decide) rfl) ?_); (try simp only [nA, Nat.reduceBEq, Nat.reduceEqDiff, ↓reduceIte, Nat.reduceAdd, Nat.reduceSub])
    refine awJ (op_store rfl rfl rfl rfl rfl rfl sz3 rfl (bl rfl) rfl) ?_; (simp only [nA, ↓reduceIte])
    refine AWL.nil ?_
    (refine hK _ ?_; clear hK K; (skip))
    (refine AW.seq_k ?_; intro K hK)
    refine AW.region ?_
    refine awP (op_move rfl rfl) ?_; (simp only [nA, ↓reduceIte])
    refine awJ (op_call1 rfl en22 (C22 (k := rN l 2 k) (n := 6) hl (by decide)) (by exact rfl) (RL.cons .ptr (RL.cons (.base (by exact View.same rfl)) (RL.nil))) (by exact ⟨_, _, _, rfl, rfl, rfl⟩) (by exact rfl) (by exact rfl) (by exact rfl)) ?_; (try simp only [nA, Nat.reduceBEq, Nat.reduceEqDiff, ↓reduceIte, Nat.reduceAdd, Nat.reduceSub])
    refine awP (op_assign rfl rfl) ?_; (simp only [nA])
    refine AWL.nil ?_
    (refine hK _ ?_; clear hK K; (skip))
    refine AW.block ?_
    refine AW.loopI (fun (q : Nat × Nat × List Op × Nat) => [(0, .ptr 0 0 0 0), (2, .ptr 1 1 0 0), (3, .ptr 2 2 0 0), (5, .v (.int .i64 (q.1 : Nat)))]) (fun q => ⟨[(0, .own 68 [srcRow l q.2.1]), (1, .own 35 [evC (ev0 0) (.v (.slice none 0 0)) (.v (.slice none 0 0))]), (2, .own 35 [evC ({ ev0 (evK l k) with device := evD l k } : Ev) (.ro []) (.own 32 (q.2.2.1.map Op.av))])], q.2.2.2⟩) (fun q => q.1 ≤ 6 ∧ opsV l (evD l k) q.1 q.2.1 q.2.2.1 = opsV l (evD l k) (gmod (rawV l (rN l 2 k)) 6).toNat (rN l 3 k) [] ∧ q.2.2.1.length + q.1 ≤ 6) (fun q => q.1) ((gmod (rawV l (rN l 2 k)) 6).toNat, rN l 3 k, [], 3) ⟨by dsimp only; omega, rfl, by simp; omega⟩ ⟨rfl, rfl, rfl, by dsimp only; rw [Int.toNat_of_nonneg hg6.1]; rfl, trivial⟩ rfl ?_; rintro ⟨i, kk, acc, ep⟩ ρ ⟨hi, hR, hA⟩; dsimp only at hi hR hA ⊢; simp only [updL]
    (refine AW.seq_k ?_; intro K hK)
    (refine AW.seq_k ?_; intro K hK)
    refine AW.region ?_
    refine awP (op_move rfl rfl) ?_; (simp only [nA, ↓reduceIte])
    refine awP (op_gtr rfl rfl rfl) ?_; (try simp only [nA, Nat.reduceBEq, Nat.reduceEqDiff, ↓reduceIte, Nat.reduceAdd, Nat.reduceSub])
    refine AWL.nil ?_
    (refine hK _ ?_; clear hK K; (skip))
    refine AW.cond rfl rfl rfl (fun hc => ?_) (fun hc => ?_)
    ·
     have hc16 := hc; have hlt : 0 < i := (by have := of_decide_eq_true hc16; omega); obtain ⟨i, rfl⟩ : ∃ j, i = j + 1 := ⟨i - 1, by omega⟩; rw [show opsV l (evD l k) (i + 1) kk acc = opsV l (evD l k) i (rN l 7 kk) (acc ++ [opV l kk (evD l k)]) from rfl] at hR
     refine AW.skip ?_
     (refine hK _ ?_; clear hK K; (skip))
     (refine AW.seq_k ?_; intro K hK)
     refine AW.block ?_
     refine AW.ghE (GhE.unnest (r := 2) (row := evC ({ ev0 (evK l k) with device := evD l k } : Ev) (.ro []) (.own 32 (acc.map Op.av))) 0 27 rfl rfl rfl) ?_; intro u hu; (try simp only [nA, Nat.reduceBEq, Nat.reduceEqDiff, ↓reduceIte, Nat.reduceAdd, Nat.reduceSub])
     refine AW.aeo (fun T' => T'.slots[2]? = some (2, .own 35 [evC ({ ev0 (evK l k) with device := evD l k } : Ev) (.ro []) (.v u)])) mix rfl ?_
     refine aePo 0 rfl (fun T' ok => op_fa_ptr rfl rfl ok fl35_11 (by exact sz33) (by decide) rfl) rfl (by kernel_rfl) (by kernel_rfl) ?_; (simp only [nA, Nat.reduceBEq, Nat.reduceEqDiff, ↓reduceIte])
     refine aeRo 1 rfl (fun T' ok => op_load_ptr1 (row := evC ({ ev0 (evK l k) with device := evD l k } : Ev) (.ro []) (.v u)) rfl rfl ok rfl ag33 rfl rfl) rfl (by kernel_rfl) (by kernel_rfl) ?_; (try simp only [nA, Nat.reduceBEq, Nat.reduceEqDiff, ↓reduceIte, Nat.reduceAdd, Nat.reduceSub])
     refine aePo 2 rfl (fun T' ok => op_move rfl rfl) rfl (by kernel_rfl) (by kernel_rfl) ?_; (simp only [nA, ↓reduceIte])
     refine aePo 3 rfl (fun T' ok => op_fa_ptr rfl rfl ok fl35_9 (by exact sz3) (by decide) rfl) rfl (by kernel_rfl) (by kernel_rfl) ?_; (try simp only [nA, Nat.reduceBEq, Nat.reduceEqDiff, ↓reduceIte, Nat.reduceAdd, Nat.reduceSub])
     refine aeRo 4 rfl (fun T' ok => op_load_ptr1 (row := evC ({ ev0 (evK l k) with device := evD l k } : Ev) (.ro []) (.v u)) rfl rfl ok rfl ag3 rfl rfl) rfl (by kernel_rfl) (by kernel_rfl) ?_; (try simp only [nA, Nat.reduceBEq, Nat.reduceEqDiff, ↓reduceIte, Nat.reduceAdd, Nat.reduceSub])
     refine aeJo 5 rfl (op_call1 rfl en29 (C29 (k := kk) (d := evD l k) hl) (by exact rfl) (RL.cons .ptr (RL.cons (.base (by exact View.same rfl)) (RL.nil))) (by exact ⟨_, _, _, rfl, rfl, rfl⟩) (by exact rfl) (by exact rfl) (by exact rfl)) (by kernel_rfl) rfl ?_; (try simp only [nA, Nat.reduceBEq, Nat.reduceEqDiff, ↓reduceIte, Nat.reduceAdd, Nat.reduceSub])
     refine aeJo 6 rfl (OpJ.frz (op_buildSlice rfl [(0, (opV l kk (evD l k)).av)] [(opV l kk (evD l k)).av] Tryd.underlying33 ze32 rfl (by simp) rfl (by simp) rfl (bl rfl) (by simp [maxLen])) (op_flat [(opV l kk (evD l k))]) rfl) (by kernel_rfl) rfl ?_; (try simp only [nA, Nat.reduceBEq, Nat.reduceEqDiff, ↓reduceIte, Nat.reduceAdd, Nat.reduceSub])
     refine aeJo 7 rfl (OpJ.nm (t := 117) (r := 3) rfl rfl (op_app (rows := [(opV l kk (evD l k)).av]) rfl rfl rfl rfl (by simp) .ro Tryd.underlying33 ze32 (by decide) (by simp) (by simp; omega) (by decide) (es' := (acc ++ [(opV l kk (evD l k))]).map Op.av) (by simp) (n := (acc ++ [(opV l kk (evD l k))]).length) (by simp))) (by kernel_rfl) rfl ?_; (try simp only [nA, Nat.reduceBEq, Nat.reduceEqDiff, ↓reduceIte, Nat.reduceAdd, Nat.reduceSub])
     refine aePo 8 rfl (fun T' ok => op_fa_ptr rfl rfl ok fl35_11 (by exact sz33) (by decide) rfl) rfl (by kernel_rfl) (by kernel_rfl) ?_; (try simp only [nA, Nat.reduceBEq, Nat.reduceEqDiff, ↓reduceIte, Nat.reduceAdd, Nat.reduceSub])
     refine aeLo 9 rfl (op_store_nest (r := 2) (q := 3) rfl rfl rfl rfl (row := evC ({ ev0 (evK l k) with device := evD l k } : Ev) (.ro []) (.v u)) rfl sz33 rfl (by decide) (by simp) (by simp) (es2 := [evC ({ ev0 (evK l k) with device := evD l k } : Ev) (.ro []) (.own 32 ((acc ++ [(opV l kk (evD l k))]).map Op.av))]) rfl) (by kernel_rfl) (by kernel_rfl) ?_; (try simp only [nA, Nat.reduceBEq, Nat.reduceEqDiff, ↓reduceIte, Nat.reduceAdd, Nat.reduceSub])
     refine aeDoneo (by kernel_rfl) ?_
     (try simp only [thenE, inBlk, Nat.reduceEqDiff, ↓reduceIte])
     (refine hK _ ?_; clear hK K; (skip))
     refine AW.region ?_
     refine awP (op_move rfl rfl) ?_; (simp only [nA, ↓reduceIte])
     (refine awP (op_subi rfl rfl rfl (by omega)) ?_); (try simp only [nA, Nat.reduceBEq, Nat.reduceEqDiff, ↓reduceIte, Nat.reduceAdd, Nat.reduceSub])
     refine awP (op_assign rfl rfl) ?_; (simp only [nA])
     refine AWL.gh (Gh.drop 3) ?_; (try simp only [nA, Nat.reduceBEq, Nat.reduceEqDiff, ↓reduceIte, Nat.reduceAdd, Nat.reduceSub])
     refine AWL.nil ?_
     refine ⟨(i, rN l 7 kk, acc ++ [(opV l kk (evD l k))], _), ⟨by dsimp only; omega, hR, by dsimp only; rw [List.length_append]; simp only [List.length_cons, List.length_nil]; omega⟩, by dsimp only; omega, ⟨rfl, rfl, rfl, by dsimp only; exact congrArg (fun z => AV.v (.int .i64 z)) (by omega), trivial⟩, (by rfl), (by rfl)⟩
    have hc16 := hc; have hi0 : i = 0 := (by have := of_decide_eq_false hc16; omega); subst hi0; rw [show opsV l (evD l k) 0 kk acc = (acc, kk) from rfl] at hR; refine AW.gh (Gh.freezeC (r := 2) 0 27 rfl rfl rfl (op_flat _) rfl) ?_; (try simp only [nA, Nat.reduceBEq, Nat.reduceEqDiff, ↓reduceIte, Nat.reduceAdd, Nat.reduceSub])
    refine AW.exit ?_; (try simp only [thenE, inBlk, Nat.reduceEqDiff, ↓reduceIte])
    clear hK K
    (try simp only [thenE, inBlk, Nat.reduceEqDiff, ↓reduceIte])
    exact ⟨(_, _, _), (by rw [evV_12 hk, ← hR]), ⟨rfl, rfl, trivial⟩, (by rfl), (by trivial)⟩
   have hc15 := hc
   (refine AW.seq_k ?_; intro K hK)
   refine AW.region ?_
   (refine awP (op_eql rfl rfl rfl) ?_); (try simp only [nA, Nat.reduceBEq, Nat.reduceEqDiff, ↓reduceIte, Nat.reduceAdd, Nat.reduceSub])
   refine awP (op_assign rfl rfl) ?_; (simp only [nA])
   refine AWL.nil ?_
   (refine hK _ ?_; clear hK K; (skip))
   refine AW.cond rfl rfl rfl (fun hc => ?_) (fun hc => ?_)
   ·
    have hc17 := hc; have hk := of_decide_eq_true hc17; refine AW.gh (Gh.slot (r := 2) (es' := [(ev0 (evK l k)).av]) rfl rfl (le_ev0s (evK l k))) ?_; (try simp only [nA, Nat.reduceBEq, Nat.reduceEqDiff, ↓reduceIte, Nat.reduceAdd, Nat.reduceSub])
    refine AW.region ?_
    refine awP (op_move rfl rfl) ?_; (simp only [nA, ↓reduceIte])
    refine awJ (op_call1 rfl en28 (C28 (k := rN l 1 k) hl) (by exact rfl) (RL.cons .ptr (RL.nil)) (by exact ⟨_, _, _, rfl, rfl, rfl⟩) (by exact rfl) (by exact rfl) (by exact rfl)) ?_; (try simp only [nA, Nat.reduceBEq, Nat.reduceEqDiff, ↓reduceIte, Nat.reduceAdd, Nat.reduceSub])
    (refine awP (op_fa_ptr rfl rfl rfl fl35_12 (by exact sz26) (by decide) rfl) ?_); (try simp only [nA, Nat.reduceBEq, Nat.reduceEqDiff, ↓reduceIte, Nat.reduceAdd, Nat.reduceSub])
    refine awJ (op_store rfl rfl rfl rfl rfl rfl sz26 rfl (bl rfl) rfl) ?_; (try simp only [nA, Nat.reduceBEq, Nat.reduceEqDiff, ↓reduceIte, Nat.reduceAdd, Nat.reduceSub])
    refine AWL.nil ?_
    (try simp only [thenE, inBlk, Nat.reduceEqDiff, ↓reduceIte])
    exact ⟨(_, _, _), (evV_13 hk).symm, ⟨rfl, rfl, trivial⟩, (by rfl), (by trivial)⟩
   have hc17 := hc; refine AW.gh (Gh.slot (r := 2) (es' := [(ev0 (evK l k)).av]) rfl rfl (le_ev0s (evK l k))) ?_; (try simp only [nA, Nat.reduceBEq, Nat.reduceEqDiff, ↓reduceIte, Nat.reduceAdd, Nat.reduceSub])
   refine AW.skip ?_
   (try simp only [thenE, inBlk, Nat.reduceEqDiff, ↓reduceIte])
   exact ⟨(_, _, _), (evV_0 (by have h2 : ¬ ((evK l k) = 2 ∨ (evK l k) = 10) := (fun h => by have := hb2.2 h; rw [this] at hc3; cases hc3); have h6 : ¬ ((evK l k) = 6 ∨ (evK l k) = 7) := (fun h => by have := hb6.2 h; rw [this] at hc10; cases hc10); have h8 : ¬ ((evK l k) = 8 ∨ (evK l k) = 9) := (fun h => by have := hb8.2 h; rw [this] at hc12; cases hc12); exact ⟨of_decide_eq_false hc1, h2, of_decide_eq_false hc4, of_decide_eq_false hc7, of_decide_eq_false hc8, h6, h8, of_decide_eq_false hc14, of_decide_eq_false hc15, of_decide_eq_false hc17⟩)).symm, ⟨rfl, rfl, trivial⟩, (by rfl), (by trivial)⟩
  rintro ⟨y, kk, ep⟩ ρ hy; dsimp only at hy ⊢; rw [← hy]; simp only [updL]
  (refine AW.seq_k ?_; intro K hK)
  refine AW.region ?_
  (refine awR (op_load_ptr rfl rfl rfl rfl ag35 sz35 (bl rfl) rfl) ?_); (try simp only [nA, Nat.reduceBEq, Nat.reduceEqDiff, ↓reduceIte, Nat.reduceAdd, Nat.reduceSub])
  refine awJ (op_store rfl rfl rfl rfl rfl rfl sz35 rfl (bl rfl) rfl) ?_; (try simp only [nA, Nat.reduceBEq, Nat.reduceEqDiff, ↓reduceIte, Nat.reduceAdd, Nat.reduceSub])
  refine AWL.nil ?_
  (refine hK _ ?_; clear hK K; (skip))
  skip
  refine AW.ret ?_; (try simp only [thenE, inBlk, Nat.reduceEqDiff, ↓reduceIte]); exact RQ.of (.inl rfl) rfl (.cell (bl rfl) rfl rfl rfl ag35 sz35 (bl rfl) rfl rfl .nil) (by simp) rfl (one_out rfl)
end Go.Proofs.YtfmnaigedgmhoaaDoor
namespace Go.Proofs.YtfmnaigedgmhoaaDoor
open Go.RowKit
set_option linter.unusedSimpArgs false
set_option linter.unusedVariables false
set_option maxRecDepth 100000
theorem textV_mem {l : List Int} {k : Nat} {ss : List ByteArray} (h : 1 ≤ ss.length) : textV l k ss ∈ ss := by
  have hg := gmod_bd (x := rawV l k) (n := (ss.length : Nat)) (by omega)
  unfold textV
  rw [List.getD_eq_getElem?_getD, List.getElem?_eq_getElem (by omega)]
  exact List.getElem_mem _
theorem plates_ok (i : Int) : plB (platesP i) = true := by
  have hg := gmod_bd (x := i) (n := 1000) (by decide)
  unfold plB platesP
  simp only [Bool.and_eq_true, decide_eq_true_eq]
  omega
theorem piece_ok (l : List Int) (k : Nat) : piB (pieceV l k 1000) = true := by
  have hg := gmod_bd (x := rawV l (rawN l k)) (n := 40) (by decide)
  have hc : ∀ c ∈ catsL, 0 ≤ c ∧ c ≤ 4 := by decide
  have h2 := hc _ (pickV_mem (l := l) (k := rawN l (rawN l k)) (xs := catsL) (by decide))
  unfold piB
  rw [show (pieceV l k 1000).plate = platesP (gmod (rawV l k) 1000) from rfl, plates_ok, Bool.true_and, Bool.and_eq_true, inB_iff, inB_iff]
  exact ⟨⟨by show (1 : Int) ≤ 1 + _; omega, by show 1 + _ ≤ (999 : Int); omega⟩, h2⟩
theorem op_ok (l : List Int) (k : Nat) {d : Int} (hd : 1 ≤ d ∧ d ≤ 6) (kd : Int) (hk : kd = 1 ∨ kd = 2) : opB { opV l k d with kind := kd } = true := by
  have h0 := gmod_bd (x := rawV l k) (n := 1048577) (by decide)
  have h1 := gmod_bd (x := rawV l (rN l 1 k)) (n := 99) (by decide)
  have h3 := gmod_bd (x := rawV l (rN l 3 k)) (n := 999) (by decide)
  have a1 : inB (gmod (rawV l k) 1048577) 0 1048576 = true := inB_iff.2 (by omega)
  have a2 : inB d 1 6 = true := inB_iff.2 hd
  have a3 : inB (1 + gmod (rawV l (rN l 1 k)) 99) 1 1048576 = true := inB_iff.2 (by omega)
  have a4 : inB (1 + gmod (rawV l (rN l 3 k)) 999) 1 999 = true := inB_iff.2 (by omega)
  unfold opB
  rw [if_neg (by show ¬ ((!inB (gmod (rawV l k) 1048577) 0 1048576 || !inB d 1 6) || !inB (1 + gmod (rawV l (rN l 1 k)) 99) 1 1048576) = true; rw [a1, a2, a3]; decide)]
  show (((decide (kd = 1) || decide (kd = 2)) && inB (1 + gmod (rawV l (rN l 3 k)) 999) 1 999) && piB (pieceV l (rN l 4 k) 1000)) = true
  rw [a4, piece_ok]
  rcases hk with rfl | rfl <;> rfl
theorem op_ok0 (l : List Int) (k : Nat) {d : Int} (hd : 1 ≤ d ∧ d ≤ 6) : opB (opV l k d) = true := by
  have h2 := gmod_bd (x := rawV l (rN l 2 k)) (n := 2) (by decide)
  exact op_ok l k hd (1 + gmod (rawV l (rN l 2 k)) 2) (by omega)
theorem fl_ok (l : List Int) (k : Nat) : flB (flS l k) = true := by
  have h1 := gmod_bd (x := rawV l (rawN l k)) (n := 3) (by decide)
  have h2 := gmod_bd (x := rawV l (rawN l (rawN l k))) (n := 3) (by decide)
  have hc : ∀ s ∈ carL, carB s = true := by decide
  have h3 := hc _ (textV_mem (l := l) (k := k) (ss := carL) (by decide))
  have h4 : lettersB (⟨#[]⟩ : ByteArray) 0 1 = true := by decide
  unfold flB
  rw [show (flS l k).carrier = textV l k carL from rfl, h3, show (flS l k).suffix = (⟨#[]⟩ : ByteArray) from rfl, h4]
  simp only [Bool.true_and, Bool.and_true, Bool.and_eq_true, decide_eq_true_eq]
  omega
structure RGood (n : Nat) (acc : List Report) : Prop where
  all : ∀ r ∈ acc, rpB r = true
  lt : ∀ r ∈ acc, r.device < (n : Int)
  asc : acc.Pairwise fun a b => a.device < b.device
  len : acc.length ≤ n
theorem reps_good (l : List Int) : ∀ (n k : Nat) (acc : List Report), n ≤ 24 → RGood (24 - n) acc → RGood 24 (repsV l n k acc).1
  | 0, _, _, _, h => h
  | n + 1, k, acc, hn, h => by
    have step : RGood (24 - n) acc := ⟨h.all, fun r hr => by have := h.lt r hr; omega, h.asc, by have := h.len; omega⟩
    show RGood 24 (if gmod (rawV l k) 6 = 5 then repsV l n (rN l 3 k) _ else repsV l n (rN l 1 k) acc).1
    split
    · refine reps_good l n _ _ (by omega) ⟨fun r hr => ?_, fun r hr => ?_, ?_, ?_⟩
      · rcases List.mem_append.1 hr with hr | hr
        · exact h.all r hr
        obtain rfl : r = _ := by simpa using hr
        have hc : ∀ s ∈ rpT, rdB s = true := by decide
        unfold rpB
        rw [hc _ (textV_mem (by decide)), Bool.and_true]
        exact inB_iff.2 (by dsimp only; omega)
      · rcases List.mem_append.1 hr with hr | hr
        · have := h.lt r hr; omega
        obtain rfl : r = _ := by simpa using hr
        dsimp only
        omega
      · rw [List.pairwise_append]
        refine ⟨h.asc, List.pairwise_singleton _ _, fun a ha b hb => ?_⟩
        obtain rfl : b = _ := by simpa using hb
        have := h.lt a ha
        dsimp only
        omega
      rw [List.length_append, List.length_singleton]
      have := h.len
      omega
    exact reps_good l n _ _ (by omega) step
theorem asc_of {l : List Report} (h : l.Pairwise fun a b => a.device < b.device) : ascR l = true := by
  refine asc_yes (i := l.length) (by omega) fun k h1 h2 => ?_
  rw [getD_of (by omega), getD_of h2]
  exact List.pairwise_iff_getElem.1 h (k - 1) k (by omega) h2 (by omega)
theorem opsV_good (l : List Int) {d : Int} (hd : 1 ≤ d ∧ d ≤ 6) : ∀ (n k : Nat) (acc : List Op), (∀ o ∈ acc, opB o = true ∧ o.device = d) → acc.length + n ≤ 6 → (∀ o ∈ (opsV l d n k acc).1, opB o = true ∧ o.device = d) ∧ (opsV l d n k acc).1.length ≤ 6
  | 0, _, _, h, hl => ⟨h, hl⟩
  | n + 1, k, acc, h, hl => by
    refine opsV_good l hd n (rN l 7 k) (acc ++ [opV l k d]) (fun o ho => ?_) (by rw [List.length_append, List.length_singleton]; omega)
    rcases List.mem_append.1 ho with ho | ho
    · exact h o ho
    obtain rfl : o = _ := by simpa using ho
    exact ⟨op_ok0 l k hd, rfl⟩
theorem mem1 {f : Nat → Bool} {p : Nat} (h : f p = true) : ∀ q ∈ [p], f q = true := fun q hq => by
  obtain rfl : q = p := by simpa using hq
  exact h
theorem mem2 {f : Nat → Bool} {p r : Nat} (h : f p = true) (h2 : f r = true) : ∀ q ∈ [p, r], f q = true := fun q hq => by
  simp only [List.mem_cons, List.not_mem_nil, or_false] at hq
  rcases hq with rfl | rfl
  · exact h
  exact h2
theorem z3 : (0 ≤ 2048) ∧ (0 ≤ 24) ∧ (0 ≤ 60) := by decide
theorem ev_good (l : List Int) (k : Nat) : Good (evV l k).1 := by
  have hK : 1 ≤ evK l k ∧ evK l k ≤ 14 := by
    have := gmod_bd (x := rawV l k) (n := 14) (by decide)
    unfold evK; omega
  have hD : 1 ≤ evD l k ∧ evD l k ≤ 6 := by
    have := gmod_bd (x := rawV l (rN l 1 k)) (n := 6) (by decide)
    unfold evD; omega
  have n24 : ∀ j, inB (gmod (rawV l j) 24) 0 23 = true := fun j => by
    have := gmod_bd (x := rawV l j) (n := 24) (by decide)
    exact inB_iff.2 (by omega)
  have nM : ∀ j, inB (gmod (rawV l j) 1048577) 0 1048576 = true := fun j => by
    have := gmod_bd (x := rawV l j) (n := 1048577) (by decide)
    exact inB_iff.2 (by omega)
  rcases kind_cases hK with h | h | h | h | h | h | h | h | h | h | h | h | h | h
  · rw [evV_1 h, h]
    have ht : ∀ s ∈ evT, s.size ≤ 2048 := by decide
    exact ⟨(by decide : (1 : Int) ≤ 1 ∧ (1 : Int) ≤ 14), rfl, ⟨ht _ (textV_mem (by decide)), Nat.zero_le _, Nat.zero_le _⟩, mem1 rfl, rfl⟩
  · rw [evV_2 (.inl h), h]
    exact ⟨(by decide : (1 : Int) ≤ 2 ∧ (2 : Int) ≤ 14), rfl, z3, mem2 (plates_ok _) (n24 _), rfl⟩
  · rw [evV_3 h, h]
    have hr := reps_good l 24 (rN l 2 k) [] (by decide) ⟨by simp, by simp, .nil, by simp⟩
    have ht : ∀ c ∈ tmL, inB c 0 1048576 = true := by decide
    exact ⟨(by decide : (1 : Int) ≤ 3 ∧ (3 : Int) ≤ 14), rfl, ⟨Nat.zero_le _, hr.len, Nat.zero_le _⟩, mem2 (ht _ (pickV_mem (by decide))) (List.all_eq_true.2 hr.all), asc_of hr.asc⟩
  · rw [evV_4 h, h]
    exact ⟨(by decide : (1 : Int) ≤ 4 ∧ (4 : Int) ≤ 14), rfl, z3, mem2 (nM _) rfl, rfl⟩
  · rw [evV_5 h, h]
    have hg := gmod_bd (x := rawV l (rN l 1 k)) (n := 5) (by decide)
    refine ⟨(by decide : (1 : Int) ≤ 5 ∧ (5 : Int) ≤ 14), rfl, z3, mem1 ?_, rfl⟩
    show ((inB (1 + gmod (rawV l (rN l 1 k)) 5) 1 5 && inB (gmod (rawV l (rN l 2 k)) 1048577) 0 1048576) && flB (flS l (rN l 3 k))) = true
    rw [nM, fl_ok, Bool.and_true, Bool.and_true]
    exact inB_iff.2 (by omega)
  · rw [evV_6 (.inl h), h]
    exact ⟨(by decide : (1 : Int) ≤ 6 ∧ (6 : Int) ≤ 14), rfl, z3, mem1 (n24 _), rfl⟩
  · rw [evV_6 (.inr h), h]
    exact ⟨(by decide : (1 : Int) ≤ 7 ∧ (7 : Int) ≤ 14), rfl, z3, mem1 (n24 _), rfl⟩
  · rw [evV_8 h, h]
    refine ⟨(by decide : (1 : Int) ≤ 8 ∧ (8 : Int) ≤ 14), rfl, z3, mem2 ?_ (n24 _), rfl⟩
    show (opB { opV l (rN l 2 k) (evD l k) with kind := 1 } && true) = true
    rw [op_ok l _ hD 1 (.inl rfl)]; rfl
  · rw [evV_9 h, h]
    refine ⟨(by decide : (1 : Int) ≤ 9 ∧ (9 : Int) ≤ 14), rfl, z3, mem1 ?_, rfl⟩
    show (opB { opV l (rN l 2 k) (evD l k) with kind := 2 } && true) = true
    rw [op_ok l _ hD 2 (.inr rfl)]; rfl
  · rw [evV_2 (.inr h), h]
    exact ⟨(by decide : (1 : Int) ≤ 10 ∧ (10 : Int) ≤ 14), rfl, z3, mem2 (plates_ok _) (n24 _), rfl⟩
  · rw [evV_11 h, h]
    exact ⟨(by decide : (1 : Int) ≤ 11 ∧ (11 : Int) ≤ 14), rfl, z3, mem1 (inB_iff.2 hD), rfl⟩
  · rw [evV_12 h, h]
    have hg := gmod_bd (x := rawV l (rN l 2 k)) (n := 6) (by decide)
    have ho := opsV_good l hD (gmod (rawV l (rN l 2 k)) 6).toNat (rN l 3 k) [] (by simp) (by simp; omega)
    refine ⟨(by decide : (1 : Int) ≤ 12 ∧ (12 : Int) ≤ 14), rfl, ⟨Nat.zero_le _, Nat.zero_le _, Nat.le_trans ho.2 (by decide)⟩, mem2 (inB_iff.2 hD) (List.all_eq_true.2 fun o hm => ?_), rfl⟩
    rw [(ho.1 o hm).1, Bool.true_and]
    exact decide_eq_true (ho.1 o hm).2
  · rw [evV_13 h, h]
    exact ⟨(by decide : (1 : Int) ≤ 13 ∧ (13 : Int) ≤ 14), rfl, z3, mem1 (fl_ok _ _), rfl⟩
  rw [evV_0 (by omega), h]
  exact ⟨(by decide : (1 : Int) ≤ 14 ∧ (14 : Int) ≤ 14), rfl, z3, (fun p hp => by cases hp), rfl⟩
theorem Good.sm {x : Ev} (h : Good x) : x.Sm := by
  have hl := h.lim
  refine ⟨by omega, by omega, by omega, fun r hr => ?_⟩
  by_cases h6 : 6 ∈ fieldsL x.kind
  · have := (rp_good (List.all_eq_true.1 (h.pr 6 h6) r hr)).2
    omega
  have h0 : x.reports = [] := by
    have := (only_lists (fieldsL x.kind) x (ev0 x.kind)).1 h6
    rw [show onlyP (fieldsL x.kind) x (ev0 x.kind) = x from h.only.symm] at this
    exact this
  rw [h0] at hr; cases hr
end Go.Proofs.YtfmnaigedgmhoaaDoor
namespace Go.Proofs.YtfmnaigedgmhoaaDoor
open Go.RowKit
set_option linter.unusedSimpArgs false
set_option linter.unusedVariables false
set_option maxRecDepth 100000
def spT : List ByteArray := [⟨#[]⟩, ⟨#[63]⟩, ⟨#[63, 63, 63, 63, 63, 63, 63, 63, 63, 63]⟩]
def spJ (l : List Int) (k : Nat) : Int := gmod (rawV l k) 13
def spV (l : List Int) (k : Nat) (x : Ev) : Ev × Nat :=
  if spJ l k = 0 then ({ x with kind := pickV l (rN l 1 k) ([-1, 0, 1, 2, 3, 14, 15] : List Int) }, rN l 2 k)
  else if spJ l k = 1 then ({ x with time := pickV l (rN l 1 k) ([-1, 1, 1048576, 1048577] : List Int) }, rN l 2 k)
  else if spJ l k = 2 then ({ x with text := x.text ++ ⟨#[120]⟩ }, rN l 1 k)
  else if spJ l k = 3 then ({ x with plate := { x.plate with airline := pickV l (rN l 1 k) ([0, 1, 999, 1000] : List Int) } }, rN l 2 k)
  else if spJ l k = 4 then ({ x with node := pickV l (rN l 1 k) ([-1, 0, 23, 24] : List Int) }, rN l 2 k)
  else if spJ l k = 5 then ({ x with image := pickV l (rN l 1 k) ([-1, 1048576, 1048577] : List Int) }, rN l 2 k)
  else if spJ l k = 6 then ({ x with clear := !x.clear }, rN l 1 k)
  else if spJ l k = 7 then ({ x with reports := x.reports ++ [(⟨pickV l (rN l 1 k) ([-1, 0, 23, 24] : List Int), false, textV l (rN l 2 k) spT⟩ : Report)] }, rN l 3 k)
  else if spJ l k = 8 then ({ x with rev := { x.rev with amount := pickV l (rN l 1 k) ([-1, 0, 1048576, 1048577] : List Int) } }, rN l 2 k)
  else if spJ l k = 9 then ({ x with device := pickV l (rN l 1 k) ([0, 1, 6, 7] : List Int) }, rN l 2 k)
  else if spJ l k = 10 then ({ x with op := { x.op with kind := gmod (rawV l (rN l 1 k)) 4 } }, rN l 2 k)
  else if spJ l k = 11 then ({ x with ops := x.ops ++ [(opV l (rN l 2 k) (1 + gmod (rawV l (rN l 1 k)) 3))] }, rN l 9 k)
  else ({ x with fl := { x.fl with day := pickV l (rN l 1 k) ([0, 1, 99, 100] : List Int) } }, rN l 2 k)
section
variable {l : List Int} {k : Nat} {x : Ev}
end
end Go.Proofs.YtfmnaigedgmhoaaDoor
namespace Go.Proofs.YtfmnaigedgmhoaaDoor
open Go.RowKit
set_option linter.unusedSimpArgs false
set_option linter.unusedVariables false
inductive Sh where
  | int (k : IntKind)
  | str
  | bool
  | sl (row : List Sh)
inductive Mt : AV → Sh → Prop
  | int {k : IntKind} {n : Int} (h : (Lit.int k n).wf = true) : Mt (.v (.int k n)) (.int k)
  | str {s : ByteArray} (h : s.size ≤ maxLen) : Mt (.v (.string s)) .str
  | bool {b : Bool} : Mt (.v (.bool b)) .bool
  | sl {row : List Sh} {es : List (List AV)} (hs : es.length ≤ maxLen) (h : ∀ e ∈ es, e.length = row.length) (hc : ∀ e ∈ es, ∀ (i : Nat) (x : AV) (s : Sh), e[i]? = some x → row[i]? = some s → Mt x s) : Mt (.ro es) (.sl row)
theorem Mt.rows {es : List (List AV)} {row : List Sh} (h : Mt (.ro es) (.sl row)) : ∀ e ∈ es, RL Mt e row := by
  cases h with
  | sl hs h hc => exact fun e he => ⟨h e he, hc e he⟩
theorem rows_of {α : Type} {f : α → List AV} : ∀ {es : List (List AV)}, (∀ e ∈ es, ∃ p, e = f p) → ∃ ps : List α, es = ps.map f
  | [], _ => ⟨[], rfl⟩
  | e :: es, h => by
    obtain ⟨p, rfl⟩ := h e (by simp)
    obtain ⟨ps, rfl⟩ := rows_of (es := es) fun e he => h e (by simp [he])
    exact ⟨p :: ps, rfl⟩
def fieldsSh (sh : TypeId → Option (List Sh)) (P : Program) : Nat → List Field → Option (List Sh)
  | _, [] => some []
  | o, f :: fs => if f.offset = o then (sh f.type).bind fun r => if r.length = P.cellsOf f.type then (fieldsSh sh P (o + r.length) fs).map (r ++ ·) else none else none
def copies (r : List Sh) : Nat → List Sh
  | 0 => []
  | n + 1 => r ++ copies r n
def shOf (P : Program) : Nat → TypeId → Option (List Sh)
  | 0, _ => none
  | n + 1, t => match P.underlying t with
    | some (.int k) => some [.int k]
    | some .string => some [.str]
    | some .bool => some [.bool]
    | some (.slice e) => (shOf P n e).map fun r => [.sl r]
    | some (.struct fs) => (fieldsSh (shOf P n) P 0 fs.toList).bind fun r => if r.length = P.cellsOf t then some r else none
    | some (.array k e) => (shOf P n e).bind fun r => if r.length = P.cellsOf e ∧ P.cellsOf t = k * P.cellsOf e then some (copies r k) else none
    | _ => none
theorem RL.cons' {α β : Type} {R : α → β → Prop} {us : List α} {xs : List β} {u : α} (h : RL R (u :: us) xs) : ∃ x xs', xs = x :: xs' ∧ R u x ∧ RL R us xs' := by
  cases xs with
  | nil => have := h.1; simp at this
  | cons x xs => exact ⟨x, xs, rfl, h.2 0 u x rfl rfl, by have := h.1; simpa using this, fun i a b ha hb => h.2 (i + 1) a b (by simpa using ha) (by simpa using hb)⟩
theorem take_split {α : Type} (l : List α) (o m n : Nat) : (l.drop o).take (m + n) = (l.drop o).take m ++ (l.drop (o + m)).take n := by
  rw [List.take_add, List.drop_drop]
theorem flat_idx {α : Type} {sz : Nat} : ∀ {es : List (List α)}, (∀ e ∈ es, e.length = sz) → ∀ {j : Nat}, j < es.flatten.length → ∃ e u, es[j / sz]? = some e ∧ e[j % sz]? = some u ∧ es.flatten[j]? = some u
  | [], _, j, h => by simp at h
  | e :: es, hs, j, h => by
    have he : e.length = sz := hs e (by simp)
    have hs' : ∀ e ∈ es, e.length = sz := fun e he => hs e (by simp [he])
    rw [List.flatten_cons] at h ⊢
    by_cases hj : j < sz
    · rw [List.getElem?_append_left (by omega), Nat.div_eq_of_lt hj, Nat.mod_eq_of_lt hj]
      exact ⟨e, e[j]'(by omega), rfl, List.getElem?_eq_getElem _, List.getElem?_eq_getElem _⟩
    rw [List.length_append] at h
    obtain ⟨e1, u, h1, h2, h3⟩ := flat_idx hs' (j := j - sz) (by omega)
    have h0 : 0 < sz := by
      rcases Nat.eq_zero_or_pos sz with h0 | h0
      · subst h0
        have : es.flatten = [] := List.flatten_eq_nil_iff.2 fun e he => List.eq_nil_of_length_eq_zero (hs' e he)
        rw [this] at h
        simp at h
        omega
      exact h0
    rw [List.getElem?_append_right (by omega), he, Nat.div_eq_sub_div h0 (by omega), Nat.mod_eq_sub_mod (by omega)]
    exact ⟨e1, u, by simpa using h1, h2, h3⟩
section
variable {H : Type} {enc : TypeId × Value → H} {P : Program} {w : World} {base : Nat} {spare : Nat → Bool} {held : Bool}
theorem fields_open {S : Nat → Prop} {sh : TypeId → Option (List Sh)} {n : Nat} {cs : List Value} (ih : ∀ t cs x r, sh t = some r → DataW.trod enc P w base spare held n t cs = some x → ∃ xs, RL (Rep P S w []) cs xs ∧ RL Mt xs r) :
    ∀ (fs : List Field) (o : Nat) (r : List Sh), fieldsSh sh P o fs = some r → (∀ f ∈ fs, ∃ y, DataW.trod enc P w base spare held n f.type ((cs.drop f.offset).take (P.cellsOf f.type)) = some y) →
      ∃ xs, RL (Rep P S w []) ((cs.drop o).take r.length) xs ∧ RL Mt xs r
  | [], o, r, h, _ => by
    simp only [fieldsSh, Option.some.injEq] at h
    subst h
    exact ⟨[], by simpa using RL.nil, RL.nil⟩
  | f :: fs, o, r, h, hf => by
    unfold fieldsSh at h
    split at h
    · rename_i ho
      obtain ⟨r1, h1, h2⟩ := Option.bind_eq_some_iff.1 h
      split at h2
      · rename_i hl
        obtain ⟨r2, h3, h4⟩ := Option.map_eq_some_iff.1 h2
        subst h4
        obtain ⟨y, hy⟩ := hf f (by simp)
        obtain ⟨xs1, a1, a2⟩ := ih _ _ _ _ h1 hy
        obtain ⟨xs2, b1, b2⟩ := fields_open ih fs (o + r1.length) r2 h3 fun f hf' => hf f (by simp [hf'])
        refine ⟨xs1 ++ xs2, ?_, a2.append b2⟩
        rw [List.length_append, take_split]
        rw [ho, ← hl] at a1
        exact a1.append b1
      cases h2
    cases h
theorem copies_open {S : Nat → Prop} {r : List Sh} {n c : Nat} {e : TypeId} {cs : List Value} (hr : r.length = c) (ih : ∀ cs x, DataW.trod enc P w base spare held n e cs = some x → ∃ xs, RL (Rep P S w []) cs xs ∧ RL Mt xs r) :
    ∀ (m o : Nat), (∀ i, i < m → ∃ y, DataW.trod enc P w base spare held n e ((cs.drop (o + i * c)).take c) = some y) → ∃ xs, RL (Rep P S w []) ((cs.drop o).take (m * c)) xs ∧ RL Mt xs (copies r m)
  | 0, o, _ => ⟨[], by simpa using RL.nil, RL.nil⟩
  | m + 1, o, h => by
    obtain ⟨y, hy⟩ := h 0 (by omega)
    rw [Nat.zero_mul, Nat.add_zero] at hy
    obtain ⟨xs1, a1, a2⟩ := ih _ _ hy
    obtain ⟨xs2, b1, b2⟩ := copies_open hr ih m (o + c) fun i hi => by
      have := h (i + 1) (by omega)
      rw [show o + (i + 1) * c = o + c + i * c by rw [Nat.succ_mul]; omega] at this
      exact this
    refine ⟨xs1 ++ xs2, ?_, a2.append b2⟩
    rw [Nat.succ_mul, Nat.add_comm (m * c) c, take_split]
    exact a1.append b1
theorem Rep.small {S : Nat → Prop} {A : Option Addr} {len c : Nat} {es : List (List AV)} (h : Rep P S w [] (.slice A len c) (.ro es)) : es.length ≤ maxLen := by
  obtain ⟨-, A', c', sz, us, e, h1, h2, -⟩ := h.ro_inv
  exact Nat.le_trans h1 h2
theorem open_sh : ∀ (m fuel : Nat) (t : TypeId) (cs : List Value) (x : DataW H × List MemPlace) (r : List Sh), shOf P m t = some r → DataW.trod enc P w base spare held fuel t cs = some x → ∃ xs, RL (Rep P (fun k => k < w.heap.size) w []) cs xs ∧ RL Mt xs r
  | 0, _, _, _, _, _, h, _ => by simp [shOf] at h
  | m + 1, fuel, t, cs, x, r, h, hx => by
    unfold shOf at h
    split at h
    · rename_i k ht
      injection h with h; subst h
      obtain ⟨n, rfl, _, hw⟩ := DataW.trod_int ht hx
      exact ⟨_, .cons (.v rfl) .nil, .cons (.int hw) .nil⟩
    · rename_i ht
      injection h with h; subst h
      obtain ⟨s, rfl, _, hw⟩ := DataW.trod_string ht hx
      exact ⟨_, .cons (.v rfl) .nil, .cons (.str hw) .nil⟩
    · rename_i ht
      injection h with h; subst h
      obtain ⟨b, rfl, _⟩ := DataW.trod_bool ht hx
      exact ⟨_, .cons (.v rfl) .nil, .cons .bool .nil⟩
    · rename_i e ht
      obtain ⟨row, h1, h2⟩ := Option.map_eq_some_iff.1 h
      subst h2
      rcases Go.Deep.open_slice ht hx with ⟨rfl, _⟩ | ⟨a, len, cap, mm, n, D, Pl, rfl, hb, hl, hm, hmm, _, hel⟩
      · exact ⟨_, .cons rep_ro_nil .nil, .cons (.sl (Nat.zero_le _) (by simp) (by simp)) .nil⟩
      have hlm : len ≤ mm := by rw [hmm]; split <;> omega
      have key : ∀ i, i < len → ∃ p : List Value × List AV, w.cells? base (a.add (i * P.cellsOf e)) (P.cellsOf e) = some p.1 ∧ RL (Rep P (fun k => k < w.heap.size) w []) p.1 p.2 ∧ RL Mt p.2 row := fun i hi => by
        obtain ⟨cs', c1, c2⟩ := hel i (by omega)
        obtain ⟨xs, c3, c4⟩ := open_sh m _ _ _ _ _ h1 c2
        exact ⟨(cs', xs), c1, c3, c4⟩
      obtain ⟨F, hF⟩ := Go.Deep.choose_lt key
      have lv : ∀ l ∈ (List.range len).map (fun i => (F i).1), l.length = P.cellsOf e := fun l hl' => by
        obtain ⟨i, hi, rfl⟩ := List.mem_map.1 hl'
        exact (World.cells?_some (hF i (List.mem_range.1 hi)).1).2.1
      have lx : ∀ l ∈ (List.range len).map (fun i => (F i).2), l.length = P.cellsOf e := fun l hl' => by
        obtain ⟨i, hi, rfl⟩ := List.mem_map.1 hl'
        rw [← (hF i (List.mem_range.1 hi)).2.1.1]
        exact (World.cells?_some (hF i (List.mem_range.1 hi)).1).2.1
      have hlen : ((List.range len).map fun i => (F i).2).length = len := by simp
      have hfl : ((List.range len).map fun i => (F i).1).flatten.length = ((List.range len).map fun i => (F i).2).flatten.length := by
        rw [List.length_flatten, List.length_flatten]
        congr 1
        rw [List.map_map, List.map_map]
        exact List.map_congr_left fun i hi => (hF i (List.mem_range.1 hi)).2.1.1
      have hrep : Rep P (fun k => k < w.heap.size) w [] (.slice (some a) ((List.range len).map fun i => (F i).2).length cap) (.ro ((List.range len).map fun i => (F i).2)) := by
        refine Rep.ro (sz := P.cellsOf e) (us := ((List.range len).map fun i => (F i).1).flatten) (by rw [hlen]; exact hl) hm lx (fun hn => ?_) hfl fun i u x hu hx' => ?_
        · have hget : ∀ j u, ((List.range len).map fun i => (F i).1).flatten[j]? = some u → w.cell? (a.add j) = some u := fun j u hu => by
            obtain ⟨l, u', q1, q2, q3⟩ := flat_idx lv (j := j) (List.getElem?_eq_some_iff.1 hu).1
            rw [q3] at hu
            injection hu with hu; subst hu
            rw [List.getElem?_map] at q1
            have hq : j / P.cellsOf e < len := by
              have := (List.getElem?_eq_some_iff.1 (show ((List.range len).map fun i => (F i).1)[j / P.cellsOf e]? = some l by rw [List.getElem?_map]; exact q1)).1
              simpa using this
            rw [List.getElem?_range hq] at q1
            injection q1 with q1; subst q1
            have hc := (World.cells?_some (hF _ hq).1)
            have hp : 0 < P.cellsOf e := by
              have := (List.getElem?_eq_some_iff.1 q2).1
              rw [hc.2.1] at this; omega
            have hcell := hc.2.2 (j % P.cellsOf e) (Nat.mod_lt _ hp)
            rw [q2, Go.Deep.add_add, Nat.mul_comm, Nat.div_add_mod] at hcell
            exact hcell
          have h0 := hget 0 _ (List.getElem?_eq_getElem hn)
          obtain ⟨g, o, sp⟩ := a
          have : sp = none := by simpa [Addr.add] using World.cell?_spot h0
          subst this
          refine ⟨g, o, rfl, World.block_lt_of_cell? w _ h0, fun j u hu => ?_⟩
          have := hget j u hu
          rw [add_off] at this
          exact this
        obtain ⟨l, u', q1, q2, q3⟩ := flat_idx lv (j := i) (List.getElem?_eq_some_iff.1 hu).1
        obtain ⟨l2, u2, p1, p2, p3⟩ := flat_idx lx (j := i) (List.getElem?_eq_some_iff.1 hx').1
        rw [q3] at hu
        injection hu with hu; subst hu
        rw [p3] at hx'
        injection hx' with hx'; subst hx'
        rw [List.getElem?_map] at q1 p1
        have hq : i / P.cellsOf e < len := by
          have := (List.getElem?_eq_some_iff.1 (show ((List.range len).map fun i => (F i).1)[i / P.cellsOf e]? = some l by rw [List.getElem?_map]; exact q1)).1
          simpa using this
        rw [List.getElem?_range hq] at q1 p1
        injection q1 with q1; subst q1
        injection p1 with p1; subst p1
        exact (hF _ hq).2.1.2 _ _ _ q2 p2
      rw [hlen] at hrep
      refine ⟨_, .cons hrep .nil, .cons (.sl hrep.small (fun l hl' => ?_) fun l hl' => ?_) .nil⟩
      · obtain ⟨i, hi, rfl⟩ := List.mem_map.1 hl'
        exact (hF i (List.mem_range.1 hi)).2.2.1
      obtain ⟨i, hi, rfl⟩ := List.mem_map.1 hl'
      exact (hF i (List.mem_range.1 hi)).2.2.2
    · rename_i fs ht
      obtain ⟨r1, h1, h2⟩ := Option.bind_eq_some_iff.1 h
      split at h2
      · rename_i hl
        injection h2 with h2; subst h2
        obtain ⟨ys, n, _, _, hcl, hyl, hf⟩ := DataW.trod_struct ht hx
        obtain ⟨xs, a1, a2⟩ := fields_open (fun t cs x r => open_sh m n t cs x r) fs.toList 0 r1 h1 (cs := cs) fun f hf' => by
          obtain ⟨i, hi, rfl⟩ := List.getElem_of_mem hf'
          have := hf i fs.toList[i] (by simp at hi; simp [hi])
          exact ⟨_, this.trans (List.getElem?_eq_getElem (by rw [hyl]; simpa using hi))⟩
        rw [List.drop_zero, hl, ← hcl, List.take_length] at a1
        exact ⟨xs, a1, a2⟩
      cases h2
    · rename_i k e ht
      obtain ⟨r1, h1, h2⟩ := Option.bind_eq_some_iff.1 h
      split at h2
      · rename_i hl
        injection h2 with h2; subst h2
        obtain ⟨ys, n, _, _, hcl, hyl, hf⟩ := DataW.trod_array ht hx
        obtain ⟨xs, a1, a2⟩ := copies_open (cs := cs) hl.1 (fun cs x hx => open_sh m n e cs x r1 h1 hx) k 0 fun i hi => by
          have := hf i hi
          rw [Nat.zero_add]
          exact ⟨_, this.trans (List.getElem?_eq_getElem (by omega))⟩
        rw [List.drop_zero, ← hl.2, ← hcl, List.take_length] at a1
        exact ⟨xs, a1, a2⟩
      cases h2
    cases h
/-- A datum of one cell. -/
theorem open_one {m : Nat} {t : TypeId} {v : Value} {s : Sh} {d : DataW H} {ps : List MemPlace} (hs : shOf P m t = some [s]) (hv : v.cells = #[v]) (h : DataW.Trod enc P w base spare held t v d ps) : ∃ x, AggOK P (fun k => k < w.heap.size) w (insT []) [] v x ∧ Mt x s := by
  obtain ⟨fuel, hf⟩ := h
  rw [hv] at hf
  obtain ⟨xs, a1, a2⟩ := open_sh m fuel t [v] _ [s] hs hf
  obtain ⟨x, xs', rfl, b1, b2⟩ := a1.cons'
  obtain ⟨x2, xs2, q, c1, -⟩ := a2.cons'
  injection q with q _
  subst q
  refine ⟨x, ?_, c1⟩
  have hr := b1.ref (T := insT []) (vals := [])
  cases c1 <;> exact hr
end
theorem Spec.small {P : Program} {f : FuncId} {ins xs : List AV} {Q : List AV → List AV → Prop} {es : List (List AV)} (k : Nat) (hk : xs[k]? = some (.ro es)) (h : es.length ≤ 9223372036854775807 → Spec P f ins xs Q) : Spec P f ins xs Q := fun w S vals bss vs c => by
  obtain ⟨u, hu, hr⟩ := c.args.at_ hk
  have hr : Rep P S w [] u (.ro es) := hr
  obtain ⟨-, A, cc, sz, us, e, h1, h2, -⟩ := hr.ro_inv
  exact h (Nat.le_trans (Nat.le_trans h1 h2) (by decide)) w S vals bss vs c
/-- What a cell may hold, taken apart. -/
theorem Mt.i64 {x : AV} (h : Mt x (.int .i64)) : ∃ n, x = .v (.int .i64 n) := by cases h; exact ⟨_, rfl⟩
theorem Mt.u8 {x : AV} (h : Mt x (.int .u8)) : ∃ n, x = .v (.int .u8 n) := by cases h; exact ⟨_, rfl⟩
theorem Mt.sl_ {x : AV} {r : List Sh} (h : Mt x (.sl r)) : ∃ es, x = .ro es := by cases h; exact ⟨_, rfl⟩
end Go.Proofs.YtfmnaigedgmhoaaDoor
namespace Go.Proofs.YtfmnaigedgmhoaaDoor
open Go.RowKit
set_option linter.unusedSimpArgs false
set_option linter.unusedVariables false
set_option maxRecDepth 100000
def rs100 (r : Report) : Bool := decide ((r.read.size : Int) ≤ 100)
def smallT (x : Ev) : Bool := (((((decide ((x.text.size : Int) ≤ 2100) && decide ((x.reports.length : Int) ≤ 40)) && decide ((x.ops.length : Int) ≤ 70)) && decide ((x.fl.carrier.size : Int) ≤ 100)) && decide ((x.fl.suffix.size : Int) ≤ 100)) && decide ((x.rev.fl.carrier.size : Int) ≤ 100)) && decide ((x.rev.fl.suffix.size : Int) ≤ 100)
def smallE (x : Ev) : Bool := x.reports.all rs100 && smallT x
abbrev aw1 : Ev := { ev0 6 with node := 3 }
abbrev aw2 : Ev := { ev0 1 with text := ⟨#[65]⟩ }
theorem aw1_good : Good aw1 := ⟨(by decide : (1 : Int) ≤ 6 ∧ (6 : Int) ≤ 14), rfl, z3, mem1 rfl, rfl⟩
theorem aw2_good : Good aw2 := ⟨(by decide : (1 : Int) ≤ 1 ∧ (1 : Int) ≤ 14), rfl, ⟨by decide, Nat.zero_le _, Nat.zero_le _⟩, mem1 rfl, rfl⟩
theorem aw1_enc : encB aw1 = [6, 0, 0, 0, 3] := by decide
theorem aw2_enc : encB aw2 = [1, 0, 0, 0, 1, 65] := by decide
theorem aw_bad : decV [4, 0, 0, 0, 7, 2] = (ev0 0, 3) := by
  have h : decB [4, 0, 0, 0, 7, 2] = none := rfl
  unfold decV
  dsimp only
  rw [if_neg (by decide), h]
theorem op_seqT {C : Cx} {o : Oper} {ev : Operand → AV} {T : Sl} {t yt : TypeId} {p q : Operand} {x : ByteArray} (ho : o.op = .binOp .eql t p q yt) (hp : ev p = .v (.string x)) (hq : ev q = .v (.string x)) : OpP C o ev T (.v (.bool true)) := by
  have h := op_seql (C := C) (T := T) ho hp hq
  rwa [beq_self_eq_true] at h
theorem le_aw1 : RL Le1 (evC aw1 (.v (.slice none 0 0)) (.v (.slice none 0 0))) aw1.av := by
  repeat (first | exact RL.nil | refine RL.cons Le1.same ?_ | refine RL.cons Le1.nil ?_)
theorem le_aw2 : RL Le1 (evC aw2 (.v (.slice none 0 0)) (.v (.slice none 0 0))) aw2.av := by
  repeat (first | exact RL.nil | refine RL.cons Le1.same ?_ | refine RL.cons Le1.nil ?_)
set_option maxHeartbeats 8000000 in
theorem C19 : Fn Tryd.prog 19 [] [] [.v (.bool true)] [] := by
  have c1 : Fn Tryd.prog 13 [] [.agg aw1.av] [.ro (([6, 0, 0, 0, 3] : BL).map bv), .v (.int .i64 0)] [] := by
    have h := C13 (x := aw1) aw1_good.sm
    rwa [enc_ok aw1_good, aw1_enc] at h
  have c2 : Fn Tryd.prog 13 [] [.agg aw2.av] [.ro (([1, 0, 0, 0, 1, 65] : BL).map bv), .v (.int .i64 0)] [] := by
    have h := C13 (x := aw2) aw2_good.sm
    rwa [enc_ok aw2_good, aw2_enc] at h
  have c3 : Fn Tryd.prog 20 [] [.ro (([6, 0, 0, 0, 3] : BL).map bv)] [.agg aw1.av, .v (.int .i64 0)] [] := by
    have h := C20 (b := [6, 0, 0, 0, 3]) (by decide)
    rwa [show decV [6, 0, 0, 0, 3] = (aw1, 0) by rw [← aw1_enc]; exact dec_enc aw1_good] at h
  have c4 : Fn Tryd.prog 20 [] [.ro (([4, 0, 0, 0, 7, 2] : BL).map bv)] [.agg (ev0 0).av, .v (.int .i64 3)] [] := by
    have h := C20 (b := [4, 0, 0, 0, 7, 2]) (by decide)
    rwa [aw_bad] at h
  refine Spec.body Tryd.func19 rfl Tryd.ntmps19 (by simp) rfl ?_; intro S0 own0 v0 w0 gl
  (refine AW.seq_k ?_; intro K hK)
  refine AW.region ?_
  refine awP (op_assign rfl rfl) ?_
  refine AWL.nil ?_
  (refine hK _ ?_; clear hK K; (try simp only [nA, Nat.reduceBEq, Nat.reduceEqDiff, ↓reduceIte, Nat.reduceAdd, Nat.reduceSub]))
  (refine AW.seq_k ?_; intro K hK)
  refine AW.region ?_
  refine awP (op_build2 (xs := [_, .v (.int .i64 0), .v (.string ⟨#[]⟩), .v (.int .i64 0), .v (.int .i64 0), .v (.int .i64 0), _, .v (.int .i64 0), .v (.bool false), .v (.slice none 0 0), .v (.int .i64 0), .v (.int .i64 0), .v (.string ⟨#[]⟩), .v (.int .i64 0), .v (.string ⟨#[]⟩), .v (.int .i64 0), .v (.int .i64 0), .v (.int .i64 0), .v (.int .i64 0), .v (.int .i64 0), .v (.int .i64 0), .v (.int .i64 0), .v (.int .i64 0), .v (.int .i64 0), .v (.int .i64 0), .v (.int .i64 0), .v (.int .i64 0), .v (.slice none 0 0), .v (.string ⟨#[]⟩), .v (.int .i64 0), .v (.string ⟨#[]⟩), .v (.int .i64 0)]) rfl pl35 ze35 [(0, [_]), (4, [_])] rfl rfl rfl) ?_
  refine AWL.gh (Gh.tmp 10 (cs' := aw1.av) (bl rfl) rfl le_aw1) ?_; (try simp only [nA, Nat.reduceBEq, Nat.reduceEqDiff, ↓reduceIte, Nat.reduceAdd, Nat.reduceSub]); refine awJ (op_call (b := false) rfl en13 c1 (RL.cons (by exact View.same rfl) (RL.nil)) rfl (fun h => by cases h) rfl rfl) ?_; (try simp only [nA, Nat.reduceBEq, Nat.reduceEqDiff, ↓reduceIte, Nat.reduceAdd, Nat.reduceSub])
  refine awP (op_move rfl rfl) ?_
  refine awP (op_extract rfl rfl rfl) ?_
  refine awP (op_extract rfl rfl rfl) ?_
  refine awP (op_assign rfl rfl) ?_
  refine awP (op_assign rfl rfl) ?_
  refine AWL.nil ?_
  (refine hK _ ?_; clear hK K; (simp only [nA, ↓reduceIte]))
  (refine AW.seq_k ?_; intro K hK)
  refine AW.region ?_
  refine awP (op_build2 (xs := [_, .v (.int .i64 0), _, .v (.int .i64 0), .v (.int .i64 0), .v (.int .i64 0), .v (.int .i64 0), .v (.int .i64 0), .v (.bool false), .v (.slice none 0 0), .v (.int .i64 0), .v (.int .i64 0), .v (.string ⟨#[]⟩), .v (.int .i64 0), .v (.string ⟨#[]⟩), .v (.int .i64 0), .v (.int .i64 0), .v (.int .i64 0), .v (.int .i64 0), .v (.int .i64 0), .v (.int .i64 0), .v (.int .i64 0), .v (.int .i64 0), .v (.int .i64 0), .v (.int .i64 0), .v (.int .i64 0), .v (.int .i64 0), .v (.slice none 0 0), .v (.string ⟨#[]⟩), .v (.int .i64 0), .v (.string ⟨#[]⟩), .v (.int .i64 0)]) rfl pl35 ze35 [(0, [_]), (2, [_])] rfl rfl rfl) ?_
  refine AWL.gh (Gh.tmp 15 (cs' := aw2.av) (bl rfl) rfl le_aw2) ?_; (try simp only [nA, Nat.reduceBEq, Nat.reduceEqDiff, ↓reduceIte, Nat.reduceAdd, Nat.reduceSub]); refine awJ (op_call (b := false) rfl en13 c2 (RL.cons (by exact View.same rfl) (RL.nil)) rfl (fun h => by cases h) rfl rfl) ?_; (try simp only [nA, Nat.reduceBEq, Nat.reduceEqDiff, ↓reduceIte, Nat.reduceAdd, Nat.reduceSub])
  refine awP (op_move rfl rfl) ?_
  refine awP (op_extract rfl rfl rfl) ?_
  refine awP (op_extract rfl rfl rfl) ?_
  refine awP (op_assign rfl rfl) ?_
  refine awP (op_assign rfl rfl) ?_
  refine AWL.nil ?_
  (refine hK _ ?_; clear hK K; (simp only [nA, ↓reduceIte]))
  (refine AW.seq_k ?_; intro K hK)
  refine AW.region ?_
  refine awJ (OpJ.frz (op_buildSlice rfl [(0, bv 6), (1, bv 0), (2, bv 0), (3, bv 0), (4, bv 3)] (([6, 0, 0, 0, 3] : BL).map bv) Tryd.underlying43 ze5 rfl (by decide) rfl (bv_len _) rfl (bl rfl) (by decide)) (bv_flat _) rfl) ?_; (try simp only [nA, Nat.reduceBEq, Nat.reduceEqDiff, ↓reduceIte, Nat.reduceAdd, Nat.reduceSub])
  refine awJ (op_call (b := false) rfl en20 (c3) (RL.cons (by exact View.same rfl) (RL.nil)) rfl (fun h => by cases h) rfl rfl) ?_; (try simp only [nA, Nat.reduceBEq, Nat.reduceEqDiff, ↓reduceIte, Nat.reduceAdd, Nat.reduceSub])
  refine awP (op_move rfl rfl) ?_
  refine awP (op_extract rfl rfl rfl) ?_
  refine awP (op_extract rfl rfl rfl) ?_
  refine awJ (op_alloc rfl ze35 rfl) ?_; (simp only [nA, Nat.reduceBEq, Nat.reduceEqDiff, ↓reduceIte])
  refine awJ (op_store rfl rfl rfl rfl rfl rfl sz35 rfl (bl rfl) rfl) ?_; (simp only [nA, Nat.reduceBEq, Nat.reduceEqDiff, ↓reduceIte])
  refine awP (op_assign rfl rfl) ?_
  refine AWL.nil ?_
  (refine hK _ ?_; clear hK K; (simp only [nA, ↓reduceIte]))
  (refine AW.seq_k ?_; intro K hK)
  refine AW.region ?_
  refine awJ (OpJ.frz (op_buildSlice rfl [(0, bv 4), (1, bv 0), (2, bv 0), (3, bv 0), (4, bv 7), (5, bv 2)] (([4, 0, 0, 0, 7, 2] : BL).map bv) Tryd.underlying43 ze5 rfl (by decide) rfl (bv_len _) rfl (bl rfl) (by decide)) (bv_flat _) rfl) ?_; (try simp only [nA, Nat.reduceBEq, Nat.reduceEqDiff, ↓reduceIte, Nat.reduceAdd, Nat.reduceSub])
  refine awJ (op_call (b := false) rfl en20 (c4) (RL.cons (by exact View.same rfl) (RL.nil)) rfl (fun h => by cases h) rfl rfl) ?_; (try simp only [nA, Nat.reduceBEq, Nat.reduceEqDiff, ↓reduceIte, Nat.reduceAdd, Nat.reduceSub])
  refine awP (op_move rfl rfl) ?_
  refine awP (op_extract rfl rfl rfl) ?_
  refine awP (op_extract rfl rfl rfl) ?_
  refine awJ (op_alloc rfl ze35 rfl) ?_; (simp only [nA, Nat.reduceBEq, Nat.reduceEqDiff, ↓reduceIte])
  refine awJ (op_store rfl rfl rfl rfl rfl rfl sz35 rfl (bl rfl) rfl) ?_; (simp only [nA, Nat.reduceBEq, Nat.reduceEqDiff, ↓reduceIte])
  refine awP (op_assign rfl rfl) ?_
  refine AWL.nil ?_
  (refine hK _ ?_; clear hK K; (simp only [nA, ↓reduceIte]))
  (refine AW.seq_k ?_; intro K hK)
  refine AW.region (AWL.quiet ?_)
  refine aqP (op_move rfl rfl) ?_
  (refine aqP (op_eql rfl rfl rfl) ?_)
  refine aqP (op_move rfl rfl) ?_
  refine' aqAnd' [_, _, _] [32,33,34] rfl rfl rfl rfl rfl rfl rfl rfl rfl rfl rfl rfl (fun hb => ?_) ?_; rotate_left
  ·
   (try simp only [hcS] at hb)
   refine aqP (op_move rfl rfl) ?_
   refine aqR (op_b2sR (l := [6, 0, 0, 0, 3]) rfl rfl Tryd.underlying43 Tryd.underlying5 Tryd.underlying9 rfl) ?_
   refine aqP (op_seqT (x := ⟨#[6, 0, 0, 0, 3]⟩) rfl rfl rfl) ?_
   (refine aqSeg rfl rfl rfl ?_; repeat (first | exact fun _ _ => rfl | refine upd_out rfl ?_))
  simp only [nA, ↓reduceIte]
  refine aqP (op_move rfl rfl) ?_
  refine' aqAnd' [_, _] [37,38] rfl rfl rfl rfl rfl rfl rfl rfl rfl rfl rfl rfl (fun hb => ?_) ?_; rotate_left
  ·
   (try simp only [hcS] at hb)
   refine aqP (op_move rfl rfl) ?_
   (refine aqP (op_eql rfl rfl rfl) ?_)
   (refine aqSeg rfl rfl rfl ?_; repeat (first | exact fun _ _ => rfl | refine upd_out rfl ?_))
  simp only [nA]
  refine aqP (op_move rfl rfl) ?_
  refine' aqAnd' [_, _, _] [41,42,43] rfl rfl rfl rfl rfl rfl rfl rfl rfl rfl rfl rfl (fun hb => ?_) ?_; rotate_left
  ·
   (try simp only [hcS] at hb)
   refine aqP (op_move rfl rfl) ?_
   refine aqR (op_b2sR (l := [1, 0, 0, 0, 1, 65]) rfl rfl Tryd.underlying43 Tryd.underlying5 Tryd.underlying9 rfl) ?_
   refine aqP (op_seqT (x := ⟨#[1, 0, 0, 0, 1, 65]⟩) rfl rfl rfl) ?_
   (refine aqSeg rfl rfl rfl ?_; repeat (first | exact fun _ _ => rfl | refine upd_out rfl ?_))
  simp only [nA]
  refine aqP (op_move rfl rfl) ?_
  refine' aqAnd' [_, _] [46,47] rfl rfl rfl rfl rfl rfl rfl rfl rfl rfl rfl rfl (fun hb => ?_) ?_; rotate_left
  ·
   (try simp only [hcS] at hb)
   refine aqP (op_move rfl rfl) ?_
   (refine aqP (op_eql rfl rfl rfl) ?_)
   (refine aqSeg rfl rfl rfl ?_; repeat (first | exact fun _ _ => rfl | refine upd_out rfl ?_))
  simp only [nA]
  refine aqP (op_move rfl rfl) ?_
  refine' aqAnd' [_, _, _] [50,51,52] rfl rfl rfl rfl rfl rfl rfl rfl rfl rfl rfl rfl (fun hb => ?_) ?_; rotate_left
  ·
   (try simp only [hcS] at hb)
   (refine aqP (op_fa_ptr rfl rfl rfl fl35_0 (by exact sz3) (by decide) rfl) ?_)
   (refine aqR (op_load_ptr1 rfl rfl rfl rfl ag3 rfl rfl) ?_)
   (refine aqP (op_eql rfl rfl rfl) ?_)
   (refine aqSeg rfl rfl rfl ?_; repeat (first | exact fun _ _ => rfl | refine upd_out rfl ?_))
  simp only [nA]
  refine aqP (op_move rfl rfl) ?_
  refine' aqAnd' [_, _, _] [55,56,57] rfl rfl rfl rfl rfl rfl rfl rfl rfl rfl rfl rfl (fun hb => ?_) ?_; rotate_left
  ·
   (try simp only [hcS] at hb)
   (refine aqP (op_fa_ptr rfl rfl rfl fl35_4 (by exact sz3) (by decide) rfl) ?_)
   (refine aqR (op_load_ptr1 rfl rfl rfl rfl ag3 rfl rfl) ?_)
   (refine aqP (op_eql rfl rfl rfl) ?_)
   (refine aqSeg rfl rfl rfl ?_; repeat (first | exact fun _ _ => rfl | refine upd_out rfl ?_))
  simp only [nA]
  refine aqP (op_move rfl rfl) ?_
  refine' aqAnd' [_, _] [60,61] rfl rfl rfl rfl rfl rfl rfl rfl rfl rfl rfl rfl (fun hb => ?_) ?_; rotate_left
  ·
   (try simp only [hcS] at hb)
   refine aqP (op_move rfl rfl) ?_
   (refine aqP (op_eql rfl rfl rfl) ?_)
   (refine aqSeg rfl rfl rfl ?_; repeat (first | exact fun _ _ => rfl | refine upd_out rfl ?_))
  simp only [nA]
  refine aqP (op_assign rfl rfl) ?_
  refine AQ.nil ?_
  (refine hK _ ?_; clear hK K; (simp only [nA]))
  skip
  refine AW.ret ?_; (try simp only [thenE, inBlk, Nat.reduceEqDiff, ↓reduceIte]); exact RQ.of0 rfl (.tmp (bl rfl) rfl rfl .nil)
end Go.Proofs.YtfmnaigedgmhoaaDoor
namespace Go.Proofs.YtfmnaigedgmhoaaDoor
open Go.RowKit
set_option linter.unusedSimpArgs false
set_option linter.unusedVariables false
set_option maxRecDepth 100000
theorem hl20 (l : List Int) : (l.take 2000).length ≤ 2000 := by rw [List.length_take]; omega
theorem cE {x : Ev} (h : Good x) : Fn Tryd.prog 13 [] [.agg x.av] [.ro ((encB x).map bv), .v (.int .i64 0)] [] := by
  have c := C13 (x := x) h.sm
  rwa [enc_ok h] at c
theorem cD {x : Ev} (h : Good x) : Fn Tryd.prog 20 [] [.ro ((encB x).map bv)] [.agg x.av, .v (.int .i64 0)] [] := by
  have c := C20 (b := encB x) (Nat.le_trans (enc_len h) (by decide))
  rwa [dec_enc h] at c
theorem cS {x : Ev} (h : Good x) : Fn Tryd.prog 18 [] [.agg x.av, .agg x.av] [.v (.bool true)] [] := by
  have c := C18 (a := x) (b := x) h.sm.r h.sm.o
  rwa [sameB_iff.2 rfl] at c
end Go.Proofs.YtfmnaigedgmhoaaDoor
namespace Go.Proofs.YtfmnaigedgmhoaaDoor
open Go.RowKit
set_option linter.unusedSimpArgs false
set_option linter.unusedVariables false
set_option maxRecDepth 100000
def Ev.Sn (x : Ev) (n : Nat) : Prop := x.reports.length ≤ n ∧ x.ops.length ≤ n ∧ x.text.size ≤ n ∧ ∀ r ∈ x.reports, r.read.size ≤ n
theorem Ev.Sn.sm {x : Ev} {n : Nat} (h : x.Sn n) (hn : n ≤ 1000000) : x.Sm := ⟨Nat.le_trans h.1 hn, Nat.le_trans h.2.1 hn, Nat.le_trans h.2.2.1 hn, fun r hr => Nat.le_trans (h.2.2.2 r hr) hn⟩
theorem Ev.Sn.up {x : Ev} {n m : Nat} (h : x.Sn n) (hn : n ≤ m) : x.Sn m := ⟨Nat.le_trans h.1 hn, Nat.le_trans h.2.1 hn, Nat.le_trans h.2.2.1 hn, fun r hr => Nat.le_trans (h.2.2.2 r hr) hn⟩
theorem Sn.of {x y : Ev} {n : Nat} (h : x.Sn n) (h1 : y.reports = x.reports) (h2 : y.ops = x.ops) (h3 : y.text = x.text) : y.Sn n := by
  unfold Ev.Sn; rw [h1, h2, h3]; exact h
theorem ba_list (l : BL) : (⟨l.toArray⟩ : ByteArray).toList = l := by
  simp [ByteArray.toList_eq]
end Go.Proofs.YtfmnaigedgmhoaaDoor
namespace Go.Proofs.YtfmnaigedgmhoaaDoor
open Go.RowKit
set_option linter.unusedSimpArgs false
set_option linter.unusedVariables false
set_option maxRecDepth 100000
theorem sh_n {a : UInt32} {n : Nat} (k : UInt32) (hk : k.toNat % 32 = n) : (a >>> k).toNat = a.toNat / 2 ^ n := by
  rw [UInt32.toNat_shiftRight, hk, Nat.shiftRight_eq_div_pow]
theorem bs4_s (a b c d : UInt8) : [(0, bv a), (1, bv b), (2, bv c), (3, bv d)].foldl (fun cs p => splice cs (p.1 * 1) p.2) (List.replicate (4 * 1) .any) = ([a, b, c, d].map bv).flatten := by rfl
set_option maxHeartbeats 8000000 in
theorem C85 {c : UInt32} : Fn Tryd.prog 85 [] [.v (.int .u32 (c.toNat : Int))] [.ro ((fourL c).map bv)] [] := by
  refine Spec.body Tryd.func85 rfl Tryd.ntmps85 (by simp) rfl ?_; intro S0 own0 v0 w0 gl
  (refine AW.seq_k ?_; intro K hK)
  refine AW.region ?_
  refine awP (op_assign rfl rfl) ?_; (try simp only [nA, Nat.reduceBEq, Nat.reduceEqDiff, ↓reduceIte, Nat.reduceAdd, Nat.reduceSub])
  refine AWL.nil ?_
  (refine hK _ ?_; clear hK K; (try simp only [nA, Nat.reduceBEq, Nat.reduceEqDiff, ↓reduceIte, Nat.reduceAdd, Nat.reduceSub]))
  (refine AW.seq_k ?_; intro K hK)
  refine AW.region ?_
  refine awP (op_move rfl rfl) ?_; (simp only [nA, ↓reduceIte])
  refine awP (op_shr32 (b := c >>> 24) 24 rfl rfl rfl rfl (by decide) (sh_n 24 rfl)) ?_; (try simp only [nA, Nat.reduceBEq, Nat.reduceEqDiff, ↓reduceIte, Nat.reduceAdd, Nat.reduceSub])
  refine awP (op_c328 rfl rfl Tryd.underlying100 Tryd.underlying5) ?_; (try simp only [nA, Nat.reduceBEq, Nat.reduceEqDiff, ↓reduceIte, Nat.reduceAdd, Nat.reduceSub])
  refine awP (op_move rfl rfl) ?_; (simp only [nA, ↓reduceIte])
  refine awP (op_shr32 (b := c >>> 16) 16 rfl rfl rfl rfl (by decide) (sh_n 16 rfl)) ?_; (try simp only [nA, Nat.reduceBEq, Nat.reduceEqDiff, ↓reduceIte, Nat.reduceAdd, Nat.reduceSub])
  refine awP (op_c328 rfl rfl Tryd.underlying100 Tryd.underlying5) ?_; (try simp only [nA, Nat.reduceBEq, Nat.reduceEqDiff, ↓reduceIte, Nat.reduceAdd, Nat.reduceSub])
  refine awP (op_move rfl rfl) ?_; (simp only [nA, ↓reduceIte])
  refine awP (op_shr32 (b := c >>> 8) 8 rfl rfl rfl rfl (by decide) (sh_n 8 rfl)) ?_; (try simp only [nA, Nat.reduceBEq, Nat.reduceEqDiff, ↓reduceIte, Nat.reduceAdd, Nat.reduceSub])
  refine awP (op_c328 rfl rfl Tryd.underlying100 Tryd.underlying5) ?_; (try simp only [nA, Nat.reduceBEq, Nat.reduceEqDiff, ↓reduceIte, Nat.reduceAdd, Nat.reduceSub])
  refine awP (op_move rfl rfl) ?_; (simp only [nA, ↓reduceIte])
  refine awP (op_c328 rfl rfl Tryd.underlying100 Tryd.underlying5) ?_; (try simp only [nA, Nat.reduceBEq, Nat.reduceEqDiff, ↓reduceIte, Nat.reduceAdd, Nat.reduceSub])
  refine awJ (OpJ.frz (op_buildSlice rfl [(0, bv (c >>> 24).toUInt8), (1, bv (c >>> 16).toUInt8), (2, bv (c >>> 8).toUInt8), (3, bv c.toUInt8)] ((fourL c).map bv) Tryd.underlying43 ze5 rfl (by simp) (bs4_s _ _ _ _) (bv_len _) rfl (bl rfl) (by decide)) (bv_flat _) rfl) ?_; (try simp only [nA, Nat.reduceBEq, Nat.reduceEqDiff, ↓reduceIte, Nat.reduceAdd, Nat.reduceSub])
  refine awP (op_assign rfl rfl) ?_; (simp only [nA])
  refine AWL.nil ?_
  (refine hK _ ?_; clear hK K; (skip))
  skip
  refine AW.ret ?_; (try simp only [thenE, inBlk, Nat.reduceEqDiff, ↓reduceIte]); exact RQ.of0 rfl (.tmp (bl rfl) rfl rfl .nil)
def tv (i : Nat) : UInt32 := shN 8 (UInt32.ofNat i)
def tabA (k : Nat) : List AV := (List.range 256).map fun i => if i < k then .v (.int .u32 ((tv i).toNat : Int)) else .v (.int .u32 0)
theorem tab_get {i : Nat} (h : i < 256) : (tabA 256)[i]? = some (.v (.int .u32 ((tv i).toNat : Int))) := by
  unfold tabA
  rw [List.getElem?_map, List.getElem?_range h, Option.map_some, if_pos h]
theorem crc_step {r : UInt32} {l : BL} {i : Nat} {b : UInt8} (h : l[i]? = some b) : crc r (l.take (i + 1)) = tv ((crc r (l.take i)).toUInt8 ^^^ b).toNat ^^^ (crc r (l.take i) >>> 8) := by
  have hi := (List.getElem?_eq_some_iff.1 h).1
  rw [List.take_succ_eq_append_getElem hi, crc_append]
  have hb : l[i] = b := (List.getElem?_eq_some_iff.1 h).2
  rw [hb]
  show stp _ b = _
  rw [stp_tab]; rfl
theorem u8_lt' (a : UInt8) : a.toNat < 256 := a.toNat_lt
set_option maxHeartbeats 8000000 in
theorem C105 {r : UInt32} {l : BL} (hl : l.length ≤ 9223372036854775807) : Fn Tryd.prog 105 [] [.rop (tabA 256), .v (.int .u32 (r.toNat : Int)), .ro (l.map bv)] [.v (.int .u32 ((crc r l).toNat : Int))] [] := by
  refine Spec.body Tryd.func105 rfl Tryd.ntmps105 (by simp) rfl ?_; intro S0 own0 v0 w0 gl
  (refine AW.seq_k ?_; intro K hK)
  refine AW.region ?_
  refine awP (op_assign rfl rfl) ?_; (try simp only [nA, Nat.reduceBEq, Nat.reduceEqDiff, ↓reduceIte, Nat.reduceAdd, Nat.reduceSub])
  refine AWL.nil ?_
  (refine hK _ ?_; clear hK K; (try simp only [nA, Nat.reduceBEq, Nat.reduceEqDiff, ↓reduceIte, Nat.reduceAdd, Nat.reduceSub]))
  (refine AW.seq_k ?_; intro K hK)
  (refine AW.seq_k ?_; intro K hK)
  refine AW.region ?_
  refine awP (op_move rfl rfl) ?_; (simp only [nA, ↓reduceIte])
  refine awP (op_len_ro (n := l.length) rfl rfl Tryd.underlying43 (.inr (.inl ⟨_, rfl, by simp⟩))) ?_; (try simp only [nA, Nat.reduceBEq, Nat.reduceEqDiff, ↓reduceIte, Nat.reduceAdd, Nat.reduceSub])
  refine awP (op_move rfl rfl) ?_; (try simp only [nA, Nat.reduceBEq, Nat.reduceEqDiff, ↓reduceIte, Nat.reduceAdd, Nat.reduceSub])
  refine AWL.nil ?_
  (refine hK _ ?_; clear hK K; (skip))
  refine AW.block ?_
  refine AW.loopI (fun i => [(0, .rop (tabA 256)), (1, .v (.int .u32 ((crc r (l.take i)).toNat : Int))), (9, .ro (l.map bv)), (10, .v (.int .i64 l.length)), (11, .v (.int .i64 (i : Nat)))]) (fun i => ⟨[], 1⟩) (fun i => i ≤ l.length) (fun i => l.length - i) 0 (by simp) ⟨rfl, rfl, rfl, rfl, rfl, trivial⟩ rfl ?_; intro i ρ hi; simp only [updL]
  (refine AW.seq_k ?_; intro K hK)
  refine AW.region ?_
  refine awP (op_lss rfl rfl rfl) ?_; (try simp only [nA, Nat.reduceBEq, Nat.reduceEqDiff, ↓reduceIte, Nat.reduceAdd, Nat.reduceSub])
  refine AWL.nil ?_
  (refine hK _ ?_; clear hK K; (skip))
  (refine AW.seq_k ?_; intro K hK)
  refine AW.cond rfl rfl rfl (fun hc => ?_) (fun hc => ?_)
  ·
   have hc1 := hc; have hlt : i < l.length := (by have := of_decide_eq_true hc1; omega); obtain ⟨b, hb⟩ : ∃ b, l[i]? = some b := ⟨_, List.getElem?_eq_getElem hlt⟩
   refine AW.skip ?_
   (refine hK _ ?_; clear hK K; (skip))
   (refine AW.seq_k ?_; intro K hK)
   refine AW.block ?_
   (refine AW.seq_k ?_; intro K hK)
   refine AW.region ?_
   refine awP (op_ia_ro i rfl (.inl rfl) rfl Tryd.underlying43 rfl (show (l.map bv)[i]? = some (bv b) by rw [List.getElem?_map, hb]; rfl) (by exact sz5) (bl rfl)) ?_; (try simp only [nA, Nat.reduceBEq, Nat.reduceEqDiff, ↓reduceIte, Nat.reduceAdd, Nat.reduceSub])
   (refine awR (op_load_rop1 rfl rfl ag5) ?_); (try simp only [nA, Nat.reduceBEq, Nat.reduceEqDiff, ↓reduceIte, Nat.reduceAdd, Nat.reduceSub])
   refine awP (op_assign rfl rfl) ?_; (simp only [nA])
   refine AWL.nil ?_
   (refine hK _ ?_; clear hK K; (skip))
   refine AW.region ?_
   refine awP (op_move rfl rfl) ?_; (simp only [nA, ↓reduceIte])
   refine awP (op_move rfl rfl) ?_; (simp only [nA, ↓reduceIte])
   refine awP (op_c328 rfl rfl Tryd.underlying100 Tryd.underlying5) ?_; (try simp only [nA, Nat.reduceBEq, Nat.reduceEqDiff, ↓reduceIte, Nat.reduceAdd, Nat.reduceSub])
   refine awP (op_move rfl rfl) ?_; (simp only [nA, ↓reduceIte])
   refine awP (op_xor8 rfl rfl rfl) ?_; (try simp only [nA, Nat.reduceBEq, Nat.reduceEqDiff, ↓reduceIte, Nat.reduceAdd, Nat.reduceSub])
   (refine awP (op_nil_ptr rfl rfl) ?_); (try simp only [nA, Nat.reduceBEq, Nat.reduceEqDiff, ↓reduceIte, Nat.reduceAdd, Nat.reduceSub])
   refine awP (op_ia_rarr ((crc r (l.take i)).toUInt8 ^^^ b).toNat rfl rfl rfl Tryd.underlying102 rfl (u8_lt' _) sz100 (tab_get (u8_lt' _))) ?_; (try simp only [nA, Nat.reduceBEq, Nat.reduceEqDiff, ↓reduceIte, Nat.reduceAdd, Nat.reduceSub])
   (refine awR (op_load_rop1 rfl rfl ag100) ?_); (try simp only [nA, Nat.reduceBEq, Nat.reduceEqDiff, ↓reduceIte, Nat.reduceAdd, Nat.reduceSub])
   refine awP (op_move rfl rfl) ?_; (simp only [nA, ↓reduceIte])
   refine awP (op_shr32 (b := crc r (l.take i) >>> 8) 8 rfl rfl rfl rfl (by decide) (sh_n 8 rfl)) ?_; (try simp only [nA, Nat.reduceBEq, Nat.reduceEqDiff, ↓reduceIte, Nat.reduceAdd, Nat.reduceSub])
   refine awP (op_xor32 rfl rfl rfl) ?_; (try simp only [nA, Nat.reduceBEq, Nat.reduceEqDiff, ↓reduceIte, Nat.reduceAdd, Nat.reduceSub])
   refine awP (op_assign rfl rfl) ?_; (simp only [nA])
   refine AWL.nil ?_
   (try simp only [thenE, inBlk, Nat.reduceEqDiff, ↓reduceIte])
   (refine hK _ ?_; clear hK K; (skip))
   refine AW.region ?_
   (refine awP (op_addi rfl rfl rfl (by omega)) ?_); (try simp only [nA, Nat.reduceBEq, Nat.reduceEqDiff, ↓reduceIte, Nat.reduceAdd, Nat.reduceSub])
   refine awP (op_move rfl rfl) ?_; (simp only [nA])
   skip
   refine AWL.nil ?_
   refine ⟨i + 1, by omega, by omega, ⟨rfl, by exact congrArg (fun z : UInt32 => AV.v (.int .u32 (z.toNat : Int))) (crc_step hb).symm, rfl, rfl, by exact congrArg (fun z => AV.v (.int .i64 z)) (by omega), trivial⟩, (by rfl), (by rfl)⟩
  have hc1 := hc; have hie : l.take i = l := (by have := of_decide_eq_false hc1; exact List.take_of_length_le (by omega))
  refine AW.exit ?_; (try simp only [thenE, inBlk, Nat.reduceEqDiff, ↓reduceIte])
  clear hK K
  (refine hK _ ?_; clear hK K; (skip))
  (refine AW.seq_k ?_; intro K hK)
  refine AW.region ?_
  refine awP (op_move rfl rfl) ?_; (simp only [nA, ↓reduceIte])
  refine awP (op_assign rfl rfl) ?_; (simp only [nA])
  refine AWL.nil ?_
  (refine hK _ ?_; clear hK K; (skip))
  skip
  refine AW.ret ?_; (try simp only [thenE, inBlk, Nat.reduceEqDiff, ↓reduceIte]); rw [hie]; exact RQ.of0 rfl (.tmp (bl rfl) rfl rfl .nil)
end Go.Proofs.YtfmnaigedgmhoaaDoor
namespace Go.Proofs.YtfmnaigedgmhoaaDoor
open Go.RowKit
set_option linter.unusedSimpArgs false
set_option linter.unusedVariables false
set_option maxRecDepth 100000
theorem tabA_len (k : Nat) : (tabA k).length = 256 := by simp [tabA]
theorem ze102' : zeroIs Tryd.prog 102 (.agg (Array.replicate 256 (.int .u32 0))) 256 1024 := ⟨by kernel_rfl, by kernel_rfl, by kernel_rfl⟩
theorem tabA_zero : (Value.agg (Array.replicate 256 (.int .u32 0))).cells.toList.map AV.v = tabA 0 := by
  unfold tabA
  show (Array.replicate 256 (Value.int .u32 0)).toList.map AV.v = _
  rw [Array.toList_replicate, List.map_replicate]
  refine List.ext_getElem? fun i => ?_
  by_cases h : i < 256
  · rw [List.getElem?_map, List.getElem?_range h, Option.map_some, if_neg (by omega), List.getElem?_replicate, if_pos h]
  rw [List.getElem?_eq_none (by simp; omega), List.getElem?_eq_none (by simp; omega)]
theorem tab_set {i : Nat} (h : i < 256) : ([tabA i] : List (List AV)).set 0 (splice (tabA i) i [.v (.int .u32 ((tv i).toNat : Int))]) = [tabA (i + 1)] := by
  show [_] = _
  congr 1
  unfold splice
  refine List.ext_getElem? fun j => ?_
  have hl := tabA_len i
  by_cases hj : j < 256
  · have e : ∀ k, (tabA k)[j]? = some (if j < k then .v (.int .u32 ((tv j).toNat : Int)) else .v (.int .u32 0)) := fun k => by
      unfold tabA; rw [List.getElem?_map, List.getElem?_range hj]; rfl
    rw [e (i + 1)]
    rcases Nat.lt_trichotomy j i with h1 | h1 | h1
    · rw [List.append_assoc, List.getElem?_append_left (by rw [List.length_take]; omega), List.getElem?_take_of_lt h1, e i, if_pos h1, if_pos (by omega)]
    · subst h1
      rw [List.append_assoc, List.getElem?_append_right (by rw [List.length_take]; omega), List.length_take, Nat.min_eq_left (by omega), Nat.sub_self, if_pos (by omega)]; rfl
    rw [List.getElem?_append_right (by rw [List.length_append, List.length_take]; simp; omega), List.length_append, List.length_take, List.getElem?_drop, Nat.min_eq_left (by omega)]
    have : i + [(AV.v (.int .u32 ((tv i).toNat : Int)))].length + (j - (i + [(AV.v (.int .u32 ((tv i).toNat : Int)))].length)) = j := by simp only [List.length_singleton]; omega
    rw [this, e i, if_neg (by omega), if_neg (by omega)]
  rw [List.getElem?_eq_none (by rw [List.length_append, List.length_append, List.length_take, List.length_drop, List.length_singleton]; omega), List.getElem?_eq_none (by rw [tabA_len]; omega)]
theorem tab_all : (tabA 256).map ldc = tabA 256 := by
  unfold tabA; rw [List.map_map]
  refine List.map_congr_left fun i _ => ?_
  simp only [Function.comp]; split <;> rfl
theorem tab_ld : (((tabA 256).drop 0).take 256).map ldc = tabA 256 := by
  rw [List.drop_zero, List.take_of_length_le (by rw [tabA_len]; exact Nat.le_refl _), tab_all]
theorem tab_store : ([tabA 0] : List (List AV)).set 0 (splice (tabA 0) 0 (tabA 256)) = [tabA 256] := by
  show [_] = _
  unfold splice
  rw [List.take_zero, List.nil_append, List.drop_eq_nil_of_le (by rw [tabA_len, tabA_len]; omega), List.append_nil]
theorem sh1_t {a : UInt32} (h : decide (((a.toNat % 2 : Nat) : Int) = 1) = true) : sh1 a = (a >>> 1) ^^^ 3988292384 := by
  have h2 : a % 2 = 1 := UInt32.toNat_inj.1 (by have := of_decide_eq_true h; simp; omega)
  rw [sh1, if_pos h2]
theorem sh1_f {a : UInt32} (h : decide (((a.toNat % 2 : Nat) : Int) = 1) = false) : sh1 a = a >>> 1 := by
  have h2 : ¬ a % 2 = 1 := fun h' => by
    have := congrArg UInt32.toNat h'
    have := of_decide_eq_false h
    simp at *; omega
  rw [sh1, if_neg h2]
theorem w32 {i : Nat} (h : i < 256) : IntKind.wrap .u32 (i : Int) = ((UInt32.ofNat i).toNat : Int) := by
  rw [UInt32.toNat_ofNat_of_lt' (by show _ < 4294967296; omega)]
  unfold IntKind.wrap
  simp [IntKind.bits, IntKind.signed]; omega
theorem shN_last (n : Nat) (r : UInt32) : shN (n + 1) r = sh1 (shN n r) := by
  induction n generalizing r with
  | zero => rfl
  | succ n ih => rfl
set_option maxHeartbeats 8000000 in
theorem C47 : Fn Tryd.prog 47 [] [] [.agg (tabA 256)] [] := by
  refine Spec.body Tryd.func47 rfl Tryd.ntmps47 (by simp) rfl ?_; intro S0 own0 v0 w0 gl
  (refine AW.seq_k ?_; intro K hK)
  refine AW.region ?_
  refine awJ (op_alloc rfl ze102' tabA_zero) ?_; (simp only [nA, Nat.reduceBEq, Nat.reduceEqDiff, ↓reduceIte])
  refine AWL.nil ?_
  (refine hK _ ?_; clear hK K; (try simp only [nA, Nat.reduceBEq, Nat.reduceEqDiff, ↓reduceIte, Nat.reduceAdd, Nat.reduceSub]))
  (refine AW.seq_k ?_; intro K hK)
  refine AW.region ?_
  refine awJ (op_alloc rfl ze102' tabA_zero) ?_; (simp only [nA, Nat.reduceBEq, Nat.reduceEqDiff, ↓reduceIte])
  refine AWL.nil ?_
  (refine hK _ ?_; clear hK K; (skip))
  (refine AW.seq_k ?_; intro K hK)
  (refine AW.seq_k ?_; intro K hK)
  refine AW.region ?_
  refine awP (op_move rfl rfl) ?_; (try simp only [nA, Nat.reduceBEq, Nat.reduceEqDiff, ↓reduceIte, Nat.reduceAdd, Nat.reduceSub])
  refine AWL.nil ?_
  (refine hK _ ?_; clear hK K; (skip))
  refine AW.block ?_
  refine AW.loopI (fun i => [(0, .ptr 0 1 0 0), (1, .ptr 1 2 0 0), (4, .v (.int .i64 (i : Nat)))]) (fun i => ⟨[(1, .own 102 [tabA 0]), (2, .own 102 [tabA i])], 3⟩) (fun i => i ≤ 256) (fun i => 256 - i) 0 (by simp) ⟨rfl, rfl, rfl, trivial⟩ rfl ?_; intro i ρ hi; simp only [updL]
  (refine AW.seq_k ?_; intro K hK)
  refine AW.region ?_
  refine awP (op_lss rfl rfl rfl) ?_; (try simp only [nA, Nat.reduceBEq, Nat.reduceEqDiff, ↓reduceIte, Nat.reduceAdd, Nat.reduceSub])
  refine AWL.nil ?_
  (refine hK _ ?_; clear hK K; (skip))
  (refine AW.seq_k ?_; intro K hK)
  refine AW.cond rfl rfl rfl (fun hc => ?_) (fun hc => ?_)
  ·
   have hc1 := hc; have hlt : i < 256 := (by have := of_decide_eq_true hc1; omega)
   refine AW.skip ?_
   (refine hK _ ?_; clear hK K; (skip))
   (refine AW.seq_k ?_; intro K hK)
   refine AW.block ?_
   (refine AW.seq_k ?_; intro K hK)
   refine AW.region ?_
   refine awP (op_move rfl rfl) ?_; (simp only [nA, ↓reduceIte])
   refine awP (op_assign rfl rfl) ?_; (simp only [nA])
   refine AWL.nil ?_
   (refine hK _ ?_; clear hK K; (skip))
   (refine AW.seq_k ?_; intro K hK)
   refine AW.region ?_
   refine awP (op_move rfl rfl) ?_; (simp only [nA])
   refine awP (op_conv rfl rfl Tryd.underlying3 Tryd.underlying100 (w32 hlt)) ?_; (try simp only [nA, Nat.reduceBEq, Nat.reduceEqDiff, ↓reduceIte, Nat.reduceAdd, Nat.reduceSub])
   refine awP (op_assign rfl rfl) ?_; (simp only [nA])
   refine AWL.nil ?_
   (refine hK _ ?_; clear hK K; (skip))
   (refine AW.seq_k ?_; intro K hK)
   (refine AW.seq_k ?_; intro K hK)
   refine AW.region ?_
   refine awP (op_move rfl rfl) ?_; (try simp only [nA, Nat.reduceBEq, Nat.reduceEqDiff, ↓reduceIte, Nat.reduceAdd, Nat.reduceSub])
   refine AWL.nil ?_
   (refine hK _ ?_; clear hK K; (skip))
   refine AW.block ?_
   refine AW.loopI (fun j => [(0, .ptr 0 1 0 0), (1, .ptr 1 2 0 0), (4, .v (.int .i64 (i : Nat))), (2, .v (.int .i64 (i : Nat))), (3, .v (.int .u32 ((shN j (UInt32.ofNat i)).toNat : Int))), (9, .v (.int .i64 (j : Nat)))]) (fun j => ⟨[(1, .own 102 [tabA 0]), (2, .own 102 [tabA i])], 3⟩) (fun j => j ≤ 8) (fun j => 8 - j) 0 (by simp) ⟨rfl, rfl, rfl, rfl, rfl, rfl, trivial⟩ rfl ?_; intro j ρ2 hj; simp only [updL]
   (refine AW.seq_k ?_; intro K hK)
   refine AW.region ?_
   refine awP (op_lss rfl rfl rfl) ?_; (try simp only [nA, Nat.reduceBEq, Nat.reduceEqDiff, ↓reduceIte, Nat.reduceAdd, Nat.reduceSub])
   refine AWL.nil ?_
   (refine hK _ ?_; clear hK K; (skip))
   (refine AW.seq_k ?_; intro K hK)
   refine AW.cond rfl rfl rfl (fun hc => ?_) (fun hc => ?_)
   ·
    have hc2 := hc; have hlt2 : j < 8 := (by have := of_decide_eq_true hc2; omega)
    refine AW.skip ?_
    (refine hK _ ?_; clear hK K; (skip))
    (refine AW.seq_k ?_; intro K hK)
    refine AW.block ?_
    (refine AW.seq_k ?_; intro K hK)
    refine AW.region ?_
    refine awP (op_move rfl rfl) ?_; (simp only [nA, ↓reduceIte])
    refine awP (op_and1 rfl rfl rfl) ?_; (try simp only [nA, Nat.reduceBEq, Nat.reduceEqDiff, ↓reduceIte, Nat.reduceAdd, Nat.reduceSub])
    (refine awP (op_eql rfl rfl rfl) ?_); (try simp only [nA, Nat.reduceBEq, Nat.reduceEqDiff, ↓reduceIte, Nat.reduceAdd, Nat.reduceSub])
    refine AWL.nil ?_
    (refine hK _ ?_; clear hK K; (skip))
    refine AW.cond rfl rfl rfl (fun hc => ?_) (fun hc => ?_)
    ·
     have hc3 := hc
     refine AW.region ?_
     refine awP (op_move rfl rfl) ?_; (simp only [nA, ↓reduceIte])
     refine awP (op_shr32 (b := shN j (UInt32.ofNat i) >>> 1) 1 rfl rfl rfl rfl (by decide) (sh_n 1 rfl)) ?_; (try simp only [nA, Nat.reduceBEq, Nat.reduceEqDiff, ↓reduceIte, Nat.reduceAdd, Nat.reduceSub])
     refine awP (op_xor32 (b := 3988292384) rfl rfl rfl) ?_; (try simp only [nA, Nat.reduceBEq, Nat.reduceEqDiff, ↓reduceIte, Nat.reduceAdd, Nat.reduceSub])
     refine awP (op_assign rfl rfl) ?_; (simp only [nA])
     refine AWL.nil ?_
     (try simp only [thenE, inBlk, Nat.reduceEqDiff, ↓reduceIte])
     (refine hK _ ?_; clear hK K; (skip))
     refine AW.region ?_
     (refine awP (op_addi rfl rfl rfl (by omega)) ?_); (try simp only [nA, Nat.reduceBEq, Nat.reduceEqDiff, ↓reduceIte, Nat.reduceAdd, Nat.reduceSub])
     refine awP (op_move rfl rfl) ?_; (simp only [nA])
     skip
     refine AWL.nil ?_
     refine ⟨j + 1, by omega, by omega, ⟨rfl, rfl, rfl, rfl, by exact congrArg (fun z : UInt32 => AV.v (.int .u32 (z.toNat : Int))) (Eq.trans (sh1_t hc3).symm (shN_last _ _).symm), by exact congrArg (fun z => AV.v (.int .i64 z)) (by omega), trivial⟩, (by rfl), (by rfl)⟩
    have hc3 := hc
    refine AW.region ?_
    refine awP (op_move rfl rfl) ?_; (simp only [nA, ↓reduceIte])
    refine awP (op_shr32 (b := shN j (UInt32.ofNat i) >>> 1) 1 rfl rfl rfl rfl (by decide) (sh_n 1 rfl)) ?_; (try simp only [nA, Nat.reduceBEq, Nat.reduceEqDiff, ↓reduceIte, Nat.reduceAdd, Nat.reduceSub])
    refine awP (op_assign rfl rfl) ?_; (simp only [nA])
    refine AWL.nil ?_
    (try simp only [thenE, inBlk, Nat.reduceEqDiff, ↓reduceIte])
    (refine hK _ ?_; clear hK K; (skip))
    refine AW.region ?_
    (refine awP (op_addi rfl rfl rfl (by omega)) ?_); (try simp only [nA, Nat.reduceBEq, Nat.reduceEqDiff, ↓reduceIte, Nat.reduceAdd, Nat.reduceSub])
    refine awP (op_move rfl rfl) ?_; (simp only [nA])
    skip
    refine AWL.nil ?_
    refine ⟨j + 1, by omega, by omega, ⟨rfl, rfl, rfl, rfl, by exact congrArg (fun z : UInt32 => AV.v (.int .u32 (z.toNat : Int))) (Eq.trans (sh1_f hc3).symm (shN_last _ _).symm), by exact congrArg (fun z => AV.v (.int .i64 z)) (by omega), trivial⟩, (by rfl), (by rfl)⟩
   have hc2 := hc; have hje : j = 8 := (by have := of_decide_eq_false hc2; omega); subst hje
   refine AW.exit ?_; (try simp only [thenE, inBlk, Nat.reduceEqDiff, ↓reduceIte])
   clear hK K
   (refine hK _ ?_; clear hK K; (skip))
   refine AW.region ?_
   refine awP (op_move rfl rfl) ?_; (simp only [nA, ↓reduceIte])
   refine awP (op_move rfl rfl) ?_; (simp only [nA, ↓reduceIte])
   refine awP (op_ia_arr i 1 rfl rfl rfl rfl Tryd.underlying102 rfl hlt sz100 (j' := i) (by omega)) ?_; (try simp only [nA, Nat.reduceBEq, Nat.reduceEqDiff, ↓reduceIte, Nat.reduceAdd, Nat.reduceSub])
   refine awJ (op_store rfl rfl rfl rfl rfl rfl sz100 rfl (by rw [tabA_len]; show i + 1 ≤ 256; omega) (tab_set hlt)) ?_; (try simp only [nA, Nat.reduceBEq, Nat.reduceEqDiff, ↓reduceIte, Nat.reduceAdd, Nat.reduceSub])
   refine AWL.nil ?_
   (try simp only [thenE, inBlk, Nat.reduceEqDiff, ↓reduceIte])
   (refine hK _ ?_; clear hK K; (skip))
   refine AW.region ?_
   (refine awP (op_addi rfl rfl rfl (by omega)) ?_); (try simp only [nA, Nat.reduceBEq, Nat.reduceEqDiff, ↓reduceIte, Nat.reduceAdd, Nat.reduceSub])
   refine awP (op_move rfl rfl) ?_; (simp only [nA])
   skip
   refine AWL.nil ?_
   refine ⟨i + 1, by omega, by omega, ⟨rfl, rfl, by exact congrArg (fun z => AV.v (.int .i64 z)) (by omega), trivial⟩, (by rfl), (by rfl)⟩
  have hc1 := hc; have hie : i = 256 := (by have := of_decide_eq_false hc1; omega); subst hie
  refine AW.exit ?_; (try simp only [thenE, inBlk, Nat.reduceEqDiff, ↓reduceIte])
  clear hK K
  (refine hK _ ?_; clear hK K; (skip))
  (refine AW.seq_k ?_; intro K hK)
  refine AW.region ?_
  refine awR (op_load_ptr rfl rfl rfl rfl ag102 sz102 (by rw [tabA_len]; exact Nat.le_refl _) tab_ld) ?_; (try simp only [nA, Nat.reduceBEq, Nat.reduceEqDiff, ↓reduceIte, Nat.reduceAdd, Nat.reduceSub])
  refine awJ (op_store rfl rfl rfl rfl rfl rfl sz102 (tabA_len _) (by rw [tabA_len, tabA_len]; exact Nat.le_refl _) tab_store) ?_; (try simp only [nA, Nat.reduceBEq, Nat.reduceEqDiff, ↓reduceIte, Nat.reduceAdd, Nat.reduceSub])
  refine AWL.nil ?_
  (refine hK _ ?_; clear hK K; (skip))
  skip
  refine AW.ret ?_; (try simp only [thenE, inBlk, Nat.reduceEqDiff, ↓reduceIte]); exact RQ.of (.inl rfl) rfl (.cell (bl rfl) rfl rfl rfl ag102 sz102 (by rw [tabA_len]; exact Nat.le_refl _) tab_ld rfl .nil) (by simp) rfl (fun r x h => by simp at h)
end Go.Proofs.YtfmnaigedgmhoaaDoor
namespace Go.Proofs.YtfmnaigedgmhoaaDoor
open Go.RowKit
set_option linter.unusedSimpArgs false
set_option linter.unusedVariables false
set_option maxRecDepth 100000
theorem w32i (i : Int) : IntKind.wrap .u32 i = ((u32 i).toNat : Int) := by
  rw [← u32_mod]
  unfold IntKind.wrap
  simp [IntKind.bits, IntKind.signed]
theorem tab_flat : ∀ c ∈ tabA 256, flatA c = true := fun c hc => by
  unfold tabA at hc
  obtain ⟨i, _, rfl⟩ := List.mem_map.1 hc
  split <;> rfl
set_option maxHeartbeats 8000000 in
theorem C88 {i : Int} {l : BL} (hl : l.length ≤ 9223372036854775807) : Fn Tryd.prog 88 [] [.rop (tabA 256), .v (.int .i64 i), .ro (l.map bv)] [.v (.int .u32 ((chk i l).toNat : Int))] [] := by
  refine Spec.body Tryd.func88 rfl Tryd.ntmps88 (by simp) rfl ?_; intro S0 own0 v0 w0 gl
  (refine AW.seq_k ?_; intro K hK)
  refine AW.region ?_
  refine awP (op_assign rfl rfl) ?_; (try simp only [nA, Nat.reduceBEq, Nat.reduceEqDiff, ↓reduceIte, Nat.reduceAdd, Nat.reduceSub])
  refine AWL.nil ?_
  (refine hK _ ?_; clear hK K; (try simp only [nA, Nat.reduceBEq, Nat.reduceEqDiff, ↓reduceIte, Nat.reduceAdd, Nat.reduceSub]))
  (refine AW.seq_k ?_; intro K hK)
  refine AW.region ?_
  refine awP (op_move rfl rfl) ?_; (simp only [nA, ↓reduceIte])
  refine awP (op_move rfl rfl) ?_; (simp only [nA, ↓reduceIte])
  refine awP (op_move rfl rfl) ?_; (simp only [nA, ↓reduceIte])
  refine awP (op_conv rfl rfl Tryd.underlying3 Tryd.underlying100 (w32i i)) ?_; (try simp only [nA, Nat.reduceBEq, Nat.reduceEqDiff, ↓reduceIte, Nat.reduceAdd, Nat.reduceSub])
  refine awJ (op_call (b := false) rfl en85 (C85 (c := u32 i)) (RL.cons (by exact View.same rfl) (RL.nil)) rfl (fun h => by cases h) rfl rfl) ?_; (try simp only [nA, Nat.reduceBEq, Nat.reduceEqDiff, ↓reduceIte, Nat.reduceAdd, Nat.reduceSub])
  refine awJ (OpQ.j (op_callQ (b := true) rfl en105 (C105 (r := 4294967295) (l := fourL (u32 i)) (by rw [fourL_len]; decide)) (RL.cons (by exact View.same rfl) (RL.cons (by exact View.same rfl) (RL.cons (by exact View.same rfl) (RL.nil)))) rfl)) ?_; (try simp only [nA, Nat.reduceBEq, Nat.reduceEqDiff, ↓reduceIte, Nat.reduceAdd, Nat.reduceSub])
  refine awP (op_move rfl rfl) ?_; (simp only [nA, ↓reduceIte])
  refine awJ (OpQ.j (op_callQ (b := true) rfl en105 (C105 (r := crc 4294967295 (fourL (u32 i))) (l := l) hl) (RL.cons (by exact View.same rfl) (RL.cons (by exact View.same rfl) (RL.cons (by exact View.same rfl) (RL.nil)))) rfl)) ?_; (try simp only [nA, Nat.reduceBEq, Nat.reduceEqDiff, ↓reduceIte, Nat.reduceAdd, Nat.reduceSub])
  refine awP (op_not32 rfl rfl) ?_; (try simp only [nA, Nat.reduceBEq, Nat.reduceEqDiff, ↓reduceIte, Nat.reduceAdd, Nat.reduceSub])
  refine awP (op_assign rfl rfl) ?_; (simp only [nA])
  refine AWL.nil ?_
  (refine hK _ ?_; clear hK K; (skip))
  skip
  refine AW.ret ?_; (try simp only [thenE, inBlk, Nat.reduceEqDiff, ↓reduceIte]); exact RQ.of0 rfl (.tmp (bl rfl) rfl rfl .nil)
set_option maxHeartbeats 8000000 in
theorem C86 {i : Int} {l : BL} (hl : l.length ≤ 9223372036854775807) : Fn Tryd.prog 86 [] [.v (.int .i64 i), .ro (l.map bv)] [.v (.int .u32 ((chk i l).toNat : Int))] [] := by
  refine Spec.body Tryd.func86 rfl Tryd.ntmps86 (by simp) rfl ?_; intro S0 own0 v0 w0 gl
  (refine AW.seq_k ?_; intro K hK)
  refine AW.region ?_
  refine awP (op_assign rfl rfl) ?_; (try simp only [nA, Nat.reduceBEq, Nat.reduceEqDiff, ↓reduceIte, Nat.reduceAdd, Nat.reduceSub])
  refine AWL.nil ?_
  (refine hK _ ?_; clear hK K; (try simp only [nA, Nat.reduceBEq, Nat.reduceEqDiff, ↓reduceIte, Nat.reduceAdd, Nat.reduceSub]))
  (refine AW.seq_k ?_; intro K hK)
  refine AW.region ?_
  refine awJ (op_call (b := false) rfl en47 (C47) (RL.nil) rfl (fun h => by cases h) rfl rfl) ?_; (try simp only [nA, Nat.reduceBEq, Nat.reduceEqDiff, ↓reduceIte, Nat.reduceAdd, Nat.reduceSub])
  refine awJ (op_alloc rfl ze102' tabA_zero) ?_; (simp only [nA, Nat.reduceBEq, Nat.reduceEqDiff, ↓reduceIte])
  refine awJ (op_store rfl rfl rfl rfl rfl rfl sz102 (tabA_len _) (by rw [tabA_len, tabA_len]; exact Nat.le_refl _) tab_store) ?_; (try simp only [nA, Nat.reduceBEq, Nat.reduceEqDiff, ↓reduceIte, Nat.reduceAdd, Nat.reduceSub]); refine AWL.gh (Gh.freezeP 5 (bl rfl) rfl rfl tab_flat) ?_; (try simp only [nA, Nat.reduceBEq, Nat.reduceEqDiff, ↓reduceIte, Nat.reduceAdd, Nat.reduceSub])
  refine AWL.nil ?_
  (refine hK _ ?_; clear hK K; (skip))
  (refine AW.seq_k ?_; intro K hK)
  refine AW.region ?_
  refine awP (op_move rfl rfl) ?_; (simp only [nA, ↓reduceIte])
  refine awP (op_move rfl rfl) ?_; (simp only [nA, ↓reduceIte])
  refine awJ (OpQ.j (op_callQ (b := true) rfl en88 (C88 (i := i) (l := l) hl) (RL.cons (by exact View.same rfl) (RL.cons (by exact View.same rfl) (RL.cons (by exact View.same rfl) (RL.nil)))) rfl)) ?_; (try simp only [nA, Nat.reduceBEq, Nat.reduceEqDiff, ↓reduceIte, Nat.reduceAdd, Nat.reduceSub])
  refine awP (op_assign rfl rfl) ?_; (simp only [nA])
  refine AWL.nil ?_
  (refine hK _ ?_; clear hK K; (skip))
  skip
  refine AW.ret ?_; (try simp only [thenE, inBlk, Nat.reduceEqDiff, ↓reduceIte]); exact RQ.of0 rfl (.tmp (bl rfl) rfl rfl .nil)
set_option maxHeartbeats 8000000 in
theorem C87r {a b : BL} : Fn Tryd.prog 87 [] [.ro (a.map bv), .ro (b.map bv)] [.v (.bool ((⟨a.toArray⟩ : ByteArray).toList == (⟨b.toArray⟩ : ByteArray).toList))] [] := by
  refine Spec.body Tryd.func87 rfl Tryd.ntmps87 (by simp) rfl ?_; intro S0 own0 v0 w0 gl
  (refine AW.seq_k ?_; intro K hK)
  refine AW.region ?_
  refine awP (op_assign rfl rfl) ?_; (try simp only [nA, Nat.reduceBEq, Nat.reduceEqDiff, ↓reduceIte, Nat.reduceAdd, Nat.reduceSub])
  refine AWL.nil ?_
  (refine hK _ ?_; clear hK K; (try simp only [nA, Nat.reduceBEq, Nat.reduceEqDiff, ↓reduceIte, Nat.reduceAdd, Nat.reduceSub]))
  (refine AW.seq_k ?_; intro K hK)
  refine AW.region ?_
  refine awP (op_move rfl rfl) ?_; (simp only [nA, ↓reduceIte])
  refine awR (op_b2sR (l := a) rfl rfl Tryd.underlying43 Tryd.underlying5 Tryd.underlying9 rfl) ?_; (try simp only [nA, Nat.reduceBEq, Nat.reduceEqDiff, ↓reduceIte, Nat.reduceAdd, Nat.reduceSub])
  refine awP (op_move rfl rfl) ?_; (simp only [nA, ↓reduceIte])
  refine awR (op_b2sR (l := b) rfl rfl Tryd.underlying43 Tryd.underlying5 Tryd.underlying9 rfl) ?_; (try simp only [nA, Nat.reduceBEq, Nat.reduceEqDiff, ↓reduceIte, Nat.reduceAdd, Nat.reduceSub])
  (refine awP (op_seql rfl rfl rfl) ?_); (try simp only [nA, Nat.reduceBEq, Nat.reduceEqDiff, ↓reduceIte, Nat.reduceAdd, Nat.reduceSub])
  refine awP (op_assign rfl rfl) ?_; (simp only [nA])
  refine AWL.nil ?_
  (refine hK _ ?_; clear hK K; (skip))
  skip
  refine AW.ret ?_; (try simp only [thenE, inBlk, Nat.reduceEqDiff, ↓reduceIte]); exact RQ.of0 rfl (.tmp (bl rfl) rfl rfl .nil)
set_option maxHeartbeats 8000000 in
theorem C87 {a b : BL} : Fn Tryd.prog 87 [] [.ro (a.map bv), .ro (b.map bv)] [.v (.bool (a == b))] [] := by
  have h := C87r (a := a) (b := b)
  rwa [ba_list, ba_list] at h
end Go.Proofs.YtfmnaigedgmhoaaDoor
namespace Go.Proofs.YtfmnaigedgmhoaaDoor
open Go.RowKit
set_option linter.unusedSimpArgs false
set_option linter.unusedVariables false
set_option maxRecDepth 100000
def frs (i : Int) (b : BL) : BL × Int := match firstL i b with
  | none => ([], 0)
  | some r => (r, ((r.length + 8 : Nat) : Int))
theorem get_b {b : BL} {k : Nat} (h : k < b.length) : (b.map bv)[k]? = some (bv (b.getD k 0)) := by
  rw [List.getElem?_map, List.getD_eq_getElem?_getD, List.getElem?_eq_getElem h]; rfl
abbrev bad1 (b : BL) : Bool := (decide ((b.length : Int) < 8) || !decide (((b.getD 0 0).toNat : Int) = ((~~~ b.getD 2 0).toNat : Int))) || !decide (((b.getD 1 0).toNat : Int) = ((~~~ b.getD 3 0).toNat : Int))
theorem u8_ne {x y : UInt8} (h : ¬ (x.toNat : Int) = (y.toNat : Int)) : x ≠ y := fun e => h (by rw [e])
theorem frs_1 {i : Int} {b : BL} (h : bad1 b = true) : frs i b = ([], 0) := by
  unfold frs firstL
  unfold bad1 at h
  rw [Bool.or_eq_true, Bool.or_eq_true, Bool.not_eq_true', Bool.not_eq_true', decide_eq_true_eq, decide_eq_false_iff_not, decide_eq_false_iff_not] at h
  by_cases h1 : b.length < 8
  · rw [if_pos h1]
  rw [if_neg h1]
  by_cases h2 : b.getD 0 0 ≠ ~~~ b.getD 2 0
  · rw [if_pos h2]
  rw [if_neg h2, if_pos]
  rcases h with (h | h) | h
  · omega
  · exact absurd (u8_ne h) h2
  exact u8_ne h
theorem ok_1 {b : BL} (h : bad1 b = false) : 8 ≤ b.length ∧ ¬ b.getD 0 0 ≠ ~~~ b.getD 2 0 ∧ ¬ b.getD 1 0 ≠ ~~~ b.getD 3 0 := by
  unfold bad1 at h
  rw [Bool.or_eq_false_iff, Bool.or_eq_false_iff, Bool.not_eq_false', Bool.not_eq_false', decide_eq_false_iff_not, decide_eq_true_eq, decide_eq_true_eq] at h
  refine ⟨by omega, fun h' => h' (UInt8.toNat_inj.1 (by omega)), fun h' => h' (UInt8.toNat_inj.1 (by omega))⟩
theorem lenL_le (b : BL) : lenL b ≤ 65535 := by
  unfold lenL
  have := (b.getD 0 0).toNat_lt
  have := (b.getD 1 0).toNat_lt
  omega
theorem frs_2 {i : Int} {b : BL} (h : bad1 b = false) (h2 : 4096 < lenL b ∨ b.length < lenL b + 8) : frs i b = ([], 0) := by
  obtain ⟨h3, h4, h5⟩ := ok_1 h
  unfold frs firstL
  rw [if_neg (by omega), if_neg h4, if_neg h5]
  by_cases h6 : 4096 < lenL b
  · rw [if_pos h6]
  rw [if_neg h6, if_pos (by omega)]
theorem frs_3 {i : Int} {b : BL} (h : bad1 b = false) (h1 : ¬ 4096 < lenL b) (h2 : ¬ b.length < lenL b + 8) :
    frs i b = if tailL b (lenL b) = fourL (chk i (recL b (lenL b))) then (recL b (lenL b), ((lenL b + 8 : Nat) : Int)) else ([], 0) := by
  obtain ⟨h3, h4, h5⟩ := ok_1 h
  have hr : (recL b (lenL b)).length = lenL b := by unfold recL; rw [List.length_take, List.length_drop]; omega
  unfold frs firstL
  rw [if_neg (by omega), if_neg h4, if_neg h5, if_neg h1, if_neg h2]
  split
  · rename_i h6
    split at h6
    · cases h6
    rename_i h7; rw [if_neg h7]
  rename_i r h6
  split at h6
  · rename_i h7
    injection h6 with h6; subst h6
    rw [if_pos h7, hr]
  cases h6
set_option maxHeartbeats 8000000 in
theorem C48 {i : Int} {b : BL} : Fn Tryd.prog 48 [] [.rop (tabA 256), .v (.int .i64 i), .ro (b.map bv)] [.ro ((frs i b).1.map bv), .v (.int .i64 (frs i b).2)] [] := by
  refine Spec.body Tryd.func48 rfl Tryd.ntmps48 (by simp) rfl ?_; intro S0 own0 v0 w0 gl
  (refine AW.seq_k ?_; intro K hK)
  refine AW.region ?_
  refine awP (op_assign rfl rfl) ?_; (try simp only [nA, Nat.reduceBEq, Nat.reduceEqDiff, ↓reduceIte, Nat.reduceAdd, Nat.reduceSub])
  refine awP (op_assign rfl rfl) ?_; (try simp only [nA, Nat.reduceBEq, Nat.reduceEqDiff, ↓reduceIte, Nat.reduceAdd, Nat.reduceSub])
  refine AWL.nil ?_
  (refine hK _ ?_; clear hK K; (try simp only [nA, Nat.reduceBEq, Nat.reduceEqDiff, ↓reduceIte, Nat.reduceAdd, Nat.reduceSub]))
  (refine AW.seq_k ?_; intro K hK)
  (refine AW.seq_k ?_; intro K hK)
  refine AW.quiet mix (by kernel_rfl) ?_
  refine aqP (op_move rfl rfl) ?_; (simp only [nA, ↓reduceIte])
  refine aqP (op_len_ro (n := b.length) rfl rfl Tryd.underlying43 (.inr (.inl ⟨_, rfl, by simp⟩))) ?_; (try simp only [nA, Nat.reduceBEq, Nat.reduceEqDiff, ↓reduceIte, Nat.reduceAdd, Nat.reduceSub])
  refine aqP (op_lss rfl rfl rfl) ?_; (try simp only [nA, Nat.reduceBEq, Nat.reduceEqDiff, ↓reduceIte, Nat.reduceAdd, Nat.reduceSub])
  refine aqP (op_move rfl rfl) ?_; (simp only [nA])
  refine' aqOr' [_, _, _, _, _, _, _, _] [14,15,16,17,18,19,20,21] rfl rfl rfl rfl rfl rfl rfl rfl rfl rfl rfl rfl (fun hb => ?_) ?_; rotate_left
  ·
   (try simp only [hcS] at hb)
   refine aqP (op_move rfl rfl) ?_; (simp only [nA, ↓reduceIte])
   refine aqP (op_ia_ro 0 rfl (.inl rfl) rfl Tryd.underlying43 rfl (get_b (by omega)) (by exact sz5) (bl rfl)) ?_; (try simp only [nA, Nat.reduceBEq, Nat.reduceEqDiff, ↓reduceIte, Nat.reduceAdd, Nat.reduceSub])
   (refine aqR (op_load_rop1 rfl rfl ag5) ?_); (try simp only [nA, Nat.reduceBEq, Nat.reduceEqDiff, ↓reduceIte, Nat.reduceAdd, Nat.reduceSub])
   refine aqP (op_move rfl rfl) ?_; (simp only [nA, ↓reduceIte])
   refine aqP (op_ia_ro 2 rfl (.inl rfl) rfl Tryd.underlying43 rfl (get_b (by omega)) (by exact sz5) (bl rfl)) ?_; (try simp only [nA, Nat.reduceBEq, Nat.reduceEqDiff, ↓reduceIte, Nat.reduceAdd, Nat.reduceSub])
   (refine aqR (op_load_rop1 rfl rfl ag5) ?_); (try simp only [nA, Nat.reduceBEq, Nat.reduceEqDiff, ↓reduceIte, Nat.reduceAdd, Nat.reduceSub])
   refine aqP (op_not8 rfl rfl) ?_; (try simp only [nA, Nat.reduceBEq, Nat.reduceEqDiff, ↓reduceIte, Nat.reduceAdd, Nat.reduceSub])
   (refine aqP (op_neq rfl rfl rfl) ?_); (try simp only [nA, Nat.reduceBEq, Nat.reduceEqDiff, ↓reduceIte, Nat.reduceAdd, Nat.reduceSub])
   (refine aqSeg rfl rfl rfl ?_; repeat (first | exact fun _ _ => rfl | refine upd_out rfl ?_))
  refine aqP (op_move rfl rfl) ?_; (simp only [nA])
  refine' aqOr' [_, _, _, _, _, _, _, _] [24,25,26,27,28,29,30,31] rfl rfl rfl rfl rfl rfl rfl rfl rfl rfl rfl rfl (fun hb => ?_) ?_; rotate_left
  ·
   (try simp only [hcS] at hb)
   refine aqP (op_move rfl rfl) ?_; (simp only [nA, Nat.reduceEqDiff, ↓reduceIte])
   refine aqP (op_ia_ro 1 rfl (.inl rfl) rfl Tryd.underlying43 rfl (get_b (by omega)) (by exact sz5) (bl rfl)) ?_; (try simp only [nA, Nat.reduceBEq, Nat.reduceEqDiff, ↓reduceIte, Nat.reduceAdd, Nat.reduceSub])
   (refine aqR (op_load_rop1 rfl rfl ag5) ?_); (try simp only [nA, Nat.reduceBEq, Nat.reduceEqDiff, ↓reduceIte, Nat.reduceAdd, Nat.reduceSub])
   refine aqP (op_move rfl rfl) ?_; (simp only [nA, Nat.reduceEqDiff, ↓reduceIte])
   refine aqP (op_ia_ro 3 rfl (.inl rfl) rfl Tryd.underlying43 rfl (get_b (by omega)) (by exact sz5) (bl rfl)) ?_; (try simp only [nA, Nat.reduceBEq, Nat.reduceEqDiff, ↓reduceIte, Nat.reduceAdd, Nat.reduceSub])
   (refine aqR (op_load_rop1 rfl rfl ag5) ?_); (try simp only [nA, Nat.reduceBEq, Nat.reduceEqDiff, ↓reduceIte, Nat.reduceAdd, Nat.reduceSub])
   refine aqP (op_not8 rfl rfl) ?_; (try simp only [nA, Nat.reduceBEq, Nat.reduceEqDiff, ↓reduceIte, Nat.reduceAdd, Nat.reduceSub])
   (refine aqP (op_neq rfl rfl rfl) ?_); (try simp only [nA, Nat.reduceBEq, Nat.reduceEqDiff, ↓reduceIte, Nat.reduceAdd, Nat.reduceSub])
   (refine aqSeg rfl rfl rfl ?_; repeat (first | exact fun _ _ => rfl | refine upd_out rfl ?_))
  refine AQ.nil ?_
  (refine hK _ ?_; clear hK K; (skip))
  refine AW.cond rfl rfl rfl (fun hc => ?_) (fun hc => ?_)
  ·
   have hc1 := hc
   (refine AW.seq_k ?_; intro K hK)
   refine AW.region ?_
   refine awP (op_assign rfl rfl) ?_; (try simp only [nA, Nat.reduceBEq, Nat.reduceEqDiff, ↓reduceIte, Nat.reduceAdd, Nat.reduceSub])
   refine awP (op_assign rfl rfl) ?_; (try simp only [nA, Nat.reduceBEq, Nat.reduceEqDiff, ↓reduceIte, Nat.reduceAdd, Nat.reduceSub])
   refine AWL.nil ?_
   (refine hK _ ?_; clear hK K; (skip))
   refine AW.gh (Gh.nil (e := 5) 6 (bl rfl) rfl sz5) ?_; (simp only [nA, Nat.reduceBEq, Nat.reduceEqDiff, ↓reduceIte]); refine AW.gh (Gh.freeze 6 (bl rfl) rfl rfl (by simp) (es' := ([] : BL).map bv) rfl) ?_; (try simp only [nA, Nat.reduceBEq, Nat.reduceEqDiff, ↓reduceIte, Nat.reduceAdd, Nat.reduceSub])
   refine AW.ret ?_; (try simp only [thenE, inBlk, Nat.reduceEqDiff, ↓reduceIte]); rw [frs_1 hc1]; exact RQ.of0 rfl (.tmp (bl rfl) rfl rfl (.tmp (bl rfl) rfl rfl .nil))
  have hc1 := hc; obtain ⟨h8, h4, h5⟩ := ok_1 hc1; have hN := lenL_le b; have l0 := (b.getD 0 0).toNat_lt; have l1 := (b.getD 1 0).toNat_lt
  refine AW.skip ?_
  (refine hK _ ?_; clear hK K; (skip))
  (refine AW.seq_k ?_; intro K hK)
  refine AW.quiet mix (by kernel_rfl) ?_
  refine aqP (op_move rfl rfl) ?_; (simp only [nA, Nat.reduceEqDiff, ↓reduceIte])
  refine aqP (op_ia_ro 0 rfl (.inl rfl) rfl Tryd.underlying43 rfl (get_b (by omega)) (by exact sz5) (bl rfl)) ?_; (try simp only [nA, Nat.reduceBEq, Nat.reduceEqDiff, ↓reduceIte, Nat.reduceAdd, Nat.reduceSub])
  (refine aqR (op_load_rop1 rfl rfl ag5) ?_); (try simp only [nA, Nat.reduceBEq, Nat.reduceEqDiff, ↓reduceIte, Nat.reduceAdd, Nat.reduceSub])
  refine aqP (op_conv rfl rfl Tryd.underlying5 Tryd.underlying3 (wrapB _)) ?_; (try simp only [nA, Nat.reduceBEq, Nat.reduceEqDiff, ↓reduceIte, Nat.reduceAdd, Nat.reduceSub])
  refine aqP (op_shl (z := (((b.getD 0 0).toNat * 2 ^ 8 : Nat) : Int)) rfl rfl rfl (by decide) (shlB _ 8 (by decide))) ?_; (try simp only [nA, Nat.reduceBEq, Nat.reduceEqDiff, ↓reduceIte, Nat.reduceAdd, Nat.reduceSub])
  refine aqP (op_move rfl rfl) ?_; (simp only [nA, Nat.reduceEqDiff, ↓reduceIte])
  refine aqP (op_ia_ro 1 rfl (.inl rfl) rfl Tryd.underlying43 rfl (get_b (by omega)) (by exact sz5) (bl rfl)) ?_; (try simp only [nA, Nat.reduceBEq, Nat.reduceEqDiff, ↓reduceIte, Nat.reduceAdd, Nat.reduceSub])
  (refine aqR (op_load_rop1 rfl rfl ag5) ?_); (try simp only [nA, Nat.reduceBEq, Nat.reduceEqDiff, ↓reduceIte, Nat.reduceAdd, Nat.reduceSub])
  refine aqP (op_conv rfl rfl Tryd.underlying5 Tryd.underlying3 (wrapB _)) ?_; (try simp only [nA, Nat.reduceBEq, Nat.reduceEqDiff, ↓reduceIte, Nat.reduceAdd, Nat.reduceSub])
  refine aqP (op_or (z := ((lenL b : Nat) : Int)) rfl rfl rfl (or_add 8 _ _ (by omega) (by omega) (by omega))) ?_; (try simp only [nA, Nat.reduceBEq, Nat.reduceEqDiff, ↓reduceIte, Nat.reduceAdd, Nat.reduceSub])
  refine aqP (op_assign rfl rfl) ?_; (simp only [nA])
  refine AQ.nil ?_
  (refine hK _ ?_; clear hK K; (skip))
  (refine AW.seq_k ?_; intro K hK)
  (refine AW.seq_k ?_; intro K hK)
  refine AW.region (AWL.quiet ?_)
  refine aqP (op_move rfl rfl) ?_; (simp only [nA])
  refine aqP (op_gtr rfl rfl rfl) ?_; (try simp only [nA, Nat.reduceBEq, Nat.reduceEqDiff, ↓reduceIte, Nat.reduceAdd, Nat.reduceSub])
  refine aqP (op_move rfl rfl) ?_; (simp only [nA])
  refine' aqOr' [_, _, _, _, _, _] [46,47,48,49,50,51] rfl rfl rfl rfl rfl rfl rfl rfl rfl rfl rfl rfl (fun hb => ?_) ?_; rotate_left
  ·
   (try simp only [hcS] at hb)
   refine aqP (op_move rfl rfl) ?_; (simp only [nA, Nat.reduceEqDiff, ↓reduceIte])
   refine aqP (op_len_ro (n := b.length) rfl rfl Tryd.underlying43 (.inr (.inl ⟨_, rfl, by simp⟩))) ?_; (try simp only [nA, Nat.reduceBEq, Nat.reduceEqDiff, ↓reduceIte, Nat.reduceAdd, Nat.reduceSub])
   refine aqP (op_move rfl rfl) ?_; (simp only [nA, ↓reduceIte])
   (refine aqP (op_addi rfl rfl rfl (by omega)) ?_); (try simp only [nA, Nat.reduceBEq, Nat.reduceEqDiff, ↓reduceIte, Nat.reduceAdd, Nat.reduceSub])
   (refine aqP (op_addi rfl rfl rfl (by omega)) ?_); (try simp only [nA, Nat.reduceBEq, Nat.reduceEqDiff, ↓reduceIte, Nat.reduceAdd, Nat.reduceSub])
   refine aqP (op_lss rfl rfl rfl) ?_; (try simp only [nA, Nat.reduceBEq, Nat.reduceEqDiff, ↓reduceIte, Nat.reduceAdd, Nat.reduceSub])
   (refine aqSeg rfl rfl rfl ?_; repeat (first | exact fun _ _ => rfl | refine upd_out rfl ?_))
  refine AQ.nil ?_
  (refine hK _ ?_; clear hK K; (skip))
  refine AW.cond rfl rfl rfl (fun hc => ?_) (fun hc => ?_)
  ·
   have hc2 := hc; have h6 : 4096 < (lenL b) ∨ b.length < (lenL b) + 8 := (by rw [Bool.or_eq_true, decide_eq_true_eq, decide_eq_true_eq] at hc2; omega)
   (refine AW.seq_k ?_; intro K hK)
   refine AW.region ?_
   refine awP (op_assign rfl rfl) ?_; (try simp only [nA, Nat.reduceBEq, Nat.reduceEqDiff, ↓reduceIte, Nat.reduceAdd, Nat.reduceSub])
   refine awP (op_assign rfl rfl) ?_; (try simp only [nA, Nat.reduceBEq, Nat.reduceEqDiff, ↓reduceIte, Nat.reduceAdd, Nat.reduceSub])
   refine AWL.nil ?_
   (refine hK _ ?_; clear hK K; (skip))
   refine AW.gh (Gh.nil (e := 5) 6 (bl rfl) rfl sz5) ?_; (simp only [nA, Nat.reduceBEq, Nat.reduceEqDiff, ↓reduceIte]); refine AW.gh (Gh.freeze 6 (bl rfl) rfl rfl (by simp) (es' := ([] : BL).map bv) rfl) ?_; (try simp only [nA, Nat.reduceBEq, Nat.reduceEqDiff, ↓reduceIte, Nat.reduceAdd, Nat.reduceSub])
   refine AW.ret ?_; (try simp only [thenE, inBlk, Nat.reduceEqDiff, ↓reduceIte]); rw [frs_2 hc1 h6]; exact RQ.of0 rfl (.tmp (bl rfl) rfl rfl (.tmp (bl rfl) rfl rfl .nil))
  have hc2 := hc; have h6 : ¬ 4096 < (lenL b) ∧ ¬ b.length < (lenL b) + 8 := (by rw [Bool.or_eq_false_iff, decide_eq_false_iff_not, decide_eq_false_iff_not] at hc2; omega); have h7 := frs_3 (i := i) hc1 h6.1 h6.2
  refine AW.skip ?_
  (refine hK _ ?_; clear hK K; (skip))
  (refine AW.seq_k ?_; intro K hK)
  refine AW.region ?_
  refine awP (op_move rfl rfl) ?_; (simp only [nA, Nat.reduceEqDiff, ↓reduceIte])
  refine awP (op_move rfl rfl) ?_; (simp only [nA, Nat.reduceEqDiff, ↓reduceIte])
  (refine awP (op_addi rfl rfl rfl (by omega)) ?_); (try simp only [nA, Nat.reduceBEq, Nat.reduceEqDiff, ↓reduceIte, Nat.reduceAdd, Nat.reduceSub])
  refine awP (op_slice_ro 4 (4 + (lenL b)) rfl (.inl rfl) (by exact ⟨_, rfl⟩) (by exact ⟨_, rfl⟩) (by omega) (by rw [List.length_map]; omega) Tryd.underlying43 sz5 (bv_len _) (es' := (recL b (lenL b)).map bv) (by rw [Nat.add_sub_cancel_left, recL, List.map_take, List.map_drop])) ?_; (try simp only [nA, Nat.reduceBEq, Nat.reduceEqDiff, ↓reduceIte, Nat.reduceAdd, Nat.reduceSub])
  refine awP (op_assign rfl rfl) ?_; (simp only [nA])
  refine AWL.nil ?_
  (refine hK _ ?_; clear hK K; (skip))
  (refine AW.seq_k ?_; intro K hK)
  (refine AW.seq_k ?_; intro K hK)
  refine AW.ad [] mix rfl ?_
  refine adP 0 rfl (fun T' ok => op_move rfl rfl) (by exact trivial) (by kernel_rfl) (by kernel_rfl) ?_; (simp only [nA, Nat.reduceBEq, Nat.reduceEqDiff, ↓reduceIte])
  refine adP 1 rfl (fun T' ok => op_move rfl rfl) (by exact trivial) (by kernel_rfl) (by kernel_rfl) ?_; (simp only [nA, Nat.reduceEqDiff, ↓reduceIte])
  (refine adP 2 rfl (fun T' ok => op_addi rfl rfl rfl (by omega)) (by exact trivial) (by kernel_rfl) (by kernel_rfl) ?_); (try simp only [nA, Nat.reduceBEq, Nat.reduceEqDiff, ↓reduceIte, Nat.reduceAdd, Nat.reduceSub])
  refine adP 3 rfl (fun T' ok => op_slice_ro (4 + (lenL b)) (b.map bv).length rfl (.inl rfl) (by exact ⟨_, rfl⟩) (by exact rfl) (by rw [List.length_map]; omega) (Nat.le_refl _) Tryd.underlying43 sz5 (bv_len _) (es' := (b.drop (4 + (lenL b))).map bv) (by rw [List.take_of_length_le (by rw [List.length_drop]; exact Nat.le_refl _), List.map_drop])) (by exact trivial) (by kernel_rfl) (by kernel_rfl) ?_; (try simp only [nA, Nat.reduceBEq, Nat.reduceEqDiff, ↓reduceIte, Nat.reduceAdd, Nat.reduceSub])
  refine adP 4 rfl (fun T' ok => op_slice_ro 0 4 rfl (.inl rfl) (by exact rfl) (by exact ⟨_, rfl⟩) (by omega) (by rw [List.length_map, List.length_drop]; omega) Tryd.underlying43 sz5 (bv_len _) (es' := (tailL b (lenL b)).map bv) (by rw [List.drop_zero, tailL, List.map_take])) (by exact trivial) (by kernel_rfl) (by kernel_rfl) ?_; (try simp only [nA, Nat.reduceBEq, Nat.reduceEqDiff, ↓reduceIte, Nat.reduceAdd, Nat.reduceSub])
  refine adP 5 rfl (fun T' ok => op_move rfl rfl) (by exact trivial) (by kernel_rfl) (by kernel_rfl) ?_; (simp only [nA, Nat.reduceEqDiff, ↓reduceIte])
  refine adP 6 rfl (fun T' ok => op_move rfl rfl) (by exact trivial) (by kernel_rfl) (by kernel_rfl) ?_; (simp only [nA, Nat.reduceEqDiff, ↓reduceIte])
  refine adP 7 rfl (fun T' ok => op_move rfl rfl) (by exact trivial) (by kernel_rfl) (by kernel_rfl) ?_; (simp only [nA, ↓reduceIte])
  refine adQ 8 rfl (fun T' ok => op_callQ (b := true) rfl en88 (C88 (i := i) (l := (recL b (lenL b))) (by unfold recL; rw [List.length_take]; omega)) (RL.cons (by exact View.same rfl) (RL.cons (by exact View.same rfl) (RL.cons (by exact View.same rfl) (RL.nil)))) rfl) (by exact trivial) (by kernel_rfl) (by kernel_rfl) ?_; (try simp only [nA, Nat.reduceBEq, Nat.reduceEqDiff, ↓reduceIte, Nat.reduceAdd, Nat.reduceSub])
  refine adF 9 rfl (fun T' ok => op_callS rfl en85 (C85 (c := chk i (recL b (lenL b)))) (RL.cons (by exact View.same rfl) (RL.nil)) rfl rfl rfl) (by exact trivial) (by kernel_rfl) (by kernel_rfl) ?_; (try simp only [nA, Nat.reduceBEq, Nat.reduceEqDiff, ↓reduceIte, Nat.reduceAdd, Nat.reduceSub])
  refine adQ 10 rfl (fun T' ok => op_callQ (b := true) rfl en87 (C87 (a := tailL b (lenL b)) (b := fourL (chk i (recL b (lenL b))))) (RL.cons (by exact View.same rfl) (RL.cons (by exact View.same rfl) (RL.nil))) rfl) (by exact trivial) (by kernel_rfl) (by kernel_rfl) ?_; (try simp only [nA, Nat.reduceBEq, Nat.reduceEqDiff, ↓reduceIte, Nat.reduceAdd, Nat.reduceSub])
  refine adP 11 rfl (fun T' ok => op_not rfl rfl rfl) (by exact trivial) (by kernel_rfl) (by kernel_rfl) ?_; (try simp only [nA, Nat.reduceBEq, Nat.reduceEqDiff, ↓reduceIte, Nat.reduceAdd, Nat.reduceSub])
  refine adDone (by kernel_rfl) ?_
  (refine hK _ ?_; clear hK K; (skip))
  refine AW.cond rfl rfl rfl (fun hc => ?_) (fun hc => ?_)
  ·
   have hc3 := hc; have h9 : ¬ tailL b (lenL b) = fourL (chk i (recL b (lenL b))) := (by simpa using hc3)
   (refine AW.seq_k ?_; intro K hK)
   refine AW.region ?_
   refine awP (op_assign rfl rfl) ?_; (try simp only [nA, Nat.reduceBEq, Nat.reduceEqDiff, ↓reduceIte, Nat.reduceAdd, Nat.reduceSub])
   refine awP (op_assign rfl rfl) ?_; (try simp only [nA, Nat.reduceBEq, Nat.reduceEqDiff, ↓reduceIte, Nat.reduceAdd, Nat.reduceSub])
   refine AWL.nil ?_
   (refine hK _ ?_; clear hK K; (skip))
   refine AW.gh (Gh.nil (e := 5) 6 (bl rfl) rfl sz5) ?_; (simp only [nA, Nat.reduceBEq, Nat.reduceEqDiff, ↓reduceIte]); refine AW.gh (Gh.freeze 6 (bl rfl) rfl rfl (by simp) (es' := ([] : BL).map bv) rfl) ?_; (try simp only [nA, Nat.reduceBEq, Nat.reduceEqDiff, ↓reduceIte, Nat.reduceAdd, Nat.reduceSub])
   refine AW.ret ?_; (try simp only [thenE, inBlk, Nat.reduceEqDiff, ↓reduceIte]); rw [h7, if_neg h9]; exact RQ.of0 rfl (.tmp (bl rfl) rfl rfl (.tmp (bl rfl) rfl rfl .nil))
  have hc3 := hc; have h9 : tailL b (lenL b) = fourL (chk i (recL b (lenL b))) := (by simpa using hc3)
  refine AW.skip ?_
  (refine hK _ ?_; clear hK K; (skip))
  (refine AW.seq_k ?_; intro K hK)
  refine AW.region ?_
  refine awP (op_move rfl rfl) ?_; (simp only [nA, ↓reduceIte])
  refine awP (op_move rfl rfl) ?_; (simp only [nA, Nat.reduceEqDiff, ↓reduceIte])
  (refine awP (op_addi rfl rfl rfl (by omega)) ?_); (try simp only [nA, Nat.reduceBEq, Nat.reduceEqDiff, ↓reduceIte, Nat.reduceAdd, Nat.reduceSub])
  (refine awP (op_addi rfl rfl rfl (by omega)) ?_); (try simp only [nA, Nat.reduceBEq, Nat.reduceEqDiff, ↓reduceIte, Nat.reduceAdd, Nat.reduceSub])
  refine awP (op_assign rfl rfl) ?_; (simp only [nA, ↓reduceIte])
  refine awP (op_assign rfl rfl) ?_; (simp only [nA, ↓reduceIte])
  refine AWL.nil ?_
  (refine hK _ ?_; clear hK K; (skip))
  skip
  refine AW.ret ?_; (try simp only [thenE, inBlk, Nat.reduceEqDiff, ↓reduceIte]); rw [h7, if_pos h9]; rw [show (((lenL b) + 8 : Nat) : Int) = 4 + ((lenL b) : Int) + 4 by omega]; exact RQ.of0 rfl (.tmp (bl rfl) rfl rfl (.tmp (bl rfl) rfl rfl .nil))
end Go.Proofs.YtfmnaigedgmhoaaDoor
namespace Go.Proofs.YtfmnaigedgmhoaaDoor
open Go.RowKit
set_option linter.unusedSimpArgs false
set_option linter.unusedVariables false
set_option maxRecDepth 100000
theorem hdr_len (n : Nat) : (hdrL n).length = 4 := rfl
theorem w16 {n : Nat} (h : n ≤ 4096) : IntKind.wrap .u16 (n : Int) = (n : Int) := by
  unfold IntKind.wrap
  simp [IntKind.bits, IntKind.signed]; omega
theorem w8n (n : Nat) : IntKind.wrap .u8 (n : Int) = ((UInt8.ofNat n).toNat : Int) := by
  unfold IntKind.wrap
  simp [IntKind.bits, IntKind.signed]
set_option maxHeartbeats 8000000 in
theorem C46 {i : Int} {r : BL} (h0 : 0 ≤ i) (h1 : i ≤ 4194304) (hr : r.length ≤ 4096) : Fn Tryd.prog 46 [] [.v (.int .i64 i), .ro (r.map bv)] [.ro ((frameL i r).map bv), .v (.int .i64 0)] [] := by
  refine Spec.body Tryd.func46 rfl Tryd.ntmps46 (by simp) rfl ?_; intro S0 own0 v0 w0 gl
  (refine AW.seq_k ?_; intro K hK)
  refine AW.region ?_
  refine awP (op_assign rfl rfl) ?_; (try simp only [nA, Nat.reduceBEq, Nat.reduceEqDiff, ↓reduceIte, Nat.reduceAdd, Nat.reduceSub])
  refine awP (op_assign rfl rfl) ?_; (try simp only [nA, Nat.reduceBEq, Nat.reduceEqDiff, ↓reduceIte, Nat.reduceAdd, Nat.reduceSub])
  refine AWL.nil ?_
  (refine hK _ ?_; clear hK K; (try simp only [nA, Nat.reduceBEq, Nat.reduceEqDiff, ↓reduceIte, Nat.reduceAdd, Nat.reduceSub]))
  (refine AW.seq_k ?_; intro K hK)
  (refine AW.seq_k ?_; intro K hK)
  refine AW.region (AWL.quiet ?_)
  refine aqP (op_move rfl rfl) ?_; (simp only [nA, ↓reduceIte])
  refine aqP (op_lss rfl rfl rfl) ?_; (try simp only [nA, Nat.reduceBEq, Nat.reduceEqDiff, ↓reduceIte, Nat.reduceAdd, Nat.reduceSub])
  refine aqP (op_move rfl rfl) ?_; (simp only [nA])
  refine' aqOr' [_, _] [11,12] rfl rfl rfl rfl rfl rfl rfl rfl rfl rfl rfl rfl (fun hb => ?_) ?_; rotate_left
  ·
   (try simp only [hcS] at hb)
   refine aqP (op_move rfl rfl) ?_; (simp only [nA, ↓reduceIte])
   refine aqP (op_gtr rfl rfl rfl) ?_; (try simp only [nA, Nat.reduceBEq, Nat.reduceEqDiff, ↓reduceIte, Nat.reduceAdd, Nat.reduceSub])
   (refine aqSeg rfl rfl rfl ?_; repeat (first | exact fun _ _ => rfl | refine upd_out rfl ?_))
  refine AQ.nil ?_
  (refine hK _ ?_; clear hK K; (skip))
  refine AW.cond rfl rfl rfl (fun hc => ?_) (fun hc => ?_)
  · (simp at hc; omega)
  have hc1 := hc
  refine AW.skip ?_
  (refine hK _ ?_; clear hK K; (skip))
  (refine AW.seq_k ?_; intro K hK)
  (refine AW.seq_k ?_; intro K hK)
  refine AW.region ?_
  refine awP (op_move rfl rfl) ?_; (simp only [nA, Nat.reduceEqDiff, ↓reduceIte])
  refine awP (op_len_ro (n := r.length) rfl rfl Tryd.underlying43 (.inr (.inl ⟨_, rfl, by simp⟩))) ?_; (try simp only [nA, Nat.reduceBEq, Nat.reduceEqDiff, ↓reduceIte, Nat.reduceAdd, Nat.reduceSub])
  refine awP (op_gtr rfl rfl rfl) ?_; (try simp only [nA, Nat.reduceBEq, Nat.reduceEqDiff, ↓reduceIte, Nat.reduceAdd, Nat.reduceSub])
  refine AWL.nil ?_
  (refine hK _ ?_; clear hK K; (skip))
  refine AW.cond rfl rfl rfl (fun hc => ?_) (fun hc => ?_)
  · (simp at hc; omega)
  have hc2 := hc
  refine AW.skip ?_
  (refine hK _ ?_; clear hK K; (skip))
  (refine AW.seq_k ?_; intro K hK)
  refine AW.region ?_
  refine awP (op_move rfl rfl) ?_; (simp only [nA, Nat.reduceEqDiff, ↓reduceIte])
  refine awP (op_len_ro (n := r.length) rfl rfl Tryd.underlying43 (.inr (.inl ⟨_, rfl, by simp⟩))) ?_; (try simp only [nA, Nat.reduceBEq, Nat.reduceEqDiff, ↓reduceIte, Nat.reduceAdd, Nat.reduceSub])
  refine awP (op_conv rfl rfl Tryd.underlying3 Tryd.underlying123 (w16 hr)) ?_; (try simp only [nA, Nat.reduceBEq, Nat.reduceEqDiff, ↓reduceIte, Nat.reduceAdd, Nat.reduceSub])
  refine awP (op_assign rfl rfl) ?_; (simp only [nA])
  refine AWL.nil ?_
  (refine hK _ ?_; clear hK K; (skip))
  (refine AW.seq_k ?_; intro K hK)
  refine AW.region ?_
  refine awP (op_move rfl rfl) ?_; (simp only [nA])
  refine awP (op_shrN (n := 8) (a := r.length) rfl rfl rfl (by decide)) ?_; (try simp only [nA, Nat.reduceBEq, Nat.reduceEqDiff, ↓reduceIte, Nat.reduceAdd, Nat.reduceSub])
  refine awP (op_conv rfl rfl Tryd.underlying123 Tryd.underlying5 (w8n (r.length / 2 ^ 8))) ?_; (try simp only [nA, Nat.reduceBEq, Nat.reduceEqDiff, ↓reduceIte, Nat.reduceAdd, Nat.reduceSub])
  refine awP (op_move rfl rfl) ?_; (simp only [nA, ↓reduceIte])
  refine awP (op_conv rfl rfl Tryd.underlying123 Tryd.underlying5 (w8n r.length)) ?_; (try simp only [nA, Nat.reduceBEq, Nat.reduceEqDiff, ↓reduceIte, Nat.reduceAdd, Nat.reduceSub])
  refine awP (op_move rfl rfl) ?_; (simp only [nA, ↓reduceIte])
  refine awP (op_shrN (n := 8) (a := r.length) rfl rfl rfl (by decide)) ?_; (try simp only [nA, Nat.reduceBEq, Nat.reduceEqDiff, ↓reduceIte, Nat.reduceAdd, Nat.reduceSub])
  refine awP (op_conv rfl rfl Tryd.underlying123 Tryd.underlying5 (w8n (r.length / 2 ^ 8))) ?_; (try simp only [nA, Nat.reduceBEq, Nat.reduceEqDiff, ↓reduceIte, Nat.reduceAdd, Nat.reduceSub])
  refine awP (op_not8 rfl rfl) ?_; (try simp only [nA, Nat.reduceBEq, Nat.reduceEqDiff, ↓reduceIte, Nat.reduceAdd, Nat.reduceSub])
  refine awP (op_move rfl rfl) ?_; (simp only [nA, ↓reduceIte])
  refine awP (op_conv rfl rfl Tryd.underlying123 Tryd.underlying5 (w8n r.length)) ?_; (try simp only [nA, Nat.reduceBEq, Nat.reduceEqDiff, ↓reduceIte, Nat.reduceAdd, Nat.reduceSub])
  refine awP (op_not8 rfl rfl) ?_; (try simp only [nA, Nat.reduceBEq, Nat.reduceEqDiff, ↓reduceIte, Nat.reduceAdd, Nat.reduceSub])
  refine awJ (op_buildSlice (n := 4) rfl [(0, bv (UInt8.ofNat (r.length / 2 ^ 8))), (1, bv (UInt8.ofNat r.length)), (2, bv (~~~ UInt8.ofNat (r.length / 2 ^ 8))), (3, bv (~~~ UInt8.ofNat r.length))] ((hdrL r.length).map bv) Tryd.underlying43 ze5 rfl (by simp) (bs4_s _ _ _ _) (bv_len _) rfl (bl rfl) (by unfold maxLen; decide)) ?_; (simp only [nA, Nat.reduceBEq, Nat.reduceEqDiff, ↓reduceIte])
  refine awP (op_assign rfl rfl) ?_; (simp only [nA])
  refine AWL.nil ?_
  (refine hK _ ?_; clear hK K; (skip))
  (refine AW.seq_k ?_; intro K hK)
  refine AW.region ?_
  refine awP (op_move rfl rfl) ?_; (simp only [nA])
  refine awP (op_move rfl rfl) ?_; (simp only [nA, Nat.reduceEqDiff, ↓reduceIte])
  refine awJ (op_app (r := 0) (k := 1) (len := 4) (es := (hdrL r.length).map bv) (rows := r.map bv) rfl rfl rfl rfl rfl .ro Tryd.underlying43 ze5 (by decide) (bv_len _) (by rw [List.length_map, List.length_map, hdr_len]; omega) (by decide) (es' := (hdrL r.length ++ r).map bv) (by simp) (n := (hdrL r.length ++ r).length) (by simp)) ?_; (simp only [nA, Nat.reduceBEq, Nat.reduceEqDiff, ↓reduceIte])
  refine awP (op_assign rfl rfl) ?_; (simp only [nA])
  refine AWL.nil ?_
  (refine hK _ ?_; clear hK K; (skip))
  (refine AW.seq_k ?_; intro K hK)
  refine AW.region ?_
  refine awP (op_move rfl rfl) ?_; (simp only [nA])
  refine awP (op_move rfl rfl) ?_; (simp only [nA, Nat.reduceEqDiff, ↓reduceIte])
  refine awP (op_move rfl rfl) ?_; (simp only [nA, Nat.reduceEqDiff, ↓reduceIte])
  refine awJ (OpQ.j (op_callQ (b := true) rfl en86 (C86 (i := i) (l := r) (by omega)) (RL.cons (by exact View.same rfl) (RL.cons (by exact View.same rfl) (RL.nil))) rfl)) ?_; (try simp only [nA, Nat.reduceBEq, Nat.reduceEqDiff, ↓reduceIte, Nat.reduceAdd, Nat.reduceSub])
  refine awJ (op_call (b := false) rfl en85 (C85 (c := chk i r)) (RL.cons (by exact View.same rfl) (RL.nil)) rfl (fun h => by cases h) rfl rfl) ?_; (try simp only [nA, Nat.reduceBEq, Nat.reduceEqDiff, ↓reduceIte, Nat.reduceAdd, Nat.reduceSub])
  refine awJ (op_app (rows := (fourL (chk i r)).map bv) rfl rfl rfl rfl (by simp) .ro Tryd.underlying43 ze5 (by decide) (bv_len _) (by rw [List.length_map, List.length_map, List.length_append, hdr_len, fourL_len]; omega) (by decide) (es' := (frameL i r).map bv) (by rw [← List.map_append]; rfl) (n := (frameL i r).length) (by rw [List.length_map, List.length_map, ← List.length_append]; rfl)) ?_; (simp only [nA, Nat.reduceBEq, Nat.reduceEqDiff, ↓reduceIte])
  refine awP (op_assign rfl rfl) ?_; (simp only [nA])
  refine awP (op_assign rfl rfl) ?_; (try simp only [nA, Nat.reduceBEq, Nat.reduceEqDiff, ↓reduceIte, Nat.reduceAdd, Nat.reduceSub])
  refine AWL.nil ?_
  (refine hK _ ?_; clear hK K; (skip))
  refine AW.gh (Gh.freeze 4 (bl rfl) rfl rfl (bv_flat _) (es' := (frameL i r).map bv) (List.take_of_length_le (by rw [List.length_map]; exact Nat.le_refl _))) ?_; (try simp only [nA, Nat.reduceBEq, Nat.reduceEqDiff, ↓reduceIte, Nat.reduceAdd, Nat.reduceSub])
  refine AW.ret ?_; (try simp only [thenE, inBlk, Nat.reduceEqDiff, ↓reduceIte]); exact RQ.of0 rfl (.tmp (bl rfl) rfl rfl (.tmp (bl rfl) rfl rfl .nil))
abbrev rv (r : BL) : List AV := [.ro (r.map bv)]
theorem rv_len (l : List BL) : ∀ x ∈ l.map rv, x.length = 1 := fun x hx => by obtain ⟨g, _, rfl⟩ := List.mem_map.1 hx; rfl
theorem rv_flat (l : List BL) : ∀ r ∈ l.map rv, ∀ c ∈ r, flatA c = true := fun r hr c hc => by
  obtain ⟨g, _, rfl⟩ := List.mem_map.1 hr
  rw [List.mem_singleton.1 hc]; rfl
structure RecI (b : BL) (done : List BL) (p f : Nat) : Prop where
  le : p ≤ b.length
  many : done.length * 8 ≤ p
  lt : b.length - p < f
  same : recsF f done p b = recs b
theorem recI_zero (b : BL) : RecI b [] 0 (b.length + 1) := ⟨Nat.zero_le _, by simp, by omega, rfl⟩
theorem frs_none {i : Int} {b : BL} (h : firstL i b = none) : frs i b = ([], 0) := by unfold frs; rw [h]
theorem frs_some {i : Int} {b r : BL} (h : firstL i b = some r) : frs i b = (r, ((r.length + 8 : Nat) : Int)) := by unfold frs; rw [h]
theorem frs_bd (i : Int) (b : BL) : 0 ≤ (frs i b).2 ∧ (frs i b).2 ≤ 4104 := by
  cases h : firstL i b with
  | none => rw [frs_none h]; decide
  | some r => rw [frs_some h]; have := (firstL_len h).2; dsimp only; omega
abbrev stopB (b : BL) (done : List BL) (p : Nat) : Bool := decide ((frs (done.length : Nat) (b.drop p)).2 = 0) || decide (((p : Nat) : Int) + (frs (done.length : Nat) (b.drop p)).2 > 4194304)
theorem RecI.stop {b : BL} {done : List BL} {p f : Nat} (h : RecI b done p f) (hs : stopB b done p = true) : recs b = (done, p) := by
  have h1 := h.same
  have hf := h.lt
  cases f with
  | zero => omega
  | succ f =>
    rw [← h1, recsF]
    cases h0 : firstL (done.length : Nat) (b.drop p) with
    | none => rfl
    | some r =>
      unfold stopB at hs
      rw [frs_some h0, Bool.or_eq_true, decide_eq_true_eq, decide_eq_true_eq] at hs
      simp only
      rw [if_pos (by omega)]
theorem RecI.next {b : BL} {done : List BL} {p f : Nat} (h : RecI b done p f) (hs : stopB b done p = false) :
    ∃ r, frs (done.length : Nat) (b.drop p) = (r, ((r.length + 8 : Nat) : Int)) ∧ RecI b (done ++ [r]) (p + (r.length + 8)) (f - 1) ∧ r.length ≤ 4096 ∧ 1 ≤ f := by
  have h1 := h.same
  have hf := h.lt
  have hm := h.many
  cases h0 : firstL (done.length : Nat) (b.drop p) with
  | none =>
    unfold stopB at hs
    rw [frs_none h0, Bool.or_eq_false_iff] at hs
    exact absurd rfl (of_decide_eq_false hs.1)
  | some r =>
    have hl := firstL_len h0
    rw [List.length_drop] at hl
    unfold stopB at hs
    rw [frs_some h0, Bool.or_eq_false_iff, decide_eq_false_iff_not, decide_eq_false_iff_not] at hs
    have hs2 := hs.2
    dsimp only at hs2
    refine ⟨r, frs_some h0, ⟨by omega, by rw [List.length_append, List.length_singleton]; omega, by omega, ?_⟩, hl.2, by omega⟩
    cases f with
    | zero => omega
    | succ f =>
      rw [← h1]
      show recsF f _ _ b = recsF (f + 1) done p b
      rw [recsF, h0]
      simp only
      rw [if_neg (by omega)]
set_option maxHeartbeats 8000000 in
theorem C24 {b : BL} (hb : b.length ≤ 100000000) : Fn Tryd.prog 24 [] [.ro (b.map bv)] [.ro ((recs b).1.map rv), .v (.int .i64 (recs b).2)] [] := by
  refine Spec.body Tryd.func24 rfl Tryd.ntmps24 (by simp) rfl ?_; intro S0 own0 v0 w0 gl
  (refine AW.seq_k ?_; intro K hK)
  refine AW.region ?_
  refine awP (op_assign rfl rfl) ?_; (try simp only [nA, Nat.reduceBEq, Nat.reduceEqDiff, ↓reduceIte, Nat.reduceAdd, Nat.reduceSub])
  refine awP (op_assign rfl rfl) ?_; (try simp only [nA, Nat.reduceBEq, Nat.reduceEqDiff, ↓reduceIte, Nat.reduceAdd, Nat.reduceSub])
  refine AWL.nil ?_
  (refine hK _ ?_; clear hK K; (try simp only [nA, Nat.reduceBEq, Nat.reduceEqDiff, ↓reduceIte, Nat.reduceAdd, Nat.reduceSub]))
  (refine AW.seq_k ?_; intro K hK)
  refine AW.region ?_
  refine awP (op_assign rfl rfl) ?_; (try simp only [nA, Nat.reduceBEq, Nat.reduceEqDiff, ↓reduceIte, Nat.reduceAdd, Nat.reduceSub])
  refine AWL.nil ?_
  (refine hK _ ?_; clear hK K; (skip))
  (refine AW.seq_k ?_; intro K hK)
  refine AW.region ?_
  refine awJ (op_call (b := false) rfl en47 (C47) (RL.nil) rfl (fun h => by cases h) rfl rfl) ?_; (try simp only [nA, Nat.reduceBEq, Nat.reduceEqDiff, ↓reduceIte, Nat.reduceAdd, Nat.reduceSub])
  refine awJ (op_alloc rfl ze102' tabA_zero) ?_; (simp only [nA, Nat.reduceBEq, Nat.reduceEqDiff, ↓reduceIte])
  refine awJ (op_store rfl rfl rfl rfl rfl rfl sz102 (tabA_len _) (by rw [tabA_len, tabA_len]; exact Nat.le_refl _) tab_store) ?_; (try simp only [nA, Nat.reduceBEq, Nat.reduceEqDiff, ↓reduceIte, Nat.reduceAdd, Nat.reduceSub]); refine AWL.gh (Gh.freezeP 5 (bl rfl) rfl rfl tab_flat) ?_; (try simp only [nA, Nat.reduceBEq, Nat.reduceEqDiff, ↓reduceIte, Nat.reduceAdd, Nat.reduceSub]); refine AWL.gh (Gh.nil (e := 43) 4 (bl rfl) rfl sz43) ?_; (simp only [nA, Nat.reduceBEq, Nat.reduceEqDiff, ↓reduceIte])
  refine AWL.nil ?_
  (refine hK _ ?_; clear hK K; (skip))
  (refine AW.seq_k ?_; intro K hK)
  refine AW.region ?_
  refine awP (op_assign rfl rfl) ?_; (try simp only [nA, Nat.reduceBEq, Nat.reduceEqDiff, ↓reduceIte, Nat.reduceAdd, Nat.reduceSub])
  refine AWL.nil ?_
  (refine hK _ ?_; clear hK K; (skip))
  refine AW.block ?_
  refine AW.loopI (fun (q : Nat × List BL × Nat × Nat × Nat) => [(0, .ro (b.map bv)), (4, .sl 1 q.2.2.2.1 0 q.2.1.length), (5, .rop (tabA 256)), (6, .v (.int .i64 (q.2.2.1 : Nat)))]) (fun q => ⟨[(1, .any), (q.2.2.2.1, .own 43 (q.2.1.map rv))], q.2.2.2.2⟩) (fun q => RecI b q.2.1 q.2.2.1 q.1) (fun q => q.1) (b.length + 1, [], 0, _, _) (recI_zero b) ⟨rfl, rfl, rfl, rfl, trivial⟩ rfl ?_; rintro ⟨f, done, p, ek, ep⟩ ρ hI; dsimp only at hI ⊢; simp only [updL]; have hle := hI.le; have hmany := hI.many; have hfb := frs_bd (done.length : Nat) (b.drop p)
  refine AW.block ?_
  (refine AW.seq_k ?_; intro K hK)
  refine AW.region ?_
  refine awP (op_move rfl rfl) ?_; (simp only [nA, ↓reduceIte])
  (refine awP (op_len_sl rfl rfl rfl Tryd.underlying61) ?_); (try simp only [nA, Nat.reduceBEq, Nat.reduceEqDiff, ↓reduceIte, Nat.reduceAdd, Nat.reduceSub])
  refine awP (op_move rfl rfl) ?_; (simp only [nA, ↓reduceIte])
  refine awP (op_move rfl rfl) ?_; (simp only [nA, ↓reduceIte])
  refine awP (op_slice_ro p (b.map bv).length rfl (.inl rfl) (by exact ⟨_, rfl⟩) (by exact rfl) (by rw [List.length_map]; omega) (Nat.le_refl _) Tryd.underlying43 sz5 (bv_len _) (es' := (b.drop p).map bv) (by rw [List.take_of_length_le (by rw [List.length_drop]; exact Nat.le_refl _), List.map_drop])) ?_; (try simp only [nA, Nat.reduceBEq, Nat.reduceEqDiff, ↓reduceIte, Nat.reduceAdd, Nat.reduceSub])
  refine awJ (op_call (b := false) rfl en48 (C48 (i := (done.length : Nat)) (b := b.drop p)) (RL.cons (by exact View.same rfl) (RL.cons (by exact View.same rfl) (RL.cons (by exact View.same rfl) (RL.nil)))) rfl (fun h => by cases h) rfl rfl) ?_; (try simp only [nA, Nat.reduceBEq, Nat.reduceEqDiff, ↓reduceIte, Nat.reduceAdd, Nat.reduceSub])
  refine awP (op_move rfl rfl) ?_; (simp only [nA])
  refine awP (op_extract rfl rfl rfl) ?_; (try simp only [nA, Nat.reduceBEq, Nat.reduceEqDiff, ↓reduceIte, Nat.reduceAdd, Nat.reduceSub])
  refine awP (op_extract rfl rfl rfl) ?_; (try simp only [nA, Nat.reduceBEq, Nat.reduceEqDiff, ↓reduceIte, Nat.reduceAdd, Nat.reduceSub])
  refine awP (op_assign rfl rfl) ?_; (simp only [nA, ↓reduceIte])
  refine awP (op_assign rfl rfl) ?_; (simp only [nA, ↓reduceIte])
  refine AWL.nil ?_
  (refine hK _ ?_; clear hK K; (skip))
  (refine AW.seq_k ?_; intro K hK)
  (refine AW.seq_k ?_; intro K hK)
  refine AW.region (AWL.quiet ?_)
  refine aqP (op_move rfl rfl) ?_; (simp only [nA])
  (refine aqP (op_eql rfl rfl rfl) ?_); (try simp only [nA, Nat.reduceBEq, Nat.reduceEqDiff, ↓reduceIte, Nat.reduceAdd, Nat.reduceSub])
  refine aqP (op_move rfl rfl) ?_; (simp only [nA])
  refine' aqOr' [_, _, _, _] [22,23,24,25] rfl rfl rfl rfl rfl rfl rfl rfl rfl rfl rfl rfl (fun hb => ?_) ?_; rotate_left
  ·
   (try simp only [hcS] at hb)
   refine aqP (op_move rfl rfl) ?_; (simp only [nA, ↓reduceIte])
   refine aqP (op_move rfl rfl) ?_; (simp only [nA, ↓reduceIte])
   (refine aqP (op_addi rfl rfl rfl (by omega)) ?_); (try simp only [nA, Nat.reduceBEq, Nat.reduceEqDiff, ↓reduceIte, Nat.reduceAdd, Nat.reduceSub])
   refine aqP (op_gtr rfl rfl rfl) ?_; (try simp only [nA, Nat.reduceBEq, Nat.reduceEqDiff, ↓reduceIte, Nat.reduceAdd, Nat.reduceSub])
   (refine aqSeg rfl rfl rfl ?_; repeat (first | exact fun _ _ => rfl | refine upd_out rfl ?_))
  refine AQ.nil ?_
  (refine hK _ ?_; clear hK K; (skip))
  refine AW.cond rfl rfl rfl (fun hc => ?_) (fun hc => ?_)
  ·
   have hc1 := hc
   (refine AW.seq_k ?_; intro K hK)
   refine AW.region ?_
   refine awP (op_move rfl rfl) ?_; (simp only [nA, Nat.reduceEqDiff, ↓reduceIte])
   refine awP (op_move rfl rfl) ?_; (simp only [nA, Nat.reduceEqDiff, ↓reduceIte])
   refine awP (op_assign rfl rfl) ?_; (simp only [nA, ↓reduceIte])
   refine awP (op_assign rfl rfl) ?_; (simp only [nA, ↓reduceIte])
   refine AWL.nil ?_
   (refine hK _ ?_; clear hK K; (skip))
   refine AW.gh (Gh.freeze 2 (bl rfl) rfl rfl (rv_flat _) (es' := done.map rv) (List.take_of_length_le (by rw [List.length_map]; exact Nat.le_refl _))) ?_; (try simp only [nA, Nat.reduceBEq, Nat.reduceEqDiff, ↓reduceIte, Nat.reduceAdd, Nat.reduceSub])
   refine AW.ret ?_; (try simp only [thenE, inBlk, Nat.reduceEqDiff, ↓reduceIte]); rw [hI.stop hc1]; exact RQ.of0 rfl (.tmp (bl rfl) rfl rfl (.tmp (bl rfl) rfl rfl .nil))
  have hc1 := hc; obtain ⟨r, hfr, hI2, hrl, hf1⟩ := hI.next hc1; simp only [hfr]
  refine AW.skip ?_
  (refine hK _ ?_; clear hK K; (skip))
  (refine AW.seq_k ?_; intro K hK)
  refine AW.region ?_
  refine awP (op_move rfl rfl) ?_; (simp only [nA, Nat.reduceEqDiff, ↓reduceIte])
  refine awP (op_move rfl rfl) ?_; (simp only [nA, Nat.reduceEqDiff, ↓reduceIte])
  refine awJ (op_app_nil (rows := r.map bv) rfl rfl rfl .ro Tryd.underlying43 ze5 (by decide) (bv_len _) (by rw [List.length_map]; omega) (by decide) (n := r.length) (by rw [List.length_map])) ?_; (simp only [nA, Nat.reduceBEq, Nat.reduceEqDiff, ↓reduceIte]); refine AWL.gh (Gh.freeze 31 (bl rfl) rfl rfl (bv_flat _) (es' := r.map bv) (List.take_of_length_le (by rw [List.length_map]; exact Nat.le_refl _))) ?_; (try simp only [nA, Nat.reduceBEq, Nat.reduceEqDiff, ↓reduceIte, Nat.reduceAdd, Nat.reduceSub])
  refine awJ (OpJ.frz (op_buildSlice rfl [(0, rv r)] ([r].map rv) Tryd.underlying61 ze43 rfl (by simp) rfl (rv_len _) rfl (bl rfl) (by simp [maxLen])) (rv_flat _) rfl) ?_; (try simp only [nA, Nat.reduceBEq, Nat.reduceEqDiff, ↓reduceIte, Nat.reduceAdd, Nat.reduceSub])
  refine awJ (op_app (rows := [r].map rv) rfl rfl rfl rfl (by simp) .ro Tryd.underlying61 ze43 (by decide) (rv_len _) (by simp; omega) (by decide) (es' := (done ++ [r]).map rv) (by simp) (n := (done ++ [r]).length) (by simp)) ?_; (try simp only [nA, Nat.reduceBEq, Nat.reduceEqDiff, ↓reduceIte, Nat.reduceAdd, Nat.reduceSub]); refine AWL.gh (Gh.drop 2) ?_; (try simp only [nA, Nat.reduceBEq, Nat.reduceEqDiff, ↓reduceIte, Nat.reduceAdd, Nat.reduceSub])
  refine awP (op_assign rfl rfl) ?_; (simp only [nA])
  refine AWL.nil ?_
  (refine hK _ ?_; clear hK K; (skip))
  refine AW.region ?_
  refine awP (op_move rfl rfl) ?_; (simp only [nA, Nat.reduceEqDiff, ↓reduceIte])
  refine awP (op_move rfl rfl) ?_; (simp only [nA, Nat.reduceEqDiff, ↓reduceIte])
  (refine awP (op_addi rfl rfl rfl (by omega)) ?_); (try simp only [nA, Nat.reduceBEq, Nat.reduceEqDiff, ↓reduceIte, Nat.reduceAdd, Nat.reduceSub])
  refine awP (op_assign rfl rfl) ?_; (simp only [nA])
  refine AWL.nil ?_
  (try simp only [thenE, inBlk, Nat.reduceEqDiff, ↓reduceIte])
  refine ⟨(f - 1, done ++ [r], p + (r.length + 8), ep + 1, ep + 2), hI2, by dsimp only; omega, ⟨rfl, rfl, rfl, by dsimp only; exact congrArg (fun z => AV.v (.int .i64 z)) (by omega), trivial⟩, (by rfl), (by trivial)⟩
end Go.Proofs.YtfmnaigedgmhoaaDoor
namespace Go.Proofs.YtfmnaigedgmhoaaDoor
open Go.RowKit
set_option linter.unusedSimpArgs false
set_option linter.unusedVariables false
set_option maxRecDepth 100000
set_option maxHeartbeats 8000000 in
theorem C23 {rs : List BL} {b r : BL} (h : recs b = (rs, b.length)) (hr : r.length ≤ 4096) (hl : b.length + r.length + 8 ≤ 4194304) (hm : rs.length * 8 ≤ b.length) :
    Fn Tryd.prog 23 [] [.ro (b.map bv), .ro (r.map bv)] [.ro ((b ++ frameL rs.length r).map bv), .v (.int .i64 0)] [] := by
  have c24 : Fn Tryd.prog 24 [] [.ro (b.map bv)] [.ro (rs.map rv), .v (.int .i64 (b.length : Nat))] [] := by
    have c := C24 (b := b) (by omega)
    rwa [h] at c
  refine Spec.body Tryd.func23 rfl Tryd.ntmps23 (by simp) rfl ?_; intro S0 own0 v0 w0 gl
  (refine AW.seq_k ?_; intro K hK)
  refine AW.region ?_
  refine awP (op_assign rfl rfl) ?_; (try simp only [nA, Nat.reduceBEq, Nat.reduceEqDiff, ↓reduceIte, Nat.reduceAdd, Nat.reduceSub])
  refine awP (op_assign rfl rfl) ?_; (try simp only [nA, Nat.reduceBEq, Nat.reduceEqDiff, ↓reduceIte, Nat.reduceAdd, Nat.reduceSub])
  refine AWL.nil ?_
  (refine hK _ ?_; clear hK K; (try simp only [nA, Nat.reduceBEq, Nat.reduceEqDiff, ↓reduceIte, Nat.reduceAdd, Nat.reduceSub]))
  (refine AW.seq_k ?_; intro K hK)
  refine AW.region ?_
  refine awP (op_move rfl rfl) ?_; (simp only [nA, ↓reduceIte])
  refine awJ (op_call (b := false) rfl en24 c24 (RL.cons (by exact View.same rfl) (RL.nil)) rfl (fun h => by cases h) rfl rfl) ?_; (try simp only [nA, Nat.reduceBEq, Nat.reduceEqDiff, ↓reduceIte, Nat.reduceAdd, Nat.reduceSub])
  refine awP (op_move rfl rfl) ?_; (simp only [nA])
  refine awP (op_extract rfl rfl rfl) ?_; (try simp only [nA, Nat.reduceBEq, Nat.reduceEqDiff, ↓reduceIte, Nat.reduceAdd, Nat.reduceSub])
  refine awP (op_extract rfl rfl rfl) ?_; (try simp only [nA, Nat.reduceBEq, Nat.reduceEqDiff, ↓reduceIte, Nat.reduceAdd, Nat.reduceSub])
  refine awP (op_assign rfl rfl) ?_; (simp only [nA, ↓reduceIte])
  refine awP (op_assign rfl rfl) ?_; (simp only [nA, ↓reduceIte])
  refine AWL.nil ?_
  (refine hK _ ?_; clear hK K; (skip))
  (refine AW.seq_k ?_; intro K hK)
  (refine AW.seq_k ?_; intro K hK)
  refine AW.region ?_
  refine awP (op_move rfl rfl) ?_; (simp only [nA])
  refine awP (op_move rfl rfl) ?_; (simp only [nA, ↓reduceIte])
  refine awP (op_len_ro (n := b.length) rfl rfl Tryd.underlying43 (.inr (.inl ⟨_, rfl, by simp⟩))) ?_; (try simp only [nA, Nat.reduceBEq, Nat.reduceEqDiff, ↓reduceIte, Nat.reduceAdd, Nat.reduceSub])
  (refine awP (op_neq rfl rfl rfl) ?_); (try simp only [nA, Nat.reduceBEq, Nat.reduceEqDiff, ↓reduceIte, Nat.reduceAdd, Nat.reduceSub])
  refine AWL.nil ?_
  (refine hK _ ?_; clear hK K; (skip))
  refine AW.cond rfl rfl rfl (fun hc => ?_) (fun hc => ?_)
  · (cases hc; done)
  have hc1 := hc
  refine AW.skip ?_
  (refine hK _ ?_; clear hK K; (skip))
  (refine AW.seq_k ?_; intro K hK)
  (refine AW.seq_k ?_; intro K hK)
  refine AW.region (AWL.quiet ?_)
  refine aqP (op_move rfl rfl) ?_; (simp only [nA, ↓reduceIte])
  refine aqP (op_len_ro (n := r.length) rfl rfl Tryd.underlying43 (.inr (.inl ⟨_, rfl, by simp⟩))) ?_; (try simp only [nA, Nat.reduceBEq, Nat.reduceEqDiff, ↓reduceIte, Nat.reduceAdd, Nat.reduceSub])
  refine aqP (op_gtr rfl rfl rfl) ?_; (try simp only [nA, Nat.reduceBEq, Nat.reduceEqDiff, ↓reduceIte, Nat.reduceAdd, Nat.reduceSub])
  refine aqP (op_move rfl rfl) ?_; (simp only [nA])
  refine' aqOr' [_, _, _, _, _, _, _] [23,24,25,26,27,28,29] rfl rfl rfl rfl rfl rfl rfl rfl rfl rfl rfl rfl (fun hb => ?_) ?_; rotate_left
  ·
   (try simp only [hcS] at hb)
   refine aqP (op_move rfl rfl) ?_; (simp only [nA, ↓reduceIte])
   (refine aqP (op_addi rfl rfl rfl (by omega)) ?_); (try simp only [nA, Nat.reduceBEq, Nat.reduceEqDiff, ↓reduceIte, Nat.reduceAdd, Nat.reduceSub])
   refine aqP (op_move rfl rfl) ?_; (simp only [nA, ↓reduceIte])
   refine aqP (op_len_ro (n := r.length) rfl rfl Tryd.underlying43 (.inr (.inl ⟨_, rfl, by simp⟩))) ?_; (try simp only [nA, Nat.reduceBEq, Nat.reduceEqDiff, ↓reduceIte, Nat.reduceAdd, Nat.reduceSub])
   (refine aqP (op_addi rfl rfl rfl (by omega)) ?_); (try simp only [nA, Nat.reduceBEq, Nat.reduceEqDiff, ↓reduceIte, Nat.reduceAdd, Nat.reduceSub])
   (refine aqP (op_addi rfl rfl rfl (by omega)) ?_); (try simp only [nA, Nat.reduceBEq, Nat.reduceEqDiff, ↓reduceIte, Nat.reduceAdd, Nat.reduceSub])
   refine aqP (op_gtr rfl rfl rfl) ?_; (try simp only [nA, Nat.reduceBEq, Nat.reduceEqDiff, ↓reduceIte, Nat.reduceAdd, Nat.reduceSub])
   (refine aqSeg rfl rfl rfl ?_; repeat (first | exact fun _ _ => rfl | refine upd_out rfl ?_))
  refine AQ.nil ?_
  (refine hK _ ?_; clear hK K; (skip))
  refine AW.cond rfl rfl rfl (fun hc => ?_) (fun hc => ?_)
  · (simp at hc; omega)
  have hc2 := hc
  refine AW.skip ?_
  (refine hK _ ?_; clear hK K; (skip))
  (refine AW.seq_k ?_; intro K hK)
  refine AW.region ?_
  refine awP (op_move rfl rfl) ?_; (simp only [nA, Nat.reduceEqDiff, ↓reduceIte])
  refine awP (op_len_ro (n := rs.length) rfl rfl Tryd.underlying61 (.inr (.inl ⟨_, rfl, by simp⟩))) ?_; (try simp only [nA, Nat.reduceBEq, Nat.reduceEqDiff, ↓reduceIte, Nat.reduceAdd, Nat.reduceSub])
  refine awP (op_move rfl rfl) ?_; (simp only [nA, Nat.reduceEqDiff, ↓reduceIte])
  refine awJ (op_call (b := false) rfl en46 (C46 (i := (rs.length : Nat)) (r := r) (by omega) (by omega) hr) (RL.cons (by exact View.same rfl) (RL.cons (by exact View.same rfl) (RL.nil))) rfl (fun h => by cases h) rfl rfl) ?_; (try simp only [nA, Nat.reduceBEq, Nat.reduceEqDiff, ↓reduceIte, Nat.reduceAdd, Nat.reduceSub])
  refine awP (op_move rfl rfl) ?_; (simp only [nA])
  refine awP (op_extract rfl rfl rfl) ?_; (try simp only [nA, Nat.reduceBEq, Nat.reduceEqDiff, ↓reduceIte, Nat.reduceAdd, Nat.reduceSub])
  refine awP (op_extract rfl rfl rfl) ?_; (try simp only [nA, Nat.reduceBEq, Nat.reduceEqDiff, ↓reduceIte, Nat.reduceAdd, Nat.reduceSub])
  refine awP (op_assign rfl rfl) ?_; (simp only [nA, ↓reduceIte])
  refine awP (op_assign rfl rfl) ?_; (simp only [nA, ↓reduceIte])
  refine AWL.nil ?_
  (refine hK _ ?_; clear hK K; (skip))
  (refine AW.seq_k ?_; intro K hK)
  (refine AW.seq_k ?_; intro K hK)
  refine AW.region ?_
  refine awP (op_move rfl rfl) ?_; (simp only [nA])
  (refine awP (op_neq rfl rfl rfl) ?_); (try simp only [nA, Nat.reduceBEq, Nat.reduceEqDiff, ↓reduceIte, Nat.reduceAdd, Nat.reduceSub])
  refine AWL.nil ?_
  (refine hK _ ?_; clear hK K; (skip))
  refine AW.cond rfl rfl rfl (fun hc => ?_) (fun hc => ?_)
  · (cases hc; done)
  have hc3 := hc
  refine AW.skip ?_
  (refine hK _ ?_; clear hK K; (skip))
  (refine AW.seq_k ?_; intro K hK)
  refine AW.region ?_
  refine awP (op_move rfl rfl) ?_; (simp only [nA, Nat.reduceEqDiff, ↓reduceIte])
  refine awJ (op_app_nil (rows := b.map bv) rfl rfl rfl .ro Tryd.underlying43 ze5 (by decide) (bv_len _) (by rw [List.length_map]; omega) (by decide) (n := b.length) (by rw [List.length_map])) ?_; (simp only [nA, Nat.reduceBEq, Nat.reduceEqDiff, ↓reduceIte])
  refine awP (op_move rfl rfl) ?_; (simp only [nA, ↓reduceIte])
  refine awJ (op_app (r := 0) (len := b.length) (es := b.map bv) (rows := (frameL rs.length r).map bv) rfl rfl rfl rfl (by rw [List.length_map]) .ro Tryd.underlying43 ze5 (by decide) (bv_len _) (by rw [List.length_map, List.length_map, frameL_len]; omega) (by decide) (es' := (b ++ frameL rs.length r).map bv) (by simp) (n := (b ++ frameL rs.length r).length) (by rw [List.length_map, List.length_map, ← List.length_append])) ?_; (simp only [nA, Nat.reduceBEq, Nat.reduceEqDiff, ↓reduceIte])
  refine awP (op_assign rfl rfl) ?_; (simp only [nA])
  refine awP (op_assign rfl rfl) ?_; (try simp only [nA, Nat.reduceBEq, Nat.reduceEqDiff, ↓reduceIte, Nat.reduceAdd, Nat.reduceSub])
  refine AWL.nil ?_
  (refine hK _ ?_; clear hK K; (skip))
  refine AW.gh (Gh.freeze 4 (bl rfl) rfl rfl (bv_flat _) (es' := (b ++ frameL rs.length r).map bv) (List.take_of_length_le (by rw [List.length_map]; exact Nat.le_refl _))) ?_; (try simp only [nA, Nat.reduceBEq, Nat.reduceEqDiff, ↓reduceIte, Nat.reduceAdd, Nat.reduceSub])
  refine AW.ret ?_; (try simp only [thenE, inBlk, Nat.reduceEqDiff, ↓reduceIte]); exact RQ.of0 rfl (.tmp (bl rfl) rfl rfl (.tmp (bl rfl) rfl rfl .nil))
end Go.Proofs.YtfmnaigedgmhoaaDoor
namespace Go.Proofs.YtfmnaigedgmhoaaDoor
open Go.RowKit
set_option linter.unusedSimpArgs false
set_option linter.unusedVariables false
set_option maxRecDepth 100000
section
variable {C : Cx} {o : Oper} {ev : Operand → AV} {T : Sl} {t yt : TypeId} {p q : Operand} {x y : Bool}
end
end Go.Proofs.YtfmnaigedgmhoaaDoor
namespace Go.Proofs.YtfmnaigedgmhoaaDoor
open Go.RowKit
set_option linter.unusedSimpArgs false
set_option linter.unusedVariables false
set_option maxRecDepth 100000
theorem evv_flat (ls : List Ev) : ∀ r ∈ ls.map Ev.av, ∀ c ∈ r, flatA c = true := fun r hr c hc => by
  obtain ⟨x, _, rfl⟩ := List.mem_map.1 hr
  exact List.all_eq_true.1 (show x.av.all flatA = true from rfl) c hc
theorem evv_len (ls : List Ev) : ∀ r ∈ ls.map Ev.av, r.length = 32 := fun r hr => by
  obtain ⟨x, _, rfl⟩ := List.mem_map.1 hr; rfl
abbrev lsE (l : List Int) (raw other : Ev) : List Ev :=
  let g := evV l 0; let s := spV l g.2 g.1; let t := spV l s.2 g.1; let u := spV l t.2 t.1
  [raw, other, onlyV raw, g.1, s.1, u.1]
theorem get_ex {LS : List Ev} {i : Nat} (h : i < LS.length) : ∃ x, LS[i]? = some x := ⟨_, List.getElem?_eq_getElem h⟩
theorem get_av {LS : List Ev} {i : Nat} {x : Ev} (h : LS[i]? = some x) : (LS.map Ev.av)[i]? = some x.av := by rw [List.getElem?_map, h]; rfl
def numb : Nat → List (List AV) → List (Nat × List AV)
  | _, [] => []
  | k, r :: rs => (k, r) :: numb (k + 1) rs
theorem numb_r {sz : Nat} : ∀ (rows : List (List AV)) (k : Nat), (∀ r ∈ rows, r.length = sz) → ∀ p ∈ numb k rows, p.2.length = sz ∧ p.1 * sz + sz ≤ (k + rows.length) * sz
  | [], _, _, p, hp => by cases hp
  | r :: rs, k, h, p, hp => by
    rcases List.mem_cons.1 hp with rfl | hp
    · refine ⟨h r (by simp), ?_⟩
      rw [← Nat.succ_mul]
      exact Nat.mul_le_mul_right _ (by rw [List.length_cons]; omega)
    have := numb_r rs (k + 1) (fun r hr => h r (by simp [hr])) p hp
    rw [List.length_cons, show k + (rs.length + 1) = k + 1 + rs.length by omega]
    exact this
theorem numb_f {sz : Nat} {z : AV} : ∀ (rows : List (List AV)) (k : Nat) (pre : List AV), pre.length = k * sz → (∀ r ∈ rows, r.length = sz) → (numb k rows).foldl (fun cs p => splice cs (p.1 * sz) p.2) (pre ++ List.replicate (rows.length * sz) z) = pre ++ rows.flatten
  | [], _, pre, _, _ => by simp [numb]
  | r :: rs, k, pre, hp, h => by
    have hr : r.length = sz := h r (by simp)
    have e : splice (pre ++ List.replicate ((r :: rs).length * sz) z) (k * sz) r = (pre ++ r) ++ List.replicate (rs.length * sz) z := by
      unfold splice
      rw [← hp, List.take_left, hr, List.drop_append, List.drop_eq_nil_of_le (Nat.le_add_right _ _), List.nil_append, Nat.add_sub_cancel_left, List.drop_replicate, List.length_cons, Nat.succ_mul, Nat.add_sub_cancel]
    show (numb (k + 1) rs).foldl _ (splice (pre ++ List.replicate ((r :: rs).length * sz) z) (k * sz) r) = _
    rw [e, numb_f rs (k + 1) (pre ++ r) (by rw [List.length_append, hp, hr, Nat.succ_mul]) (fun r hr => h r (by simp [hr])), List.flatten_cons, List.append_assoc]
end Go.Proofs.YtfmnaigedgmhoaaDoor
