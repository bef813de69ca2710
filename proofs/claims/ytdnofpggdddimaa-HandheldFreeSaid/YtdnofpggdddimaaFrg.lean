import Derived.Test.YtdnofpggdddimaaFrf
import Derived.Deep.Slices
import Derived.OpenShut
import Derived.WalkKit
import Derived.ProofKit
namespace Go.Proofs.Ytdnofpggdddimaa
open Go.RowKit
set_option linter.unusedSimpArgs false
set_option linter.unusedVariables false
set_option maxRecDepth 100000
abbrev gr0 (i j : Int) : Grant := ⟨⟨platesP i, 10 + i, 0⟩, flightN j⟩
def grS (l : List Int) : Nat → Nat → Nat → List Grant → Nat × List Grant
  | 0, _, k, a => (k, a)
  | f + 1, i, k, a => if gmod (rawV l k) 2 = 0 then grS l f (i + 1) (rawN l (rawN l k)) (a ++ [gr0 i (gmod (rawV l (rawN l k)) 3)]) else grS l f (i + 1) (rawN l k) a
theorem grS_succ (l : List Int) (f i k : Nat) (a : List Grant) : grS l (f + 1) i k a = if gmod (rawV l k) 2 = 0 then grS l f (i + 1) (rawN l (rawN l k)) (a ++ [gr0 i (gmod (rawV l (rawN l k)) 3)]) else grS l f (i + 1) (rawN l k) a := rfl
theorem C30 {l : List Int} {k0 n : Nat} (hl : l.length ≤ 2000) (hn : n ≤ 100) : Fn Try.prog 30 [.own 81 [srcRow l k0]] [.ptr 0 0 0 0, .v (.int .i64 (n : Nat))] [.ro ((grS l n 0 k0 []).2.map Grant.av)] [.own 81 [srcRow l (grS l n 0 k0 []).1]] := by
  refine Spec.body Try.func30 rfl Try.ntmps30 (by simp) rfl ?_; intro S0 own0 v0 w0
  (refine AW.seq_k ?_; intro K hK)
  refine AW.region ?_
  refine awP (op_assign rfl rfl) ?_
  refine AWL.nil ?_
  (refine hK _ ?_; clear hK K; (simp only [nA, Nat.reduceBEq, Nat.reduceEqDiff, ↓reduceIte, Nat.reduceAdd, Nat.reduceSub]))
  (refine AW.seq_k ?_; intro K hK)
  refine AW.region ?_
  refine awP (op_assign rfl rfl) ?_
  refine AWL.nil ?_
  (refine hK _ ?_; clear hK K; (simp only [nA, Nat.reduceBEq, Nat.reduceEqDiff, ↓reduceIte, Nat.reduceAdd, Nat.reduceSub]))
  (refine AW.seq_k ?_; intro K hK)
  (refine AW.seq_k ?_; intro K hK)
  refine AW.region ?_
  refine awP (op_assign rfl rfl) ?_
  refine AWL.nil ?_
  (refine hK _ ?_; clear hK K; (simp only [nA, Nat.reduceBEq, Nat.reduceEqDiff, ↓reduceIte, Nat.reduceAdd, Nat.reduceSub]))
  refine AW.block ?_
  refine AW.gh (Gh.nil (e := 75) 5 (Nat.le_of_ble_eq_true rfl) rfl sz75) ?_; (simp only [nA, Nat.reduceBEq, Nat.reduceEqDiff, ↓reduceIte, Nat.reduceAdd, Nat.reduceSub]); refine AW.loopI (fun (q : Nat × Nat × Nat × List Grant × Nat × Nat) => [(0, .ptr 0 0 0 0), (1, .v (.int .i64 (n : Nat))), (5, .sl 1 q.2.2.2.2.1 0 q.2.2.2.1.length), (6, .v (.int .i64 (q.2.1 : Nat)))]) (fun q => ⟨[(0, .own 81 [srcRow l q.2.2.1]), (q.2.2.2.2.1, .own 75 (q.2.2.2.1.map Grant.av))], q.2.2.2.2.2⟩) (fun q => q.1 + q.2.1 = n ∧ q.2.2.2.1.length ≤ q.2.1 ∧ grS l q.1 q.2.1 q.2.2.1 q.2.2.2.1 = grS l n 0 k0 []) (fun q => q.1) (n, 0, k0, [], _, _) ⟨by simp, by simp, rfl⟩ ⟨rfl, rfl, rfl, rfl, trivial⟩ rfl ?_; rintro ⟨f, i, k, a, v, ep⟩ ρ hI; dsimp only at hI ⊢; simp only [updL]
  (refine AW.seq_k ?_; intro K hK)
  (refine AW.seq_k ?_; intro K hK)
  refine AW.region ?_
  refine awP (op_move rfl rfl) ?_
  refine awP (op_move rfl rfl) ?_
  refine awP (op_lss rfl rfl rfl) ?_
  refine AWL.nil ?_
  (refine hK _ ?_; clear hK K; (simp only [nA, Nat.reduceBEq, Nat.reduceEqDiff, ↓reduceIte, Nat.reduceAdd, Nat.reduceSub]))
  refine AW.cond rfl rfl rfl (fun hc => ?_) (fun hc => ?_)
  ·
   (try simp only [hcS] at hc); have hc1 := hc; obtain ⟨f, rfl⟩ : ∃ g, f = g + 1 := (by have h : (i : Int) < n := (by simpa using hc1); exact ⟨f - 1, by omega⟩); have hR := hI.2.2; rw [grS_succ] at hR; have hg3 := gmod_bd (x := rawV l (rawN l k)) (n := 3) (by decide)
   refine AW.skip ?_
   (refine hK _ ?_; clear hK K; (skip))
   (refine AW.seq_k ?_; intro K hK)
   refine AW.block ?_
   (refine AW.seq_k ?_; intro K hK)
   refine AW.region ?_
   refine awP (op_move rfl rfl) ?_
   refine awJ (op_call1 rfl en12 (C12 (n := 2) hl (by decide)) (by exact rfl) (RL.cons .ptr (RL.cons (.base (by exact View.same rfl)) (RL.nil))) (by exact ⟨_, _, _, rfl, rfl, rfl⟩) (by exact rfl) (by exact rfl) (by exact rfl)) ?_; (simp only [nA, Nat.reduceBEq, Nat.reduceEqDiff, ↓reduceIte, Nat.reduceAdd, Nat.reduceSub])
   (refine awP (op_eql rfl rfl rfl) ?_)
   refine AWL.nil ?_
   (refine hK _ ?_; clear hK K; (simp only [nA, Nat.reduceBEq, Nat.reduceEqDiff, ↓reduceIte, Nat.reduceAdd, Nat.reduceSub]))
   refine AW.cond rfl rfl rfl (fun hc => ?_) (fun hc => ?_)
   ·
    (try simp only [hcS] at hc); have hc2 := hc; skip
    refine AW.region ?_
    refine awP (op_move rfl rfl) ?_
    refine awP (op_move rfl rfl) ?_
    refine awJ (op_call (b := false) rfl en57 (C57 (i := (i : Nat))) (RL.cons (by exact View.same rfl) (RL.nil)) rfl (fun h => by cases h) rfl rfl) ?_; (simp only [nA, Nat.reduceBEq, Nat.reduceEqDiff, ↓reduceIte, Nat.reduceAdd, Nat.reduceSub])
    refine awP (op_move rfl rfl) ?_
    (refine awP (op_addi rfl rfl rfl (by omega)) ?_)
    refine awP (op_build2 (xs := [_, _, _, _, .v (.int .i64 0)]) rfl pl31 ze31 [(0, [_, _, _]), (1, [_])] rfl rfl rfl) ?_
    refine awP (op_move rfl rfl) ?_
    refine awJ (op_call1 rfl en12 (C12 (n := 3) hl (by decide)) (by exact rfl) (RL.cons .ptr (RL.cons (.base (by exact View.same rfl)) (RL.nil))) (by exact ⟨_, _, _, rfl, rfl, rfl⟩) (by exact rfl) (by exact rfl) (by exact rfl)) ?_; (simp only [nA, Nat.reduceBEq, Nat.reduceEqDiff, ↓reduceIte, Nat.reduceAdd, Nat.reduceSub])
    refine awJ (op_call (b := false) rfl en45 (C45 _ hg3) (RL.cons (by exact View.same rfl) (RL.nil)) rfl (fun h => by cases h) rfl rfl) ?_; (simp only [nA, Nat.reduceBEq, Nat.reduceEqDiff, ↓reduceIte, Nat.reduceAdd, Nat.reduceSub])
    refine awP (op_build2 (xs := [_, _, _, _, _, _, _, _, _]) rfl pl75 ze75 [(0, [_, _, _, _, _]), (1, [_, _, _, _])] rfl rfl rfl) ?_
    refine awJ (OpJ.frz (op_buildSlice rfl [(0, ((gr0 (i : Nat) (gmod (rawV l (rawN l k)) 3))).av)] [((gr0 (i : Nat) (gmod (rawV l (rawN l k)) 3))).av] Try.underlying22 ze75 rfl (by simp) rfl (by simp) rfl (Nat.le_of_ble_eq_true rfl) (by simp [maxLen])) (gav_flat [(gr0 (i : Nat) (gmod (rawV l (rawN l k)) 3))]) rfl) ?_; (simp only [nA, Nat.reduceBEq, Nat.reduceEqDiff, ↓reduceIte, Nat.reduceAdd, Nat.reduceSub])
    refine awJ (op_app (r := 1) (rows := [((gr0 (i : Nat) (gmod (rawV l (rawN l k)) 3))).av]) rfl rfl rfl rfl (by simp) .ro Try.underlying22 ze75 (by decide) (gav_len [(gr0 (i : Nat) (gmod (rawV l (rawN l k)) 3))]) (by simp; omega) (by decide) (es' := (a ++ [(gr0 (i : Nat) (gmod (rawV l (rawN l k)) 3))]).map Grant.av) (by simp) (n := (a ++ [(gr0 (i : Nat) (gmod (rawV l (rawN l k)) 3))]).length) (by simp)) ?_; (simp only [nA, Nat.reduceBEq, Nat.reduceEqDiff, ↓reduceIte, Nat.reduceAdd, Nat.reduceSub])
    refine awP (op_assign rfl rfl) ?_
    refine AWL.nil ?_
    (simp only [thenE, inBlk, Nat.reduceEqDiff, ↓reduceIte])
    (refine hK _ ?_; clear hK K; (simp only [nA, Nat.reduceBEq, Nat.reduceEqDiff, ↓reduceIte, Nat.reduceAdd, Nat.reduceSub]))
    refine AW.region ?_
    refine awP (op_move rfl rfl) ?_
    (refine awP (op_addi rfl rfl rfl (by omega)) ?_)
    refine awP (op_assign rfl rfl) ?_
    skip
    refine AWL.nil ?_
    refine ⟨(f, i + 1, rawN l (rawN l k), a ++ [(gr0 (i : Nat) (gmod (rawV l (rawN l k)) 3))], _, _), ⟨by dsimp only; omega, by simp; omega, by rw [← hR, if_pos (by simpa using hc2)]⟩, by dsimp only; omega, ⟨rfl, rfl, rfl, rfl, trivial⟩, (by rfl), (by rfl)⟩
   ·
    (try simp only [hcS] at hc); have hc2 := hc; skip
    refine AW.skip ?_
    (simp only [thenE, inBlk, Nat.reduceEqDiff, ↓reduceIte])
    (refine hK _ ?_; clear hK K; (skip))
    refine AW.region ?_
    refine awP (op_move rfl rfl) ?_
    (refine awP (op_addi rfl rfl rfl (by omega)) ?_)
    refine awP (op_assign rfl rfl) ?_
    skip
    refine AWL.nil ?_
    refine ⟨(f, i + 1, rawN l k, a, _, _), ⟨by dsimp only; omega, by dsimp only; omega, by rw [← hR, if_neg (by simpa using hc2)]⟩, by dsimp only; omega, ⟨rfl, rfl, rfl, rfl, trivial⟩, (by rfl), (by rfl)⟩
  ·
   (try simp only [hcS] at hc); have hc1 := hc; obtain rfl : f = 0 := (by have h : ¬ ((i : Int) < n) := (by simpa using hc1); omega); have hE : grS l n 0 k0 [] = (k, a) := hI.2.2.symm
   refine AW.exit ?_; (simp only [thenE, inBlk, Nat.reduceEqDiff, ↓reduceIte])
   clear hK K
   (refine hK _ ?_; clear hK K; (skip))
   (refine AW.seq_k ?_; intro K hK)
   refine AW.region ?_
   refine awP (op_move rfl rfl) ?_
   refine awP (op_assign rfl rfl) ?_
   refine AWL.nil ?_
   (refine hK _ ?_; clear hK K; (simp only [nA, Nat.reduceBEq, Nat.reduceEqDiff, ↓reduceIte, Nat.reduceAdd, Nat.reduceSub]))
   refine AW.gh (Gh.freeze 4 (Nat.le_of_ble_eq_true rfl) rfl rfl (gav_flat a) (es' := a.map Grant.av) (List.take_of_length_le (by simp))) ?_; (simp only [nA, Nat.reduceBEq, Nat.reduceEqDiff, ↓reduceIte, Nat.reduceAdd, Nat.reduceSub])
   refine AW.ret ?_; rw [hE]; exact RQ.of (.inl rfl) rfl (.tmp (Nat.le_of_ble_eq_true rfl) rfl rfl .nil) (by simp) rfl (one_out rfl)
abbrev em0 (m j : Int) : Container := ⟨m, flightN j, 31, 500, 20, m, 0, []⟩
def emS (l : List Int) : Nat → Nat → List Container → Nat × List Container
  | 0, k, a => (k, a)
  | f + 1, k, a => emS l f (rawN l k) (a ++ [em0 ((a.length : Int) + 1) (gmod (rawV l k) 3)])
theorem em_le (m j : Int) (cs : List Container) : RL (Le2 Try.prog) (cs.map Container.av ++ [nilC (em0 m j)]).flatten ((cs ++ [em0 m j]).map Container.av).flatten := by
  rw [List.map_append, List.flatten_append, List.flatten_append]
  refine RL.append (RL.refl_le _) ?_
  exact RL.cons .same (RL.cons .same (RL.cons .same (RL.cons .same (RL.cons .same (RL.cons .same (RL.cons .same (RL.cons .same (RL.cons .same (RL.cons .same (RL.cons .nil RL.nil))))))))))
def emptiesV (l : List Int) (k n : Nat) : Nat × List Container := emS l (idxV l k (n + 1)) (rawN l k) []
theorem C38 {l : List Int} {k0 n : Nat} (hl : l.length ≤ 2000) (hn : n ≤ 100) : Fn Try.prog 38 [.own 81 [srcRow l k0]] [.ptr 0 0 0 0, .v (.int .i64 (n : Nat))] [.ro ((emptiesV l k0 n).2.map Container.av)] [.own 81 [srcRow l (emptiesV l k0 n).1]] := by
  have hk0 := idxV_lt l k0 (n := n + 1) (by omega)
  refine Spec.body Try.func38 rfl Try.ntmps38 (by simp) rfl ?_; intro S0 own0 v0 w0
  (refine AW.seq_k ?_; intro K hK)
  refine AW.region ?_
  refine awP (op_assign rfl rfl) ?_
  refine AWL.nil ?_
  (refine hK _ ?_; clear hK K; (simp only [nA, Nat.reduceBEq, Nat.reduceEqDiff, ↓reduceIte, Nat.reduceAdd, Nat.reduceSub]))
  (refine AW.seq_k ?_; intro K hK)
  refine AW.region ?_
  refine awP (op_assign rfl rfl) ?_
  refine AWL.nil ?_
  (refine hK _ ?_; clear hK K; (simp only [nA, Nat.reduceBEq, Nat.reduceEqDiff, ↓reduceIte, Nat.reduceAdd, Nat.reduceSub]))
  (refine AW.seq_k ?_; intro K hK)
  (refine AW.seq_k ?_; intro K hK)
  refine AW.region ?_
  refine awP (op_move rfl rfl) ?_
  refine awP (op_move rfl rfl) ?_
  (refine awP (op_addi rfl rfl rfl (by omega)) ?_)
  refine awJ (op_call1 rfl en12 (C12n (n := n + 1) hl (by omega) (by omega)) (by exact rfl) (RL.cons .ptr (RL.cons (.base (by exact View.same rfl)) (RL.nil))) (by exact ⟨_, _, _, rfl, rfl, rfl⟩) (by exact rfl) (by exact rfl) (by exact rfl)) ?_; (simp only [nA, Nat.reduceBEq, Nat.reduceEqDiff, ↓reduceIte, Nat.reduceAdd, Nat.reduceSub])
  refine awP (op_assign rfl rfl) ?_
  refine AWL.nil ?_
  (refine hK _ ?_; clear hK K; (simp only [nA, Nat.reduceBEq, Nat.reduceEqDiff, ↓reduceIte, Nat.reduceAdd, Nat.reduceSub]))
  refine AW.block ?_
  refine AW.gh (Gh.nil (e := 77) 5 (Nat.le_of_ble_eq_true rfl) rfl sz77) ?_; (simp only [nA, Nat.reduceBEq, Nat.reduceEqDiff, ↓reduceIte, Nat.reduceAdd, Nat.reduceSub]); refine AW.loopI (fun (q : Nat × Nat × List Container × Nat × Nat) => [(0, .ptr 0 0 0 0), (5, .sl 1 q.2.2.2.1 0 q.2.2.1.length), (6, .v (.int .i64 (q.1 : Nat)))]) (fun q => ⟨[(0, .own 81 [srcRow l q.2.1]), (q.2.2.2.1, .own 77 (q.2.2.1.map Container.av))], q.2.2.2.2⟩) (fun q => q.2.2.1.length + q.1 = idxV l k0 (n + 1) ∧ emS l q.1 q.2.1 q.2.2.1 = emptiesV l k0 n) (fun q => q.1) (idxV l k0 (n + 1), rawN l k0, [], _, _) ⟨by simp, rfl⟩ ⟨rfl, rfl, rfl, trivial⟩ rfl ?_; rintro ⟨f, k, a, v, ep⟩ ρ hI; dsimp only at hI ⊢; simp only [updL]
  (refine AW.seq_k ?_; intro K hK)
  (refine AW.seq_k ?_; intro K hK)
  refine AW.region ?_
  refine awP (op_move rfl rfl) ?_
  refine awP (op_gtr rfl rfl rfl) ?_
  refine AWL.nil ?_
  (refine hK _ ?_; clear hK K; (simp only [nA, Nat.reduceBEq, Nat.reduceEqDiff, ↓reduceIte, Nat.reduceAdd, Nat.reduceSub]))
  refine AW.cond rfl rfl rfl (fun hc => ?_) (fun hc => ?_)
  ·
   (try simp only [hcS] at hc); have hc1 := hc; obtain ⟨f, rfl⟩ : ∃ g, f = g + 1 := (by have h : (f : Int) > 0 := (by simpa using hc1); exact ⟨f - 1, by omega⟩); have hR := hI.2; unfold emS at hR; have hg3 := gmod_bd (x := rawV l k) (n := 3) (by decide)
   refine AW.skip ?_
   (refine hK _ ?_; clear hK K; (skip))
   (refine AW.seq_k ?_; intro K hK)
   refine AW.block ?_
   refine AW.region ?_
   refine awP (op_move rfl rfl) ?_
   refine awP (op_move rfl rfl) ?_
   (refine awP (op_len_sl rfl rfl rfl Try.underlying23) ?_)
   (refine awP (op_addi rfl rfl rfl (by omega)) ?_)
   refine awP (op_move rfl rfl) ?_
   refine awJ (op_call1 rfl en12 (C12 (n := 3) hl (by decide)) (by exact rfl) (RL.cons .ptr (RL.cons (.base (by exact View.same rfl)) (RL.nil))) (by exact ⟨_, _, _, rfl, rfl, rfl⟩) (by exact rfl) (by exact rfl) (by exact rfl)) ?_; (simp only [nA, Nat.reduceBEq, Nat.reduceEqDiff, ↓reduceIte, Nat.reduceAdd, Nat.reduceSub])
   refine awJ (op_call (b := false) rfl en45 (C45 _ hg3) (RL.cons (by exact View.same rfl) (RL.nil)) rfl (fun h => by cases h) rfl rfl) ?_; (simp only [nA, Nat.reduceBEq, Nat.reduceEqDiff, ↓reduceIte, Nat.reduceAdd, Nat.reduceSub])
   refine awP (op_move rfl rfl) ?_
   (refine awP (op_len_sl rfl rfl rfl Try.underlying23) ?_)
   (refine awP (op_addi rfl rfl rfl (by omega)) ?_)
   refine awP (op_build2 (xs := [_, _, _, _, _, _, _, _, _, .v (.int .i64 0), .v (.slice none 0 0)]) rfl pl77 ze77 [(0, [_]), (1, [_, _, _, _]), (2, [_]), (3, [_]), (4, [_]), (5, [_])] rfl rfl rfl) ?_
   refine awJ (OpJ.frz (op_buildSlice rfl [(0, nilC ((em0 ((a.length : Int) + 1) (gmod (rawV l k) 3))))] [nilC ((em0 ((a.length : Int) + 1) (gmod (rawV l k) 3)))] Try.underlying23 ze77 rfl (by simp) rfl (by simp) rfl (Nat.le_of_ble_eq_true rfl) (by simp [maxLen])) (by simp [flatA]) rfl) ?_; (simp only [nA, Nat.reduceBEq, Nat.reduceEqDiff, ↓reduceIte, Nat.reduceAdd, Nat.reduceSub])
   refine awJ (op_app (r := 1) (rows := [nilC ((em0 ((a.length : Int) + 1) (gmod (rawV l k) 3)))]) rfl rfl rfl rfl (by simp) .ro Try.underlying23 ze77 (by decide) (by simp) (by simp; omega) (by decide) (es' := a.map Container.av ++ [nilC ((em0 ((a.length : Int) + 1) (gmod (rawV l k) 3)))]) rfl (n := (a ++ [(em0 ((a.length : Int) + 1) (gmod (rawV l k) 3))]).length) (by simp)) ?_; (simp only [nA, Nat.reduceBEq, Nat.reduceEqDiff, ↓reduceIte, Nat.reduceAdd, Nat.reduceSub]); refine AWL.gh (Gh.slot2 (r := 1) (es' := (a ++ [(em0 ((a.length : Int) + 1) (gmod (rawV l k) 3))]).map Container.av) rfl (by simp) (em_le _ _ _)) ?_; (simp only [nA, Nat.reduceBEq, Nat.reduceEqDiff, ↓reduceIte, Nat.reduceAdd, Nat.reduceSub])
   refine awP (op_assign rfl rfl) ?_
   refine AWL.nil ?_
   (simp only [thenE, inBlk, Nat.reduceEqDiff, ↓reduceIte])
   (refine hK _ ?_; clear hK K; (simp only [nA, Nat.reduceBEq, Nat.reduceEqDiff, ↓reduceIte, Nat.reduceAdd, Nat.reduceSub]))
   refine AW.region ?_
   refine awP (op_move rfl rfl) ?_
   (refine awP (op_subi rfl rfl rfl (by omega)) ?_)
   refine awP (op_assign rfl rfl) ?_
   skip
   refine AWL.nil ?_
   refine ⟨(f, rawN l k, a ++ [(em0 ((a.length : Int) + 1) (gmod (rawV l k) 3))], _, _), ⟨by simp; omega, by rw [← hR]⟩, by dsimp only; omega, ⟨rfl, rfl, (by show AV.v (Value.int .i64 (((f + 1 : Nat) : Int) - 1)) = AV.v (Value.int .i64 (f : Nat)); congr 2; omega), trivial⟩, (by rfl), (by rfl)⟩
  ·
   (try simp only [hcS] at hc); have hc1 := hc; obtain rfl : f = 0 := (by have h : ¬ ((f : Int) > 0) := (by simpa using hc1); omega); have hE : emptiesV l k0 n = (k, a) := hI.2.symm
   refine AW.exit ?_; (simp only [thenE, inBlk, Nat.reduceEqDiff, ↓reduceIte])
   clear hK K
   (refine hK _ ?_; clear hK K; (skip))
   (refine AW.seq_k ?_; intro K hK)
   refine AW.region ?_
   refine awP (op_move rfl rfl) ?_
   refine awP (op_assign rfl rfl) ?_
   refine AWL.nil ?_
   (refine hK _ ?_; clear hK K; (simp only [nA, Nat.reduceBEq, Nat.reduceEqDiff, ↓reduceIte, Nat.reduceAdd, Nat.reduceSub]))
   refine AW.gh (Gh.freeze 4 (Nat.le_of_ble_eq_true rfl) rfl rfl (conv_flat a) (es' := a.map Container.av) (List.take_of_length_le (by simp))) ?_; (simp only [nA, Nat.reduceBEq, Nat.reduceEqDiff, ↓reduceIte, Nat.reduceAdd, Nat.reduceSub])
   refine AW.ret ?_; rw [hE]; exact RQ.of (.inl rfl) rfl (.tmp (Nat.le_of_ble_eq_true rfl) rfl rfl .nil) (by simp) rfl (one_out rfl)
end Go.Proofs.Ytdnofpggdddimaa
namespace Go.Proofs.Ytdnofpggdddimaa
open Go.RowKit
set_option linter.unusedSimpArgs false
set_option linter.unusedVariables false
set_option maxRecDepth 100000
structure GoodC (ys : List Container) : Prop where
  val : ∀ c ∈ ys, valC c = 0
  asc : ys.Pairwise fun c d => c.number < d.number
  pos : ∀ (i : Nat) (h : i < ys.length), ys[i].position = 0 ∨ ys[i].position = i + 1
  disj : ys.Pairwise fun c d => ∀ x ∈ c.pieces, ∀ y ∈ d.pieces, x.plate ≠ y.plate
theorem InvB.good {i : Nat} {cs : List Container} (h : InvB i cs) : GoodC cs := ⟨fun c hc => h.val hc, h.asc, h.pos, h.disj⟩
theorem chkP_some : ∀ (l : List Piece) (pl : List Plate), AscP l → (∀ x ∈ l, x.plate ∉ pl) → ∃ pl', chkP l pl = some pl' ∧ ∀ q, q ∈ pl' → q ∈ pl ∨ ∃ x ∈ l, x.plate = q
  | [], pl, _, _ => ⟨pl, rfl, fun q h => .inl h⟩
  | p :: l, pl, ha, hn => by
    have h1 := List.pairwise_cons.1 ha
    rw [chkP_cons, if_neg (hn p (by simp))]
    obtain ⟨pl', h2, h3⟩ := chkP_some l (p.plate :: pl) h1.2 (fun x hx hm => by
      rcases List.mem_cons.1 hm with e | hm
      · have := h1.1 x hx; rw [e] at this; exact PLt.irrefl _ this
      · exact hn x (by simp [hx]) hm)
    refine ⟨pl', h2, fun q hq => ?_⟩
    rcases h3 q hq with h | ⟨x, hx, e⟩
    · rcases List.mem_cons.1 h with rfl | h
      · exact .inr ⟨p, by simp, rfl⟩
      · exact .inl h
    · exact .inr ⟨x, by simp [hx], e⟩
theorem chk_zero : ∀ (cs : List Container) (o : Option Int) (sp : List Container) (pl : List Plate), (∀ c ∈ cs, valC c = 0) → (cs.Pairwise fun c d => c.number < d.number) → (∀ m, o = some m → ∀ c ∈ cs, m < c.number) →
    (cs.Pairwise fun c d => c.position ≠ 0 → c.position ≠ d.position) → (∀ s ∈ sp, ∀ c ∈ cs, s.position ≠ c.position) → (∀ c ∈ cs, ∀ x ∈ c.pieces, x.plate ∉ pl) → (cs.Pairwise fun c d => ∀ x ∈ c.pieces, ∀ y ∈ d.pieces, x.plate ≠ y.plate) → chk o cs sp pl = 0
  | [], _, _, _, _, _, _, _, _, _, _ => rfl
  | c :: cs, o, sp, pl, hv, ha, ho, hp, hs, hpl, hd => by
    have ha1 := List.pairwise_cons.1 ha
    have hp1 := List.pairwise_cons.1 hp
    have hd1 := List.pairwise_cons.1 hd
    obtain ⟨pl', h2, h3⟩ := chkP_some c.pieces pl (val_asc (hv c (by simp))) (hpl c (by simp))
    unfold chk
    rw [if_neg (by simp [hv c (by simp)]), if_neg (by
      cases o with
      | none => simp [prevBad]
      | some m => have := ho m rfl c (by simp); unfold prevBad; simp; omega), if_neg (by
      rintro ⟨_, hm⟩
      obtain ⟨s, h4, h5⟩ := List.mem_map.1 hm
      exact hs s h4 c (by simp) (congrArg Spot.position h5)), h2]
    simp only
    refine chk_zero cs _ _ pl' (fun d hd => hv d (by simp [hd])) ha1.2 (fun m hm d hd => by injection hm with hm; rw [← hm]; exact ha1.1 d hd) hp1.2 (fun s h4 d hdm => ?_) (fun d hdm x hx hm => ?_) hd1.2
    · by_cases h0 : c.position ≠ 0
      · rw [if_pos h0] at h4
        rcases List.mem_cons.1 h4 with e | h4
        · rw [e]; exact hp1.1 d hdm h0
        · exact hs s h4 d (List.mem_cons_of_mem _ hdm)
      · rw [if_neg h0] at h4
        exact hs s h4 d (List.mem_cons_of_mem _ hdm)
    · rcases h3 _ hm with h | ⟨y, hy, e⟩
      · exact hpl d (List.mem_cons_of_mem _ hdm) x hx h
      · exact hd1.1 d hdm y hy x hx e
theorem GoodC.chk {ys : List Container} (h : GoodC ys) (hl : ys.length ≤ 24) : chkL ys = 0 := by
  unfold chkL
  rw [if_neg (by omega)]
  refine chk_zero ys none [] [] h.val h.asc (by simp) (List.pairwise_iff_getElem.2 fun i j hi hj hij h0 => ?_) (by simp) (by simp) h.disj
  rcases h.pos i hi with h1 | h1 <;> rcases h.pos j hj with h2 | h2 <;> omega
theorem co_bare (c : Container) : coB (bareC c) = coB c := rfl
theorem val_bare {c : Container} (h : valC c = 0) : valC (bareC c) = 0 :=
  val_intro (by rw [co_bare]; exact (val_inv h).1) (by simp [bareC]) (by simp [bareC]) (show Asc [] from ascP_iff.1 List.Pairwise.nil)
theorem chk_bare0 : ∀ (cs : List Container) (o : Option Int) (sp : List Container) (pl pl2 : List Plate), chk o cs sp pl = 0 → chk o (cs.map bareC) (sp.map bareC) pl2 = 0
  | [], _, _, _, _, _ => rfl
  | c :: cs, o, sp, pl, pl2, h => by
    unfold chk at h
    by_cases h1 : valC c ≠ 0
    · rw [if_pos h1] at h; exact absurd h h1
    rw [if_neg h1] at h
    by_cases h2 : prevBad o c.number = true
    · rw [if_pos h2] at h; cases h
    rw [if_neg h2] at h
    by_cases h3 : c.position ≠ 0 ∧ spotOf c ∈ sp.map spotOf
    · rw [if_pos h3] at h; cases h
    rw [if_neg h3] at h
    have e : (sp.map bareC).map spotOf = sp.map spotOf := by rw [List.map_map]; rfl
    rw [List.map_cons]
    unfold chk
    rw [if_neg (by simp [val_bare (by simpa using h1)]), if_neg (show ¬ prevBad o (bareC c).number = true from h2), if_neg (show ¬ ((bareC c).position ≠ 0 ∧ spotOf (bareC c) ∈ (sp.map bareC).map spotOf) by rw [e]; exact h3), show chkP (bareC c).pieces pl2 = some pl2 from rfl]
    simp only
    cases hp : chkP c.pieces pl with
    | none => rw [hp] at h; cases h
    | some pl' =>
      rw [hp] at h
      simp only at h
      have := chk_bare0 cs (some c.number) _ pl' pl2 h
      by_cases h0 : c.position ≠ 0
      · rw [if_pos h0] at this
        rw [if_pos (show (bareC c).position ≠ 0 from h0)]
        exact this
      · rw [if_neg h0] at this
        rw [if_neg (show ¬ (bareC c).position ≠ 0 from h0)]
        exact this
theorem chk_bare {cs : List Container} (h : chkL cs = 0) : chkL (cs.map bareC) = 0 := by
  unfold chkL at h ⊢
  rw [List.length_map]
  by_cases hl : (cs.length : Int) > 24
  · rw [if_pos hl] at h; cases h
  · rw [if_neg hl] at h ⊢
    exact chk_bare0 cs none [] [] [] h
theorem emp_bare {cs : List Container} (h : chkL cs = 0) : empB (cs.map bareC) = true := by
  unfold empB
  rw [chk_bare h, List.all_eq_true.2 fun c hc => by obtain ⟨d, _, rfl⟩ := List.mem_map.1 hc; rfl]
  rfl
theorem grsE_all {g : List Grant} (h : grsE g = 0) : ∀ k, k < g.length → grErr g k = 0 := by
  intro k hk
  refine Classical.byContradiction fun hne => ?_
  have : ∃ i, i < g.length ∧ grErr g i ≠ 0 ∧ ∀ j, j < i → grErr g j = 0 := by
    revert hk hne
    induction k using Nat.strongRecOn with
    | _ k ih =>
      intro hk hne
      by_cases hall : ∀ j, j < k → grErr g j = 0
      · exact ⟨k, hk, hne, hall⟩
      · obtain ⟨j, hj⟩ := Classical.not_forall.1 hall
        obtain ⟨hjk, hj0⟩ := Classical.not_imp.1 hj
        exact ih j hjk (by omega) hj0
  obtain ⟨i, hi, hne, hz⟩ := this
  rw [grsE_at hi hz rfl hne] at h
  exact hne h
theorem grBad_of {g : List Grant} {k : Nat} (h : grErr g k = 0) : grBad g k = false := by
  unfold grErr at h
  unfold grBad
  by_cases h1 : grB (g.getD k default) = false
  · rw [if_pos h1] at h; cases h
  rw [if_neg h1] at h
  by_cases h2 : (decide ((k : Int) > 0) && decide (cmpP (g.getD (k - 1) default).piece.plate (g.getD k default).piece.plate ≥ 0)) = true
  · rw [if_pos h2] at h; cases h
  · rw [show (decide ((k : Int) > 0) && decide (cmpP (g.getD (k - 1) default).piece.plate (g.getD k default).piece.plate ≥ 0)) = false by simpa using h2, show grB (g.getD k default) = true by simpa using h1]
    rfl
theorem grs_of {g : List Grant} (h : grsE g = 0) (hl : ¬ (g.length : Int) > 60) : grsB g = true := by
  rw [grs_yes (i := g.length) (by omega) fun k hk => grBad_of (grsE_all h k hk), decide_eq_true (by omega)]
theorem off_parts {h : Hand} {g : List Grant} {c : List Container} (he : offE h g c = 0) : valH h = 0 ∧ h.offline = false ∧ ¬ (g.length : Int) > 60 ∧ grsE g = 0 ∧ chkL c = 0 := by
  unfold offE at he
  by_cases h1 : valH h ≠ 0
  · rw [if_pos h1] at he; exact absurd he h1
  rw [if_neg h1] at he
  by_cases h2 : h.offline = true
  · rw [if_pos h2] at he; cases he
  rw [if_neg h2] at he
  by_cases h3 : (g.length : Int) > 60
  · rw [if_pos h3] at he; cases he
  rw [if_neg h3] at he
  by_cases h4 : grsE g ≠ 0
  · rw [if_pos h4] at he; exact absurd he h4
  rw [if_neg h4] at he
  exact ⟨by simpa using h1, by simpa using h2, h3, by simpa using h4, he⟩
theorem off_valid {h : Hand} {g : List Grant} {c : List Container} (he : offE h g c = 0) (hl : h.log = []) : valH (offH h g c) = 0 := by
  obtain ⟨h1, h2, h3, h4, h5⟩ := off_parts he
  have hv := val_parts h1
  refine val_0 hv.1 rfl (grs_of h4 h3) (emp_bare h5) ?_
  unfold logB lgLast offH
  rw [hl]
  rfl
theorem emp_parts {cs : List Container} (h : empB cs = true) : chkL cs = 0 := by
  unfold empB at h
  simp only [Bool.and_eq_true, decide_eq_true_eq] at h
  exact h.2
theorem scan_parts {h : Hand} {k : Int} {p : Piece} {n t : Int} (he : scanE h k p n t = 0) : valH h = 0 ∧ (k = 1 ∨ k = 2) ∧ piB p = true ∧ inB n 1 999 = true ∧ inB t 0 1048576 = true ∧ h.last ≤ t ∧ h.next ≠ 1048576 ∧ (h.offline = true → (h.log.length : Int) ≠ 60) ∧ (h.offline = true → k = 1 → loadErr h p n = 0) := by
  have hv := scan_val he
  unfold scanE at he
  rw [if_neg (by rw [hv]; decide)] at he
  by_cases h2 : (!decide (k = 1) && !decide (k = 2)) = true
  · rw [if_pos h2] at he; cases he
  rw [if_neg h2] at he
  by_cases h3 : ((!piB p || !inB n 1 999) || !inB t 0 1048576) = true
  · rw [if_pos h3] at he; cases he
  rw [if_neg h3] at he
  by_cases h4 : t < h.last
  · rw [if_pos h4] at he; cases he
  rw [if_neg h4] at he
  by_cases h5 : (decide (h.next = 1048576) || (h.offline && decide ((h.log.length : Int) = 60))) = true
  · rw [if_pos h5] at he; cases he
  rw [if_neg h5] at he
  simp only [Bool.or_eq_true, Bool.not_eq_true', not_or, Bool.not_eq_false] at h3
  simp only [Bool.or_eq_true, Bool.and_eq_true, decide_eq_true_eq, not_or, not_and] at h5
  refine ⟨hv, ?_, h3.1.1, h3.1.2, h3.2, by omega, h5.1, fun ho => h5.2 ho, fun ho hk => ?_⟩
  · by_cases hk : k = 1
    · exact .inl hk
    · refine .inr ?_
      simp [hk] at h2
      exact h2
  · rw [if_pos (by rw [ho, hk]; rfl)] at he; exact he
theorem getD_append_l {α : Type} [Inhabited α] {l : List α} {x : α} {i : Nat} (h : i < l.length) : (l ++ [x]).getD i default = l.getD i default := by
  rw [List.getD_eq_getElem?_getD, List.getD_eq_getElem?_getD, List.getElem?_append_left h]
theorem getD_append_r {α : Type} [Inhabited α] {l : List α} {x : α} : (l ++ [x]).getD l.length default = x := by
  rw [List.getD_eq_getElem?_getD, List.getElem?_append_right (Nat.le_refl _)]; simp
theorem log_parts {h : Hand} (hl : logB h = true) : (h.log.length : Int) ≤ 60 ∧ (∀ i, i < h.log.length → lgBad h i = false) ∧ lgLast h = true := by
  unfold logB at hl
  simp only [Bool.and_eq_true, decide_eq_true_eq, List.all_eq_true, Bool.not_eq_true'] at hl
  exact ⟨hl.1.1, fun i hi => hl.1.2 i (List.mem_range.2 hi), hl.2⟩
theorem log_intro {h : Hand} (h1 : (h.log.length : Int) ≤ 60) (h2 : ∀ i, i < h.log.length → lgBad h i = false) (h3 : lgLast h = true) : logB h = true := by
  rw [log_yes (i := h.log.length) (by omega) h2, h3, decide_eq_true h1]; rfl
theorem in_spec {n lo hi : Int} : inB n lo hi = true ↔ lo ≤ n ∧ n ≤ hi := by
  unfold inB
  simp only [Bool.and_eq_true, decide_eq_true_eq]
theorem op_new {h : Hand} {k : Int} {p : Piece} {n t : Int} (he : scanE h k p n t = 0) : opB (newOp h k p n t) = true := by
  obtain ⟨hv, hk, hp, hn, ht, -, -, -, -⟩ := scan_parts he
  have hnum := (val_parts hv).1
  unfold numB at hnum
  simp only [Bool.and_eq_true] at hnum
  unfold opB newOp
  simp only
  rw [if_neg (by rw [ht, hnum.1.1, hnum.1.2]; decide), hn, hp]
  rcases hk with rfl | rfl <;> simp
theorem scan_valid {h : Hand} {k : Int} {p : Piece} {n t : Int} (he : scanE h k p n t = 0) : valH (scanH h k p n t) = 0 := by
  obtain ⟨hv, hk, hp, hn, ht, hlt, hnx, h60, -⟩ := scan_parts he
  obtain ⟨v1, v2, v3, v4, v5⟩ := val_parts hv
  have hne := num_next v1
  have hnum := v1
  unfold numB at hnum
  simp only [Bool.and_eq_true] at hnum
  refine val_0 ?_ ?_ v3 (emp_bare (emp_parts v4)) ?_
  · unfold numB scanH
    simp only
    rw [hnum.1.1, ht, in_spec.2 (by omega)]; rfl
  · unfold barB scanH at *
    simp only [List.length_map] at *
    by_cases ho : h.offline = true
    · rw [ho]; rfl
    · rw [if_neg ho]; exact v2
  · by_cases ho : h.offline = true
    · obtain ⟨l1, l2, l3⟩ := log_parts v5
      have e : scanH h k p n t = ⟨h.number, h.next + 1, t, h.offline, h.grants, h.conts.map bareC, h.log ++ [newOp h k p n t]⟩ := by unfold scanH; rw [if_pos ho]
      rw [e]
      refine log_intro (by have := h60 ho; simp; omega) (fun i hi => ?_) ?_
      · simp only [List.length_append, List.length_cons, List.length_nil] at hi
        unfold lgBad
        simp only [List.length_append, List.length_cons, List.length_nil]
        rcases Nat.lt_or_ge i h.log.length with hi' | hi'
        · have := l2 i hi'
          unfold lgBad at this
          rw [getD_append_l hi', getD_append_l (l := h.log) (by omega : i - 1 < h.log.length), show h.next + 1 - ((h.log.length + (0 + 1) : Nat) : Int) = h.next - h.log.length by omega]
          exact this
        · obtain rfl : i = h.log.length := by omega
          rw [getD_append_r, op_new he, show h.next + 1 - ((h.log.length + (0 + 1) : Nat) : Int) + (h.log.length : Nat) = h.next by omega]
          simp only [newOp, Bool.not_true, decide_true, Bool.or_false, Bool.false_or]
          rw [Bool.and_eq_false_iff]
          rcases Nat.eq_zero_or_pos h.log.length with h0 | h0
          · left; rw [h0]; rfl
          · right
            have e2 := getD_append_l (l := h.log) (x := newOp h k p n t) (by omega : h.log.length - 1 < h.log.length)
            unfold lgLast at l3
            rw [decide_eq_false (by omega), Bool.false_or, decide_eq_true_eq] at l3
            refine decide_eq_false ?_
            show ¬ t < ((h.log ++ [newOp h k p n t]).getD (h.log.length - 1) default).time
            rw [e2]
            omega
      · unfold lgLast
        simp only [List.length_append, List.length_cons, List.length_nil]
        rw [show h.log.length + (0 + 1) - 1 = h.log.length by omega, getD_append_r]
        simp [newOp]
    · have hb := v2
      unfold barB at hb
      rw [show h.offline = false by simpa using ho, Bool.false_or, decide_eq_true_eq] at hb
      have h0 : h.log = [] := List.eq_nil_of_length_eq_zero (by omega)
      unfold scanH
      rw [if_neg ho, h0]
      rfl
theorem scan_sm {h : Hand} {k : Int} {p : Piece} {n t : Int} (hs : h.Sm) (he : scanE h k p n t = 0) : (scanH h k p n t).Sm := by
  have hl := (log_parts (val_parts (scan_val he)).2.2.2.2).1
  refine ⟨hs.g, by simpa [scanH] using hs.c, ?_, fun c hc => ?_⟩
  · unfold scanH
    simp only
    split
    · simp; omega
    · omega
  · obtain ⟨d, _, rfl⟩ := List.mem_map.1 (show c ∈ h.conts.map bareC from hc)
    simp [bareC]
theorem off_sm {h : Hand} {g : List Grant} {c : List Container} (hs : h.Sm) (hg : g.length ≤ 1000) (hc : c.length ≤ 1000) : (offH h g c).Sm :=
  ⟨hg, by simpa [offH] using hc, hs.l, fun x hx => by obtain ⟨d, _, rfl⟩ := List.mem_map.1 (show x ∈ c.map bareC from hx); simp [bareC]⟩
end Go.Proofs.Ytdnofpggdddimaa
namespace Go.Proofs.Ytdnofpggdddimaa
open Go.RowKit
set_option linter.unusedSimpArgs false
set_option linter.unusedVariables false
set_option maxRecDepth 100000
structure GoodG (n : Nat) (a : List Grant) : Prop where
  len : a.length ≤ n
  of : ∀ x ∈ a, ∃ m : Nat, ∃ j : Int, m < n ∧ 0 ≤ j ∧ j < 3 ∧ x = gr0 m j
  asc : a.Pairwise fun x y => x.piece.plate.serial < y.piece.plate.serial
theorem gr0_plate {m : Nat} {j : Int} (h : m < 100) : (gr0 (m : Int) j).piece.plate = ⟨0, 117, 1000 + m⟩ := plates_lt h
theorem goodG_S (l : List Int) : ∀ (f i k : Nat) (a : List Grant), f + i ≤ 100 → GoodG i a → GoodG (f + i) (grS l f i k a).2
  | 0, i, k, a, _, h => by rw [Nat.zero_add]; exact h
  | f + 1, i, k, a, hf, h => by
    rw [grS_succ]
    have hg3 := gmod_bd (x := rawV l (rawN l k)) (n := 3) (by decide)
    have up : GoodG (i + 1) a := ⟨by have := h.len; omega, fun x hx => by obtain ⟨m, j, h1, h2⟩ := h.of x hx; exact ⟨m, j, by omega, h2⟩, h.asc⟩
    split
    · rw [show f + 1 + i = f + (i + 1) by omega]
      refine goodG_S l f (i + 1) _ _ (by omega) ⟨by have := h.len; simp; omega, fun x hx => ?_, List.pairwise_append.2 ⟨h.asc, List.pairwise_singleton _ _, fun x hx y hy => ?_⟩⟩
      · rcases List.mem_append.1 hx with hx | hx
        · exact up.of x hx
        · exact ⟨i, _, by omega, hg3.1, hg3.2, List.mem_singleton.1 hx⟩
      · obtain ⟨m, j, h1, h2, h3, rfl⟩ := h.of x hx
        rw [List.mem_singleton.1 hy, gr0_plate (by omega), gr0_plate (by omega)]
        show (1000 : Int) + m < 1000 + i
        omega
    · rw [show f + 1 + i = f + (i + 1) by omega]
      exact goodG_S l f (i + 1) _ _ (by omega) up
theorem goodG (l : List Int) (n k : Nat) (hn : n ≤ 100) : GoodG n (grS l n 0 k []).2 := by
  have := goodG_S l n 0 k [] (by omega) ⟨by simp, by simp, List.Pairwise.nil⟩
  rwa [Nat.add_zero] at this
theorem gr0_ok {m : Nat} {j : Int} (h : m < 100) (h1 : 0 ≤ j) (h2 : j < 3) : grB (gr0 (m : Int) j) = true := by
  unfold grB piB
  rw [show plB (gr0 (m : Int) j).piece.plate = true from plates_ok _, flB_N ⟨h1, h2⟩, show inB (gr0 (m : Int) j).piece.weight 1 999 = true from in_spec.2 (by show 1 ≤ 10 + (m : Int) ∧ 10 + (m : Int) ≤ 999; omega)]
  rfl
theorem cmp_serial {a b : Int} (h : a < b) : cmpP ⟨0, 117, a⟩ ⟨0, 117, b⟩ = -1 := by
  rw [cmpP_3 (by simp [cmpI]) (by simp [cmpI])]
  show cmpI a b = -1
  unfold cmpI
  rw [if_pos h]
theorem GoodG.err {n : Nat} {a : List Grant} (h : GoodG n a) (hn : n ≤ 100) : grsE a = 0 := by
  refine grsE_ok (i := a.length) (by omega) fun k hk => ?_
  unfold grErr
  have hm : a.getD k default ∈ a := by rw [getD_of hk]; exact List.getElem_mem hk
  obtain ⟨m, j, h1, h2, h3, e⟩ := h.of _ hm
  rw [if_neg (by rw [e, gr0_ok (by omega) h2 h3]; decide), if_neg]
  intro hc
  simp only [Bool.and_eq_true, decide_eq_true_eq] at hc
  have hk1 : k - 1 < a.length := by omega
  have hm2 : a.getD (k - 1) default ∈ a := by rw [getD_of hk1]; exact List.getElem_mem hk1
  obtain ⟨m2, j2, q1, q2, q3, e2⟩ := h.of _ hm2
  have hlt := (List.pairwise_iff_getElem.1 h.asc) (k - 1) k hk1 hk (by omega)
  rw [← getD_of hk1, ← getD_of hk, e, e2, gr0_plate (by omega), gr0_plate (by omega)] at hlt
  rw [e, e2, gr0_plate (by omega), gr0_plate (by omega), cmp_serial hlt] at hc
  omega
structure GoodM (a : List Container) : Prop where
  of : ∀ (i : Nat) (h : i < a.length), ∃ j : Int, 0 ≤ j ∧ j < 3 ∧ a[i] = em0 ((i : Int) + 1) j
theorem goodM_S (l : List Int) : ∀ (f k : Nat) (a : List Container), GoodM a → GoodM (emS l f k a).2 ∧ (emS l f k a).2.length = a.length + f
  | 0, k, a, h => ⟨h, rfl⟩
  | f + 1, k, a, h => by
    have hg3 := gmod_bd (x := rawV l k) (n := 3) (by decide)
    have := goodM_S l f (rawN l k) (a ++ [em0 ((a.length : Int) + 1) (gmod (rawV l k) 3)]) ⟨fun i hi => by
      rcases Nat.lt_or_ge i a.length with h' | h'
      · rw [List.getElem_append_left h']; exact h.of i h'
      · simp at hi
        obtain rfl : i = a.length := by omega
        exact ⟨_, hg3.1, hg3.2, by simp⟩⟩
    refine ⟨this.1, ?_⟩
    show (emS l f (rawN l k) (a ++ [em0 ((a.length : Int) + 1) (gmod (rawV l k) 3)])).2.length = _
    rw [this.2]; simp; omega
theorem goodM (l : List Int) (k n : Nat) : GoodM (emptiesV l k n).2 ∧ (emptiesV l k n).2.length ≤ n := by
  have hk := idxV_lt l k (n := n + 1) (by omega)
  have := goodM_S l (idxV l k (n + 1)) (rawN l k) [] ⟨fun i hi => by simp at hi⟩
  exact ⟨this.1, by unfold emptiesV; rw [this.2]; simp; omega⟩
theorem GoodM.good {a : List Container} (h : GoodM a) (hl : a.length ≤ 24) : GoodC a := by
  have get : ∀ c ∈ a, ∃ i : Nat, ∃ j : Int, i < a.length ∧ 0 ≤ j ∧ j < 3 ∧ c = em0 ((i : Int) + 1) j := fun c hc => by
    obtain ⟨i, hi, rfl⟩ := List.getElem_of_mem hc
    obtain ⟨j, h1, h2, h3⟩ := h.of i hi
    exact ⟨i, j, hi, h1, h2, h3⟩
  refine ⟨fun c hc => ?_, List.pairwise_iff_getElem.2 fun i j hi hj hij => ?_, fun i hi => ?_, List.pairwise_iff_getElem.2 fun i j hi hj hij x hx => ?_⟩
  · obtain ⟨i, j, h0, h1, h2, rfl⟩ := get c hc
    refine val_intro ?_ (by simp) (by simp) (show Asc [] from ascP_iff.1 List.Pairwise.nil)
    unfold coB
    simp only [Bool.and_eq_true]
    exact ⟨⟨⟨⟨⟨⟨in_spec.2 (by show 1 ≤ (i : Int) + 1 ∧ (i : Int) + 1 ≤ 999; omega), flB_N ⟨h1, h2⟩⟩, in_spec.2 (by decide)⟩, in_spec.2 (by decide)⟩, in_spec.2 (by decide)⟩, in_spec.2 (by show 0 ≤ (i : Int) + 1 ∧ (i : Int) + 1 ≤ 24; omega)⟩, in_spec.2 (by decide)⟩
  · obtain ⟨_, _, _, e1⟩ := h.of i hi
    obtain ⟨_, _, _, e2⟩ := h.of j hj
    rw [e1, e2]
    show (i : Int) + 1 < j + 1
    omega
  · obtain ⟨_, _, _, e1⟩ := h.of i hi
    rw [e1]; exact .inr rfl
  · obtain ⟨_, _, _, e1⟩ := h.of i hi
    rw [e1] at hx; cases hx
theorem goodM_chk (l : List Int) (k n : Nat) (hn : n ≤ 24) : chkL (emptiesV l k n).2 = 0 := by
  obtain ⟨h1, h2⟩ := goodM l k n
  exact (h1.good (by omega)).chk (by omega)
theorem valOn {nb nx ls : Int} (h1 : 1 ≤ nb ∧ nb ≤ 6) (h2 : 1 ≤ nx ∧ nx ≤ 1048576) (h3 : 0 ≤ ls ∧ ls ≤ 1048576) : valH (onH nb nx ls) = 0 :=
  val_0 (by unfold numB; simp only [Bool.and_eq_true]; exact ⟨⟨in_spec.2 h1, in_spec.2 h2⟩, in_spec.2 h3⟩) rfl rfl rfl rfl
theorem off_intro {h : Hand} {g : List Grant} {c : List Container} (hv : valH h = 0) (ho : h.offline = false) (hg : g.length ≤ 60) (he : grsE g = 0) (hc : chkL c = 0) : offE h g c = 0 := by
  unfold offE
  rw [if_neg (by rw [hv]; decide), if_neg (by rw [ho]; decide), if_neg (by omega), if_neg (by rw [he]; decide), hc]
end Go.Proofs.Ytdnofpggdddimaa
namespace Go.Proofs.Ytdnofpggdddimaa
open Go.RowKit
set_option linter.unusedSimpArgs false
set_option linter.unusedVariables false
set_option maxRecDepth 100000
theorem opEq_self (o : Op) : opEq o o = true := by
  unfold opEq
  rw [piEq_self]; simp
theorem hl20 (l : List Int) : (l.take 2000).length ≤ 2000 := by simp; omega
end Go.Proofs.Ytdnofpggdddimaa
namespace Go.Proofs.Ytdnofpggdddimaa
open Go.RowKit
set_option linter.unusedSimpArgs false
set_option linter.unusedVariables false
set_option maxRecDepth 100000
def scF (l : List Int) (fl : Flight) : List Container → Nat → Int → Nat × Int
  | [], k, c => (k, c)
  | x :: r, k, c => if flEq x.flight fl then (if gmod (rawV l k) 3 > 0 then scF l fl r (rawN l k) x.number else scF l fl r (rawN l k) c) else scF l fl r k c
theorem scF_at {l : List Int} {fl : Flight} {cs : List Container} {i k : Nat} {c : Int} (hi : i < cs.length) : scF l fl (cs.drop i) k c = if flEq (cs.getD i default).flight fl then (if gmod (rawV l k) 3 > 0 then scF l fl (cs.drop (i + 1)) (rawN l k) (cs.getD i default).number else scF l fl (cs.drop (i + 1)) (rawN l k) c) else scF l fl (cs.drop (i + 1)) k c := by
  rw [List.drop_eq_getElem_cons hi, getD_of hi]; rfl
abbrev scK (l : List Int) (k : Nat) : Nat := rawN l (rawN l (rawN l k))
def scanV (l : List Int) (h : Hand) (k : Nat) : Nat × Piece × Int :=
  if h.grants.length = 0 then (rawN l (scK l k), pieceV l k 10, 1 + gmod (rawV l (scK l k)) 6)
  else if gmod (rawV l (rawN l (scK l k))) 5 > 0 then
    let g := h.grants.getD (idxV l (rawN l (rawN l (scK l k))) h.grants.length) default
    let r := scF l g.flight h.conts (rawN l (rawN l (rawN l (scK l k)))) (1 + gmod (rawV l (scK l k)) 6)
    (r.1, g.piece, r.2)
  else (rawN l (rawN l (scK l k)), pieceV l k 10, 1 + gmod (rawV l (scK l k)) 6)
theorem C25 {l : List Int} {k : Nat} {h : Hand} (hl : l.length ≤ 2000) (hs : h.Sm) : Fn Try.prog 25 [.own 81 [srcRow l k]] [.ptr 0 0 0 0, .agg h.av] [.agg (scanV l h k).2.1.av, .v (.int .i64 (scanV l h k).2.2)] [.own 81 [srcRow l (scanV l h k).1]] := by
  have hsg := hs.g
  have hsc := hs.c
  have hg6 := gmod_bd (x := rawV l (rawN l (rawN l (rawN l k)))) (n := 6) (by decide)
  refine Spec.body Try.func25 rfl Try.ntmps25 (by simp) rfl ?_; intro S0 own0 v0 w0
  (refine AW.seq_k ?_; intro K hK)
  refine AW.region ?_
  refine awJ (op_box rfl rfl rfl sz26 rfl) ?_; (simp only [nA, Nat.reduceBEq, Nat.reduceEqDiff, ↓reduceIte, Nat.reduceAdd, Nat.reduceSub])
  refine awJ (op_alloc rfl ze31 rfl) ?_; (simp only [nA, Nat.reduceBEq, Nat.reduceEqDiff, ↓reduceIte, Nat.reduceAdd, Nat.reduceSub])
  refine awP (op_assign rfl rfl) ?_
  refine AWL.nil ?_
  (refine hK _ ?_; clear hK K; (simp only [nA, Nat.reduceBEq, Nat.reduceEqDiff, ↓reduceIte, Nat.reduceAdd, Nat.reduceSub]))
  (refine AW.seq_k ?_; intro K hK)
  refine AW.region ?_
  refine awP (op_move rfl rfl) ?_
  refine awJ (op_call1 rfl en23 (C23 (n := 10) hl (by decide)) (by exact rfl) (RL.cons .ptr (RL.cons (.base (by exact View.same rfl)) (RL.nil))) (by exact ⟨_, _, _, rfl, rfl, rfl⟩) (by exact rfl) (by exact rfl) (by exact rfl)) ?_; (simp only [nA, Nat.reduceBEq, Nat.reduceEqDiff, ↓reduceIte, Nat.reduceAdd, Nat.reduceSub])
  refine awP (op_move rfl rfl) ?_
  refine awJ (op_call1 rfl en12 (C12 (n := 6) hl (by decide)) (by exact rfl) (RL.cons .ptr (RL.cons (.base (by exact View.same rfl)) (RL.nil))) (by exact ⟨_, _, _, rfl, rfl, rfl⟩) (by exact rfl) (by exact rfl) (by exact rfl)) ?_; (simp only [nA, Nat.reduceBEq, Nat.reduceEqDiff, ↓reduceIte, Nat.reduceAdd, Nat.reduceSub])
  (refine awP (op_addi rfl rfl rfl (by omega)) ?_)
  refine awJ (op_alloc rfl ze31 rfl) ?_; (simp only [nA, Nat.reduceBEq, Nat.reduceEqDiff, ↓reduceIte, Nat.reduceAdd, Nat.reduceSub])
  refine awJ (op_store rfl rfl rfl rfl rfl rfl sz31 rfl (Nat.le_of_ble_eq_true rfl) rfl) ?_; (simp only [nA, Nat.reduceBEq, Nat.reduceEqDiff, ↓reduceIte, Nat.reduceAdd, Nat.reduceSub])
  refine awP (op_assign rfl rfl) ?_
  refine AWL.nil ?_
  (refine hK _ ?_; clear hK K; (simp only [nA, Nat.reduceBEq, Nat.reduceEqDiff, ↓reduceIte, Nat.reduceAdd, Nat.reduceSub]))
  (refine AW.seq_k ?_; intro K hK)
  (refine AW.seq_k ?_; intro K hK)
  rcases Bool.eq_false_or_eq_true (decide (((h.grants.length : Nat) : Int) > 0)) with hgd1 | hgd1   -- by_cases on the guard
  · -- guard holds
   have hgl : 0 < h.grants.length := (by simpa using hgd1)
   refine AW.region ?_
   (refine awP (op_fa_ptr rfl rfl rfl fl26_4 (by exact sz22) (by decide) rfl) ?_)
   (refine awR (op_load_ptr1 rfl rfl rfl rfl ag22 rfl rfl) ?_)
   refine awP (op_len_ro (n := h.grants.length) rfl rfl Try.underlying22 (.inr (.inl ⟨_, rfl, by simp⟩))) ?_
   refine awP (op_gtr rfl rfl rfl) ?_
   refine awP (op_move rfl rfl) ?_
   refine awYes 4 19 (OpP.j (op_move rfl rfl)) ?_ (congrArg (fun z => AV.v (.bool z)) hgd1) rfl rfl rfl rfl; (simp only [nA, Nat.reduceBEq, Nat.reduceEqDiff, ↓reduceIte, Nat.reduceAdd, Nat.reduceSub])
   refine awYes 4 19 (op_call1 rfl en12 (C12 (n := 5) hl (by decide)) (by exact rfl) (RL.cons .ptr (RL.cons (.base (by exact View.same rfl)) (RL.nil))) (by exact ⟨_, _, _, rfl, rfl, rfl⟩) (by exact rfl) (by exact rfl) (by exact rfl)) ?_ (congrArg (fun z => AV.v (.bool z)) hgd1) rfl rfl rfl rfl; (simp only [nA, Nat.reduceBEq, Nat.reduceEqDiff, ↓reduceIte, Nat.reduceAdd, Nat.reduceSub])
   refine awYes 4 19 (OpP.j (op_gtr rfl rfl rfl)) ?_ (congrArg (fun z => AV.v (.bool z)) hgd1) rfl rfl rfl rfl; (simp only [nA, Nat.reduceBEq, Nat.reduceEqDiff, ↓reduceIte, Nat.reduceAdd, Nat.reduceSub])
   refine awP (op_pick rfl (congrArg (fun z => AV.v (.bool z)) hgd1) rfl) ?_
   refine AWL.nil ?_
   (refine hK _ ?_; clear hK K; (simp only [nA, Nat.reduceBEq, Nat.reduceEqDiff, ↓reduceIte, Nat.reduceAdd, Nat.reduceSub]))
   refine AW.cond rfl rfl rfl (fun hc => ?_) (fun hc => ?_)
   ·
    have hc1 := hc; have hix : (idxV l (rawN l (rawN l (rawN l (rawN l (rawN l k))))) h.grants.length) < h.grants.length := idxV_lt l _ hgl
    refine AW.joinG (fun (e : Nat) => [(0, .ptr 0 0 0 0), (3, .ptr 1 1 0 0), (4, .ptr 2 2 0 0), (6, .ptr 3 3 0 0), (7, .v (.int .i64 (1 + gmod (rawV l (rawN l (rawN l (rawN l k)))) 6))), (8, .ptr 4 4 0 0)]) (fun e => ⟨[(0, .own 81 [srcRow l (rawN l (rawN l (rawN l (rawN l (rawN l (rawN l k))))))]), (1, .own 26 [h.av]), (2, .own 31 [[.v (.int .i64 0), .v (.int .i64 0), .v (.int .i64 0), .v (.int .i64 0), .v (.int .i64 0)]]), (3, .own 31 [(pieceV l k 10).av]), (4, .own 75 [((h.grants.getD (idxV l (rawN l (rawN l (rawN l (rawN l (rawN l k))))) h.grants.length) default)).av])], e⟩) (fun _ => True) ?_ ?_
    · refine AW.ado (fun T' => T'.slots[1]? = some (1, .own 26 [h.av])) mix rfl ?_
      refine adPo 0 rfl (fun T' ok => op_fa_ptr rfl rfl ok fl26_4 (by exact sz22) (by decide) rfl) rfl (by kernel_rfl) (by kernel_rfl) ?_; (simp only [nA, Nat.reduceBEq, Nat.reduceEqDiff, ↓reduceIte, Nat.reduceAdd, Nat.reduceSub])
      refine adRo 1 rfl (fun T' ok => op_load_ptr1 rfl rfl ok rfl ag22 rfl rfl) rfl (by kernel_rfl) (by kernel_rfl) ?_; (simp only [nA, Nat.reduceBEq, Nat.reduceEqDiff, ↓reduceIte, Nat.reduceAdd, Nat.reduceSub])
      refine adPo 2 rfl (fun T' ok => op_move rfl rfl) rfl (by kernel_rfl) (by kernel_rfl) ?_; (simp only [nA, Nat.reduceBEq, Nat.reduceEqDiff, ↓reduceIte, Nat.reduceAdd, Nat.reduceSub])
      refine adPo 3 rfl (fun T' ok => op_fa_ptr rfl rfl ok fl26_4 (by exact sz22) (by decide) rfl) rfl (by kernel_rfl) (by kernel_rfl) ?_; (simp only [nA, Nat.reduceBEq, Nat.reduceEqDiff, ↓reduceIte, Nat.reduceAdd, Nat.reduceSub])
      refine adRo 4 rfl (fun T' ok => op_load_ptr1 rfl rfl ok rfl ag22 rfl rfl) rfl (by kernel_rfl) (by kernel_rfl) ?_; (simp only [nA, Nat.reduceBEq, Nat.reduceEqDiff, ↓reduceIte, Nat.reduceAdd, Nat.reduceSub])
      refine adPo 5 rfl (fun T' ok => op_len_ro (n := h.grants.length) rfl rfl Try.underlying22 (.inr (.inl ⟨_, rfl, by simp⟩))) rfl (by kernel_rfl) (by kernel_rfl) ?_; (simp only [nA, Nat.reduceBEq, Nat.reduceEqDiff, ↓reduceIte, Nat.reduceAdd, Nat.reduceSub])
      refine adJ2o 6 9 rfl rfl (op_call1 rfl en12 (C12n (n := h.grants.length) hl (by omega) (by omega)) (by exact rfl) (RL.cons .ptr (RL.cons (.base (by exact View.same rfl)) (RL.nil))) (by exact ⟨_, _, _, rfl, rfl, rfl⟩) (by exact rfl) (by exact rfl) (by exact rfl)) (op_alloc rfl ze75 rfl) (by kernel_rfl) rfl rfl ?_ ?_
      · (simp only [nA, Nat.reduceBEq, Nat.reduceEqDiff, ↓reduceIte, Nat.reduceAdd, Nat.reduceSub]); refine adPo 7 rfl (fun T' ok => op_ia_ro (idxV l (rawN l (rawN l (rawN l (rawN l (rawN l k))))) h.grants.length) rfl (.inl rfl) rfl Try.underlying22 rfl (get_mapD hix) (by exact sz75) (Nat.le_of_ble_eq_true rfl)) rfl (by kernel_rfl) (by kernel_rfl) ?_; (simp only [nA, Nat.reduceBEq, Nat.reduceEqDiff, ↓reduceIte, Nat.reduceAdd, Nat.reduceSub]); refine adRo 8 rfl (fun T' ok => op_load_rop rfl rfl ag75 sz75 (Nat.le_of_ble_eq_true rfl) (by decide) rfl) rfl (by kernel_rfl) (by kernel_rfl) ?_; (simp only [nA, Nat.reduceBEq, Nat.reduceEqDiff, ↓reduceIte, Nat.reduceAdd, Nat.reduceSub])
        refine adJo 9 rfl (op_alloc rfl ze75 rfl) (by kernel_rfl) rfl ?_; (simp only [nA, Nat.reduceBEq, Nat.reduceEqDiff, ↓reduceIte, Nat.reduceAdd, Nat.reduceSub])
        refine adJo 10 rfl (op_store rfl rfl rfl rfl rfl rfl sz75 rfl (Nat.le_of_ble_eq_true rfl) rfl) (by kernel_rfl) rfl ?_; (simp only [nA, Nat.reduceBEq, Nat.reduceEqDiff, ↓reduceIte, Nat.reduceAdd, Nat.reduceSub])
        refine adDoneo (by kernel_rfl) ?_; exact ⟨_, Gh.refl, _, trivial, ⟨rfl, rfl, rfl, rfl, rfl, rfl, trivial⟩, rfl, rfl⟩
      · (simp only [nA, Nat.reduceBEq, Nat.reduceEqDiff, ↓reduceIte, Nat.reduceAdd, Nat.reduceSub]); refine adJo 6 rfl (op_call1 rfl en12 (C12n (n := h.grants.length) hl (by omega) (by omega)) (by exact rfl) (RL.cons .ptr (RL.cons (.base (by exact View.same rfl)) (RL.nil))) (by exact ⟨_, _, _, rfl, rfl, rfl⟩) (by exact rfl) (by exact rfl) (by exact rfl)) (by kernel_rfl) rfl ?_; (simp only [nA, Nat.reduceBEq, Nat.reduceEqDiff, ↓reduceIte, Nat.reduceAdd, Nat.reduceSub])
        refine adPo 7 rfl (fun T' ok => op_ia_ro (idxV l (rawN l (rawN l (rawN l (rawN l (rawN l k))))) h.grants.length) rfl (.inl rfl) rfl Try.underlying22 rfl (get_mapD hix) (by exact sz75) (Nat.le_of_ble_eq_true rfl)) rfl (by kernel_rfl) (by kernel_rfl) ?_; (simp only [nA, Nat.reduceBEq, Nat.reduceEqDiff, ↓reduceIte, Nat.reduceAdd, Nat.reduceSub]); refine adRo 8 rfl (fun T' ok => op_load_rop rfl rfl ag75 sz75 (Nat.le_of_ble_eq_true rfl) (by decide) rfl) rfl (by kernel_rfl) (by kernel_rfl) ?_; (simp only [nA, Nat.reduceBEq, Nat.reduceEqDiff, ↓reduceIte, Nat.reduceAdd, Nat.reduceSub])
        refine adJo 10 rfl (op_store rfl rfl rfl rfl rfl rfl sz75 rfl (Nat.le_of_ble_eq_true rfl) rfl) (by kernel_rfl) rfl ?_; (simp only [nA, Nat.reduceBEq, Nat.reduceEqDiff, ↓reduceIte, Nat.reduceAdd, Nat.reduceSub])
        refine adDoneo (by kernel_rfl) ?_; exact ⟨_, Gh.refl, _, trivial, ⟨rfl, rfl, rfl, rfl, rfl, rfl, trivial⟩, rfl, rfl⟩
    intro e ρ _; simp only [updL]
    (refine AW.seq_k ?_; intro K hK)
    refine AW.region ?_
    (refine awP (op_fa_ptr rfl rfl rfl fl75_0 (by exact sz31) (by decide) rfl) ?_)
    (refine awR (op_load_ptr rfl rfl rfl rfl ag31 sz31 (Nat.le_of_ble_eq_true rfl) rfl) ?_)
    refine awJ (op_store rfl rfl rfl rfl rfl rfl sz31 rfl (Nat.le_of_ble_eq_true rfl) rfl) ?_; (simp only [nA, Nat.reduceBEq, Nat.reduceEqDiff, ↓reduceIte, Nat.reduceAdd, Nat.reduceSub])
    refine AWL.nil ?_
    (refine hK _ ?_; clear hK K; (skip))
    (refine AW.seq_k ?_; intro K hK)
    refine AW.region ?_
    (refine awP (op_fa_ptr rfl rfl rfl fl26_5 (by exact sz23) (by decide) rfl) ?_)
    (refine awR (op_load_ptr1 rfl rfl rfl rfl ag23 rfl rfl) ?_)
    refine awP (op_len_ro (n := h.conts.length) rfl rfl Try.underlying23 (.inr (.inl ⟨_, rfl, by simp⟩))) ?_
    refine awP (op_move rfl rfl) ?_
    refine AWL.nil ?_
    (refine hK _ ?_; clear hK K; (simp only [nA, Nat.reduceBEq, Nat.reduceEqDiff, ↓reduceIte, Nat.reduceAdd, Nat.reduceSub]))
    refine AW.block ?_
    refine AW.loopI (fun (q : Nat × Nat × Int) => [(0, .ptr 0 0 0 0), (3, .ptr 1 1 0 0), (4, .ptr 2 2 0 0), (6, .ptr 3 3 0 0), (7, .v (.int .i64 q.2.2)), (8, .ptr 4 4 0 0), (37, .v (.int .i64 (h.conts.length : Nat))), (38, .v (.int .i64 (q.1 : Nat)))]) (fun q => ⟨[(0, .own 81 [srcRow l q.2.1]), (1, .own 26 [h.av]), (2, .own 31 [[.v (.int .i64 0), .v (.int .i64 0), .v (.int .i64 0), .v (.int .i64 0), .v (.int .i64 0)]]), (3, .own 31 [((h.grants.getD (idxV l (rawN l (rawN l (rawN l (rawN l (rawN l k))))) h.grants.length) default)).piece.av]), (4, .own 75 [((h.grants.getD (idxV l (rawN l (rawN l (rawN l (rawN l (rawN l k))))) h.grants.length) default)).av])], _⟩) (fun q => q.1 ≤ h.conts.length ∧ scF l ((h.grants.getD (idxV l (rawN l (rawN l (rawN l (rawN l (rawN l k))))) h.grants.length) default)).flight (h.conts.drop q.1) q.2.1 q.2.2 = scF l ((h.grants.getD (idxV l (rawN l (rawN l (rawN l (rawN l (rawN l k))))) h.grants.length) default)).flight h.conts (rawN l (rawN l (rawN l (rawN l (rawN l (rawN l k)))))) (1 + gmod (rawV l (rawN l (rawN l (rawN l k)))) 6)) (fun q => h.conts.length - q.1) (0, (rawN l (rawN l (rawN l (rawN l (rawN l (rawN l k)))))), (1 + gmod (rawV l (rawN l (rawN l (rawN l k)))) 6)) ⟨by simp, rfl⟩ ⟨rfl, rfl, rfl, rfl, rfl, rfl, rfl, rfl, trivial⟩ rfl ?_; rintro ⟨i, kk, c⟩ ρ hI; dsimp only at hI ⊢; simp only [updL]
    (refine AW.seq_k ?_; intro K hK)
    refine AW.region ?_
    refine awP (op_lss rfl rfl rfl) ?_
    refine AWL.nil ?_
    (refine hK _ ?_; clear hK K; (simp only [nA, Nat.reduceBEq, Nat.reduceEqDiff, ↓reduceIte, Nat.reduceAdd, Nat.reduceSub]))
    (refine AW.seq_k ?_; intro K hK)
    refine AW.cond rfl rfl rfl (fun hc => ?_) (fun hc => ?_)
    ·
     have hc2 := hc; have hlt : i < h.conts.length := (by simpa using hc2); have hst := hI.2; rw [scF_at hlt] at hst
     refine AW.skip ?_
     (refine hK _ ?_; clear hK K; (skip))
     (refine AW.seq_k ?_; intro K hK)
     refine AW.block ?_
     (refine AW.seq_k ?_; intro K hK)
     refine AW.region ?_
     refine awP (op_move rfl rfl) ?_
     refine awP (op_assign rfl rfl) ?_
     refine AWL.nil ?_
     (refine hK _ ?_; clear hK K; (simp only [nA, Nat.reduceBEq, Nat.reduceEqDiff, ↓reduceIte, Nat.reduceAdd, Nat.reduceSub]))
     (refine AW.seq_k ?_; intro K hK)
     rcases Bool.eq_false_or_eq_true (flEq (h.conts.getD i default).flight ((h.grants.getD (idxV l (rawN l (rawN l (rawN l (rawN l (rawN l k))))) h.grants.length) default)).flight) with hgd2 | hgd2   -- by_cases on the guard
     · -- guard holds
      rw [if_pos hgd2] at hst
      refine AW.quiet_tail 11 mix (by kernel_rfl) rfl rfl ?_
      (refine aqP (op_fa_ptr rfl rfl rfl fl26_5 (by exact sz23) (by decide) rfl) ?_)
      (refine aqR (op_load_ptr1 rfl rfl rfl rfl ag23 rfl rfl) ?_)
      refine aqP (op_move rfl rfl) ?_
      refine aqP (op_ia_ro i rfl (.inl rfl) rfl Try.underlying23 rfl (get_mapD hlt) (by exact sz77) (Nat.le_of_ble_eq_true rfl)) ?_
      (refine aqP (op_fa_rop rfl rfl fl77_1 (by exact sz73) (by decide) (Nat.le_of_ble_eq_true rfl) rfl) ?_)
      (refine aqR (op_load_rop rfl rfl ag73 sz73 (Nat.le_of_ble_eq_true rfl) (by decide) rfl) ?_)
      (refine aqP (op_fa_ptr rfl rfl rfl fl75_1 (by exact sz73) (by decide) rfl) ?_)
      (refine aqR (op_load_ptr rfl rfl rfl rfl ag73 sz73 (Nat.le_of_ble_eq_true rfl) rfl) ?_)
      refine aqP (op_eq73 (p := (h.conts.getD i default).flight) (q := ((h.grants.getD (idxV l (rawN l (rawN l (rawN l (rawN l (rawN l k))))) h.grants.length) default)).flight) rfl rfl rfl) ?_; (simp only [nA, Nat.reduceBEq, Nat.reduceEqDiff, ↓reduceIte, Nat.reduceAdd, Nat.reduceSub])
      refine aqP (op_move rfl rfl) ?_
      refine aqYes 9 50 (OpP.q (op_move rfl rfl)) ?_ (congrArg (fun z => AV.v (.bool z)) hgd2) rfl rfl rfl rfl; (simp only [nA, Nat.reduceBEq, Nat.reduceEqDiff, ↓reduceIte, Nat.reduceAdd, Nat.reduceSub])
      refine AQ.nil ?_
      refine awYes 9 50 (op_call1 rfl en12 (C12 (n := 3) hl (by decide)) (by exact rfl) (RL.cons .ptr (RL.cons (.base (by exact View.same rfl)) (RL.nil))) (by exact ⟨_, _, _, rfl, rfl, rfl⟩) (by exact rfl) (by exact rfl) (by exact rfl)) ?_ (congrArg (fun z => AV.v (.bool z)) hgd2) rfl rfl rfl rfl; (simp only [nA, Nat.reduceBEq, Nat.reduceEqDiff, ↓reduceIte, Nat.reduceAdd, Nat.reduceSub])
      refine awYes 9 50 (OpP.j (op_gtr rfl rfl rfl)) ?_ (congrArg (fun z => AV.v (.bool z)) hgd2) rfl rfl rfl rfl; (simp only [nA, Nat.reduceBEq, Nat.reduceEqDiff, ↓reduceIte, Nat.reduceAdd, Nat.reduceSub])
      refine awP (op_pick rfl (congrArg (fun z => AV.v (.bool z)) hgd2) rfl) ?_
      refine AWL.nil ?_
      (refine hK _ ?_; clear hK K; (simp only [nA, Nat.reduceBEq, Nat.reduceEqDiff, ↓reduceIte, Nat.reduceAdd, Nat.reduceSub]))
      refine AW.cond rfl rfl rfl (fun hc => ?_) (fun hc => ?_)
      ·
       have hc3 := hc; rw [if_pos (by simpa using hc3)] at hst
       refine AW.region ?_
       (refine awP (op_fa_ptr rfl rfl rfl fl26_5 (by exact sz23) (by decide) rfl) ?_)
       (refine awR (op_load_ptr1 rfl rfl rfl rfl ag23 rfl rfl) ?_)
       refine awP (op_move rfl rfl) ?_
       refine awP (op_ia_ro i rfl (.inl rfl) rfl Try.underlying23 rfl (get_mapD hlt) (by exact sz77) (Nat.le_of_ble_eq_true rfl)) ?_
       (refine awP (op_fa_rop rfl rfl fl77_0 (by exact sz3) (by decide) (Nat.le_of_ble_eq_true rfl) rfl) ?_)
       (refine awR (op_load_rop1 rfl rfl ag3) ?_)
       refine awP (op_assign rfl rfl) ?_
       refine AWL.nil ?_
       (simp only [thenE, inBlk, Nat.reduceEqDiff, ↓reduceIte])
       (refine hK _ ?_; clear hK K; (simp only [nA, Nat.reduceBEq, Nat.reduceEqDiff, ↓reduceIte, Nat.reduceAdd, Nat.reduceSub]))
       refine AW.region ?_
       (refine awP (op_addi rfl rfl rfl (by omega)) ?_)
       refine awP (op_move rfl rfl) ?_
       skip
       refine AWL.nil ?_
       refine ⟨(i + 1, rawN l kk, (h.conts.getD i default).number), ⟨by dsimp only; omega, hst⟩, by dsimp only; omega, ⟨rfl, rfl, rfl, rfl, rfl, rfl, rfl, rfl, trivial⟩, (by rfl), (by rfl)⟩
      ·
       have hc3 := hc; rw [if_neg (by simpa using hc3)] at hst
       refine AW.skip ?_
       (simp only [thenE, inBlk, Nat.reduceEqDiff, ↓reduceIte])
       (refine hK _ ?_; clear hK K; (skip))
       refine AW.region ?_
       (refine awP (op_addi rfl rfl rfl (by omega)) ?_)
       refine awP (op_move rfl rfl) ?_
       skip
       refine AWL.nil ?_
       refine ⟨(i + 1, rawN l kk, c), ⟨by dsimp only; omega, hst⟩, by dsimp only; omega, ⟨rfl, rfl, rfl, rfl, rfl, rfl, rfl, rfl, trivial⟩, (by rfl), (by rfl)⟩
     · -- guard fails
      rw [if_neg (by rw [hgd2]; decide)] at hst
      refine AW.quiet_tail 11 mix (by kernel_rfl) rfl rfl ?_
      (refine aqP (op_fa_ptr rfl rfl rfl fl26_5 (by exact sz23) (by decide) rfl) ?_)
      (refine aqR (op_load_ptr1 rfl rfl rfl rfl ag23 rfl rfl) ?_)
      refine aqP (op_move rfl rfl) ?_
      refine aqP (op_ia_ro i rfl (.inl rfl) rfl Try.underlying23 rfl (get_mapD hlt) (by exact sz77) (Nat.le_of_ble_eq_true rfl)) ?_
      (refine aqP (op_fa_rop rfl rfl fl77_1 (by exact sz73) (by decide) (Nat.le_of_ble_eq_true rfl) rfl) ?_)
      (refine aqR (op_load_rop rfl rfl ag73 sz73 (Nat.le_of_ble_eq_true rfl) (by decide) rfl) ?_)
      (refine aqP (op_fa_ptr rfl rfl rfl fl75_1 (by exact sz73) (by decide) rfl) ?_)
      (refine aqR (op_load_ptr rfl rfl rfl rfl ag73 sz73 (Nat.le_of_ble_eq_true rfl) rfl) ?_)
      refine aqP (op_eq73 (p := (h.conts.getD i default).flight) (q := ((h.grants.getD (idxV l (rawN l (rawN l (rawN l (rawN l (rawN l k))))) h.grants.length) default)).flight) rfl rfl rfl) ?_; (simp only [nA, Nat.reduceBEq, Nat.reduceEqDiff, ↓reduceIte, Nat.reduceAdd, Nat.reduceSub])
      refine aqP (op_move rfl rfl) ?_
      refine aqNo 9 50 ?_ (congrArg (fun z => AV.v (.bool z)) hgd2) rfl rfl rfl rfl; (simp only [nA, Nat.reduceBEq, Nat.reduceEqDiff, ↓reduceIte, Nat.reduceAdd, Nat.reduceSub])
      refine AQ.nil ?_
      refine awNo 9 50 ?_ (congrArg (fun z => AV.v (.bool z)) hgd2) rfl rfl rfl rfl; (simp only [nA, Nat.reduceBEq, Nat.reduceEqDiff, ↓reduceIte, Nat.reduceAdd, Nat.reduceSub])
      refine awNo 9 50 ?_ (congrArg (fun z => AV.v (.bool z)) hgd2) rfl rfl rfl rfl; (simp only [nA, Nat.reduceBEq, Nat.reduceEqDiff, ↓reduceIte, Nat.reduceAdd, Nat.reduceSub])
      refine awP (op_pick rfl (congrArg (fun z => AV.v (.bool z)) hgd2) rfl) ?_
      refine AWL.nil ?_
      (refine hK _ ?_; clear hK K; (simp only [nA, Nat.reduceBEq, Nat.reduceEqDiff, ↓reduceIte, Nat.reduceAdd, Nat.reduceSub]))
      refine AW.cond rfl rfl rfl (fun hc => ?_) (fun hc => ?_)
      · (cases hc; done)
      ·
       have hc4 := hc; skip
       refine AW.skip ?_
       (simp only [thenE, inBlk, Nat.reduceEqDiff, ↓reduceIte])
       (refine hK _ ?_; clear hK K; (skip))
       refine AW.region ?_
       (refine awP (op_addi rfl rfl rfl (by omega)) ?_)
       refine awP (op_move rfl rfl) ?_
       skip
       refine AWL.nil ?_
       refine ⟨(i + 1, kk, c), ⟨by dsimp only; omega, hst⟩, by dsimp only; omega, ⟨rfl, rfl, rfl, rfl, rfl, rfl, rfl, rfl, trivial⟩, (by rfl), (by rfl)⟩
    ·
     have hc2 := hc; have hil : i = h.conts.length := (by have : ¬ i < h.conts.length := (by simpa using hc2); have := hI.1; omega)
     refine AW.exit ?_; (simp only [thenE, inBlk, Nat.reduceEqDiff, ↓reduceIte])
     clear hK K
     (refine hK _ ?_; clear hK K; (skip))
     (refine AW.seq_k ?_; intro K hK)
     refine AW.region ?_
     (refine awR (op_load_ptr rfl rfl rfl rfl ag31 sz31 (Nat.le_of_ble_eq_true rfl) rfl) ?_)
     refine awP (op_move rfl rfl) ?_
     refine awJ (op_store rfl rfl rfl rfl rfl rfl sz31 rfl (Nat.le_of_ble_eq_true rfl) rfl) ?_; (simp only [nA, Nat.reduceBEq, Nat.reduceEqDiff, ↓reduceIte, Nat.reduceAdd, Nat.reduceSub])
     refine awP (op_assign rfl rfl) ?_
     refine AWL.nil ?_
     (refine hK _ ?_; clear hK K; (simp only [nA, Nat.reduceBEq, Nat.reduceEqDiff, ↓reduceIte, Nat.reduceAdd, Nat.reduceSub]))
     skip
     refine AW.ret ?_; have hE : scanV l h k = (kk, ((h.grants.getD (idxV l (rawN l (rawN l (rawN l (rawN l (rawN l k))))) h.grants.length) default)).piece, c) := (by have h2 := hI.2; rw [hil, List.drop_length] at h2; unfold scanV; rw [if_neg (by omega), if_pos (by simpa using hc1)]; dsimp only [scK]; rw [← h2]; rfl); rw [hE]; exact RQ.of (.inl rfl) rfl (.cell (Nat.le_of_ble_eq_true rfl) rfl rfl rfl ag31 sz31 (Nat.le_of_ble_eq_true rfl) rfl rfl (.tmp (Nat.le_of_ble_eq_true rfl) rfl rfl .nil)) (by simp) rfl (one_out rfl)
   ·
    have hc1 := hc; skip
    refine AW.skip ?_
    (refine hK _ ?_; clear hK K; (skip))
    (refine AW.seq_k ?_; intro K hK)
    refine AW.region ?_
    (refine awR (op_load_ptr rfl rfl rfl rfl ag31 sz31 (Nat.le_of_ble_eq_true rfl) rfl) ?_)
    refine awP (op_move rfl rfl) ?_
    refine awJ (op_store rfl rfl rfl rfl rfl rfl sz31 rfl (Nat.le_of_ble_eq_true rfl) rfl) ?_; (simp only [nA, Nat.reduceBEq, Nat.reduceEqDiff, ↓reduceIte, Nat.reduceAdd, Nat.reduceSub])
    refine awP (op_assign rfl rfl) ?_
    refine AWL.nil ?_
    (refine hK _ ?_; clear hK K; (simp only [nA, Nat.reduceBEq, Nat.reduceEqDiff, ↓reduceIte, Nat.reduceAdd, Nat.reduceSub]))
    skip
    refine AW.ret ?_; have hE : scanV l h k = (rawN l (rawN l (scK l k)), pieceV l k 10, (1 + gmod (rawV l (rawN l (rawN l (rawN l k)))) 6)) := (by unfold scanV; rw [if_neg (by omega), if_neg (by simpa using hc1)]); rw [hE]; exact RQ.of (.inl rfl) rfl (.cell (Nat.le_of_ble_eq_true rfl) rfl rfl rfl ag31 sz31 (Nat.le_of_ble_eq_true rfl) rfl rfl (.tmp (Nat.le_of_ble_eq_true rfl) rfl rfl .nil)) (by simp) rfl (one_out rfl)
  · -- guard fails
   have hgl : h.grants.length = 0 := (by simpa using hgd1)
   refine AW.region ?_
   (refine awP (op_fa_ptr rfl rfl rfl fl26_4 (by exact sz22) (by decide) rfl) ?_)
   (refine awR (op_load_ptr1 rfl rfl rfl rfl ag22 rfl rfl) ?_)
   refine awP (op_len_ro (n := h.grants.length) rfl rfl Try.underlying22 (.inr (.inl ⟨_, rfl, by simp⟩))) ?_
   refine awP (op_gtr rfl rfl rfl) ?_
   refine awP (op_move rfl rfl) ?_
   refine awNo 4 19 ?_ (congrArg (fun z => AV.v (.bool z)) hgd1) rfl rfl rfl rfl; (simp only [nA, Nat.reduceBEq, Nat.reduceEqDiff, ↓reduceIte, Nat.reduceAdd, Nat.reduceSub])
   refine awNo 4 19 ?_ (congrArg (fun z => AV.v (.bool z)) hgd1) rfl rfl rfl rfl; (simp only [nA, Nat.reduceBEq, Nat.reduceEqDiff, ↓reduceIte, Nat.reduceAdd, Nat.reduceSub])
   refine awNo 4 19 ?_ (congrArg (fun z => AV.v (.bool z)) hgd1) rfl rfl rfl rfl; (simp only [nA, Nat.reduceBEq, Nat.reduceEqDiff, ↓reduceIte, Nat.reduceAdd, Nat.reduceSub])
   refine awP (op_pick rfl (congrArg (fun z => AV.v (.bool z)) hgd1) rfl) ?_
   refine AWL.nil ?_
   (refine hK _ ?_; clear hK K; (simp only [nA, Nat.reduceBEq, Nat.reduceEqDiff, ↓reduceIte, Nat.reduceAdd, Nat.reduceSub]))
   refine AW.cond rfl rfl rfl (fun hc => ?_) (fun hc => ?_)
   · (cases hc; done)
   ·
    have hc5 := hc; skip
    refine AW.skip ?_
    (refine hK _ ?_; clear hK K; (skip))
    (refine AW.seq_k ?_; intro K hK)
    refine AW.region ?_
    (refine awR (op_load_ptr rfl rfl rfl rfl ag31 sz31 (Nat.le_of_ble_eq_true rfl) rfl) ?_)
    refine awP (op_move rfl rfl) ?_
    refine awJ (op_store rfl rfl rfl rfl rfl rfl sz31 rfl (Nat.le_of_ble_eq_true rfl) rfl) ?_; (simp only [nA, Nat.reduceBEq, Nat.reduceEqDiff, ↓reduceIte, Nat.reduceAdd, Nat.reduceSub])
    refine awP (op_assign rfl rfl) ?_
    refine AWL.nil ?_
    (refine hK _ ?_; clear hK K; (simp only [nA, Nat.reduceBEq, Nat.reduceEqDiff, ↓reduceIte, Nat.reduceAdd, Nat.reduceSub]))
    skip
    refine AW.ret ?_; have hE : scanV l h k = (rawN l (scK l k), pieceV l k 10, (1 + gmod (rawV l (rawN l (rawN l (rawN l k)))) 6)) := (by unfold scanV; rw [if_pos hgl]); rw [hE]; exact RQ.of (.inl rfl) rfl (.cell (Nat.le_of_ble_eq_true rfl) rfl rfl rfl ag31 sz31 (Nat.le_of_ble_eq_true rfl) rfl rfl (.tmp (Nat.le_of_ble_eq_true rfl) rfl rfl .nil)) (by simp) rfl (one_out rfl)
end Go.Proofs.Ytdnofpggdddimaa
namespace Go.Proofs.Ytdnofpggdddimaa
open Go.RowKit
set_option linter.unusedSimpArgs false
set_option linter.unusedVariables false
set_option maxRecDepth 100000
def stepV (l : List Int) (h : Hand) (k : Nat) : Nat × Hand :=
  let q := scanV l h k
  let r := scanR h (1 + gmod (rawV l q.1) 2) q.2.1 q.2.2 (h.last + gmod (rawV l (rawN l q.1)) 3)
  (rawN l (rawN l q.1), if r.2.2 = 0 then r.1 else h)
def devS (l : List Int) : Nat → Nat → Hand → Nat × Hand
  | 0, k, h => (k, h)
  | f + 1, k, h => devS l f (stepV l h k).1 (stepV l h k).2
abbrev dvN (l : List Int) (k : Nat) : Int := 1 + gmod (rawV l k) 6
abbrev dvX (l : List Int) (k : Nat) : Int := 1 + gmod (rawV l (rawN l k)) 5
def devA (l : List Int) (k : Nat) : Nat × Hand :=
  if gmod (rawV l (rawN l (rawN l k))) 4 > 0 then
    ((emptiesV l (grS l 8 0 (rawN l (rawN l (rawN l k))) []).1 5).1, (offR (onH (dvN l k) (dvX l k) 0) (grS l 8 0 (rawN l (rawN l (rawN l k))) []).2 (emptiesV l (grS l 8 0 (rawN l (rawN l (rawN l k))) []).1 5).2).1)
  else (rawN l (rawN l (rawN l k)), onH (dvN l k) (dvX l k) 0)
def devV (l : List Int) (k : Nat) : Nat × Hand := devS l (gmod (rawV l (devA l k).1) 8).toNat (rawN l (devA l k).1) (devA l k).2
theorem scanR_0 {h : Hand} {k : Int} {p : Piece} {n t : Int} (h0 : (scanR h k p n t).2.2 = 0) : scanE h k p n t = 0 ∧ (scanR h k p n t).1 = scanH h k p n t ∧ (scanR h k p n t).2.1 = newOp h k p n t := by
  by_cases he : scanE h k p n t = 0
  · unfold scanR; rw [if_pos he]; exact ⟨he, rfl, rfl⟩
  · unfold scanR at h0; rw [if_neg he] at h0; exact absurd h0 he
/-- What every device of the source keeps. -/
structure DevI (h : Hand) : Prop where
  v : valH h = 0
  s : h.Sm
  l0 : 0 ≤ h.last
  l1 : h.last ≤ 1048576
theorem DevI.scan {h : Hand} (hd : DevI h) {k : Int} {p : Piece} {n t : Int} (he : scanE h k p n t = 0) : DevI (scanH h k p n t) := by
  have hp := scan_parts he
  have ht := hp.2.2.2.2.1
  unfold inB at ht
  simp only [Bool.and_eq_true, decide_eq_true_eq] at ht
  exact ⟨scan_valid he, scan_sm hd.s he, ht.1, ht.2⟩
theorem DevI.step {l : List Int} {h : Hand} (hd : DevI h) (k : Nat) : DevI (stepV l h k).2 := by
  unfold stepV
  dsimp only
  split
  · rename_i h0
    obtain ⟨he, h1, _⟩ := scanR_0 h0
    rw [h1]
    exact hd.scan he
  · exact hd
theorem DevI.devS {l : List Int} : ∀ (f k : Nat) {h : Hand}, DevI h → DevI (devS l f k h).2
  | 0, _, _, hd => hd
  | f + 1, k, _, hd => DevI.devS f _ (hd.step k)
theorem devA_I (l : List Int) (k : Nat) : DevI (devA l k).2 := by
  have h6 := gmod_bd (x := rawV l k) (n := 6) (by decide)
  have h5 := gmod_bd (x := rawV l (rawN l k)) (n := 5) (by decide)
  have hv : valH (onH (dvN l k) (dvX l k) 0) = 0 := valOn ⟨by unfold dvN; omega, by unfold dvN; omega⟩ ⟨by unfold dvX; omega, by unfold dvX; omega⟩ (by decide)
  unfold devA
  split
  · have hG := goodG l 8 (rawN l (rawN l (rawN l k))) (by decide)
    have hM := goodM l (grS l 8 0 (rawN l (rawN l (rawN l k))) []).1 5
    have hc := goodM_chk l (grS l 8 0 (rawN l (rawN l (rawN l k))) []).1 5 (by decide)
    have hgl := hG.len
    have he := off_intro (h := onH (dvN l k) (dvX l k) 0) hv rfl (by omega) (hG.err (by decide)) hc
    dsimp only
    rw [off_ok he]
    exact ⟨off_valid he rfl, off_sm (on_sm _ _ _) (by omega) (by have := hM.2; omega), by show (0 : Int) ≤ 0; decide, by show (0 : Int) ≤ 1048576; decide⟩
  · exact ⟨hv, on_sm _ _ _, by show (0 : Int) ≤ 0; decide, by show (0 : Int) ≤ 1048576; decide⟩
theorem devV_I (l : List Int) (k : Nat) : DevI (devV l k).2 := DevI.devS _ _ (devA_I l k)
theorem C16 {l : List Int} {k0 : Nat} (hl : l.length ≤ 2000) : Fn Try.prog 16 [.own 81 [srcRow l k0]] [.ptr 0 0 0 0] [.agg (devV l k0).2.av] [.own 81 [srcRow l (devV l k0).1]] := by
  have h6 := gmod_bd (x := rawV l k0) (n := 6) (by decide)
  have h5 := gmod_bd (x := rawV l (rawN l k0)) (n := 5) (by decide)
  have hG := goodG l 8 (rawN l (rawN l (rawN l k0))) (by decide)
  have hM := goodM l (grS l 8 0 (rawN l (rawN l (rawN l k0))) []).1 5
  have hgl := hG.len
  have hml := hM.2
  have hcp : ∀ x ∈ (emptiesV l (grS l 8 0 (rawN l (rawN l (rawN l k0))) []).1 5).2, x.pieces.length ≤ 1000000000 := fun x hx => by
    obtain ⟨i, hi, rfl⟩ := List.getElem_of_mem hx
    obtain ⟨j, _, _, e⟩ := hM.1.of i hi
    rw [e]; simp
  have h8 := gmod_bd (x := rawV l (devA l k0).1) (n := 8) (by decide)
  have hN0 : gmod (rawV l (devA l k0).1) 8 = (((gmod (rawV l (devA l k0).1) 8).toNat : Nat) : Int) := by omega
  refine Spec.body Try.func16 rfl Try.ntmps16 (by simp) rfl ?_; intro S0 own0 v0 w0
  (refine AW.seq_k ?_; intro K hK)
  refine AW.region ?_
  refine awJ (op_alloc rfl ze26 rfl) ?_; (simp only [nA, Nat.reduceBEq, Nat.reduceEqDiff, ↓reduceIte, Nat.reduceAdd, Nat.reduceSub])
  refine AWL.nil ?_
  (refine hK _ ?_; clear hK K; (simp only [nA, Nat.reduceBEq, Nat.reduceEqDiff, ↓reduceIte, Nat.reduceAdd, Nat.reduceSub]))
  (refine AW.seq_k ?_; intro K hK)
  refine AW.region ?_
  refine awP (op_move rfl rfl) ?_
  refine awJ (op_call1 rfl en12 (C12 (n := 6) hl (by decide)) (by exact rfl) (RL.cons .ptr (RL.cons (.base (by exact View.same rfl)) (RL.nil))) (by exact ⟨_, _, _, rfl, rfl, rfl⟩) (by exact rfl) (by exact rfl) (by exact rfl)) ?_; (simp only [nA, Nat.reduceBEq, Nat.reduceEqDiff, ↓reduceIte, Nat.reduceAdd, Nat.reduceSub])
  (refine awP (op_addi rfl rfl rfl (by omega)) ?_)
  refine awP (op_move rfl rfl) ?_
  refine awJ (op_call1 rfl en12 (C12 (n := 5) hl (by decide)) (by exact rfl) (RL.cons .ptr (RL.cons (.base (by exact View.same rfl)) (RL.nil))) (by exact ⟨_, _, _, rfl, rfl, rfl⟩) (by exact rfl) (by exact rfl) (by exact rfl)) ?_; (simp only [nA, Nat.reduceBEq, Nat.reduceEqDiff, ↓reduceIte, Nat.reduceAdd, Nat.reduceSub])
  (refine awP (op_addi rfl rfl rfl (by omega)) ?_)
  refine awP (op_build2 (xs := [_, _, .v (.int .i64 0), .v (.bool false), .v (.slice none 0 0), .v (.slice none 0 0), .v (.slice none 0 0)]) rfl pl26 ze26 [(0, [_]), (1, [_])] rfl rfl rfl) ?_
  refine awJ (op_alloc rfl ze26 rfl) ?_; (simp only [nA, Nat.reduceBEq, Nat.reduceEqDiff, ↓reduceIte, Nat.reduceAdd, Nat.reduceSub])
  refine awJ (op_store rfl rfl rfl rfl rfl rfl sz26 rfl (Nat.le_of_ble_eq_true rfl) rfl) ?_; (simp only [nA, Nat.reduceBEq, Nat.reduceEqDiff, ↓reduceIte, Nat.reduceAdd, Nat.reduceSub])
  refine AWL.nil ?_
  (refine hK _ ?_; clear hK K; (skip))
  refine AW.joinG (fun (e : Nat) => [(0, .ptr 0 0 0 0), (2, .ptr 1 1 0 0), (3, .ptr 2 2 0 0)]) (fun e => ⟨[(0, .own 81 [srcRow l (devA l k0).1]), (1, .own 26 [[.v (.int .i64 0), .v (.int .i64 0), .v (.int .i64 0), .v (.bool false), .v (.slice none 0 0), .v (.slice none 0 0), .v (.slice none 0 0)]]), (2, .own 26 [(devA l k0).2.av])], e⟩) (fun _ => True) ?_ ?_
  ·
   (refine AW.seq_k ?_; intro K hK)
   refine AW.region ?_
   refine awP (op_move rfl rfl) ?_
   refine awJ (op_call1 rfl en12 (C12 (n := 4) hl (by decide)) (by exact rfl) (RL.cons .ptr (RL.cons (.base (by exact View.same rfl)) (RL.nil))) (by exact ⟨_, _, _, rfl, rfl, rfl⟩) (by exact rfl) (by exact rfl) (by exact rfl)) ?_; (simp only [nA, Nat.reduceBEq, Nat.reduceEqDiff, ↓reduceIte, Nat.reduceAdd, Nat.reduceSub])
   refine awP (op_gtr rfl rfl rfl) ?_
   refine AWL.nil ?_
   (refine hK _ ?_; clear hK K; (simp only [nA, Nat.reduceBEq, Nat.reduceEqDiff, ↓reduceIte, Nat.reduceAdd, Nat.reduceSub]))
   refine AW.cond rfl rfl rfl (fun hc => ?_) (fun hc => ?_)
   ·
    have hc1 := hc; skip
    refine AW.ado (fun _ => True) mix rfl ?_
    refine adPo 1 rfl (fun T' ok => op_move rfl rfl) trivial (by kernel_rfl) (by kernel_rfl) ?_; (simp only [nA, Nat.reduceBEq, Nat.reduceEqDiff, ↓reduceIte, Nat.reduceAdd, Nat.reduceSub])
    refine adPo 3 rfl (fun T' ok => op_move rfl rfl) trivial (by kernel_rfl) (by kernel_rfl) ?_; (simp only [nA, Nat.reduceBEq, Nat.reduceEqDiff, ↓reduceIte, Nat.reduceAdd, Nat.reduceSub])
    refine adJ2o 0 2 rfl rfl (OpR.j (op_load_ptr rfl rfl rfl rfl ag26 sz26 (Nat.le_of_ble_eq_true rfl) rfl)) (op_call1 rfl en30 (C30 (n := 8) hl (by decide)) (by exact rfl) (RL.cons .ptr (RL.cons (.base (by exact View.same rfl)) (RL.nil))) (by exact ⟨_, _, _, rfl, rfl, rfl⟩) (by exact rfl) (by exact rfl) (by exact rfl)) (by kernel_rfl) trivial trivial ?_ ?_
    · (simp only [nA, Nat.reduceBEq, Nat.reduceEqDiff, ↓reduceIte, Nat.reduceAdd, Nat.reduceSub]); refine adJo 2 rfl (op_call1 rfl en30 (C30 (n := 8) hl (by decide)) (by exact rfl) (RL.cons .ptr (RL.cons (.base (by exact View.same rfl)) (RL.nil))) (by exact ⟨_, _, _, rfl, rfl, rfl⟩) (by exact rfl) (by exact rfl) (by exact rfl)) (by kernel_rfl) trivial ?_; (simp only [nA, Nat.reduceBEq, Nat.reduceEqDiff, ↓reduceIte, Nat.reduceAdd, Nat.reduceSub])
      refine adJo 4 rfl (op_call1 rfl en38 (C38 (n := 5) hl (by decide)) (by exact rfl) (RL.cons .ptr (RL.cons (.base (by exact View.same rfl)) (RL.nil))) (by exact ⟨_, _, _, rfl, rfl, rfl⟩) (by exact rfl) (by exact rfl) (by exact rfl)) (by kernel_rfl) trivial ?_; (simp only [nA, Nat.reduceBEq, Nat.reduceEqDiff, ↓reduceIte, Nat.reduceAdd, Nat.reduceSub])
      refine adFo 5 rfl (fun T' ok => op_callS rfl en33 (C33 (g := (grS l 8 0 (rawN l (rawN l (rawN l k0))) []).2) (c := (emptiesV l (grS l 8 0 (rawN l (rawN l (rawN l k0))) []).1 5).2) (nb := dvN l k0) (nx := dvX l k0) (ls := 0) (by omega) (by omega) hcp) (RL.cons (by exact View.same rfl) (RL.cons (by exact View.same rfl) (RL.cons (by exact View.same rfl) (RL.nil)))) rfl rfl rfl) trivial (by kernel_rfl) (by kernel_rfl) ?_; (simp only [nA, Nat.reduceBEq, Nat.reduceEqDiff, ↓reduceIte, Nat.reduceAdd, Nat.reduceSub]); refine adPo 6 rfl (fun T' ok => op_move rfl rfl) trivial (by kernel_rfl) (by kernel_rfl) ?_; (simp only [nA, Nat.reduceBEq, Nat.reduceEqDiff, ↓reduceIte, Nat.reduceAdd, Nat.reduceSub]); refine adPo 7 rfl (fun T' ok => op_extract rfl rfl rfl) trivial (by kernel_rfl) (by kernel_rfl) ?_; (simp only [nA, Nat.reduceBEq, Nat.reduceEqDiff, ↓reduceIte, Nat.reduceAdd, Nat.reduceSub]); refine adPo 8 rfl (fun T' ok => op_extract rfl rfl rfl) trivial (by kernel_rfl) (by kernel_rfl) ?_; (simp only [nA, Nat.reduceBEq, Nat.reduceEqDiff, ↓reduceIte, Nat.reduceAdd, Nat.reduceSub]); refine adJo 9 rfl (op_store rfl rfl rfl rfl rfl rfl sz26 rfl (Nat.le_of_ble_eq_true rfl) rfl) (by kernel_rfl) trivial ?_; (simp only [nA, Nat.reduceBEq, Nat.reduceEqDiff, ↓reduceIte, Nat.reduceAdd, Nat.reduceSub]); refine adDoneo (by kernel_rfl) ?_; have hA : devA l k0 = ((emptiesV l (grS l 8 0 (rawN l (rawN l (rawN l k0))) []).1 5).1, (offR (onH (dvN l k0) (dvX l k0) 0) (grS l 8 0 (rawN l (rawN l (rawN l k0))) []).2 (emptiesV l (grS l 8 0 (rawN l (rawN l (rawN l k0))) []).1 5).2).1) := (if_pos (by simpa using hc1)); rw [hA]; exact ⟨_, Gh.refl, _, trivial, ⟨rfl, rfl, rfl, trivial⟩, rfl, rfl⟩
    · (simp only [nA, Nat.reduceBEq, Nat.reduceEqDiff, ↓reduceIte, Nat.reduceAdd, Nat.reduceSub]); refine adJ2o 0 4 rfl rfl (OpR.j (op_load_ptr rfl rfl rfl rfl ag26 sz26 (Nat.le_of_ble_eq_true rfl) rfl)) (op_call1 rfl en38 (C38 (n := 5) hl (by decide)) (by exact rfl) (RL.cons .ptr (RL.cons (.base (by exact View.same rfl)) (RL.nil))) (by exact ⟨_, _, _, rfl, rfl, rfl⟩) (by exact rfl) (by exact rfl) (by exact rfl)) (by kernel_rfl) trivial trivial ?_ ?_
      · (simp only [nA, Nat.reduceBEq, Nat.reduceEqDiff, ↓reduceIte, Nat.reduceAdd, Nat.reduceSub]); refine adJo 4 rfl (op_call1 rfl en38 (C38 (n := 5) hl (by decide)) (by exact rfl) (RL.cons .ptr (RL.cons (.base (by exact View.same rfl)) (RL.nil))) (by exact ⟨_, _, _, rfl, rfl, rfl⟩) (by exact rfl) (by exact rfl) (by exact rfl)) (by kernel_rfl) trivial ?_; (simp only [nA, Nat.reduceBEq, Nat.reduceEqDiff, ↓reduceIte, Nat.reduceAdd, Nat.reduceSub])
        refine adFo 5 rfl (fun T' ok => op_callS rfl en33 (C33 (g := (grS l 8 0 (rawN l (rawN l (rawN l k0))) []).2) (c := (emptiesV l (grS l 8 0 (rawN l (rawN l (rawN l k0))) []).1 5).2) (nb := dvN l k0) (nx := dvX l k0) (ls := 0) (by omega) (by omega) hcp) (RL.cons (by exact View.same rfl) (RL.cons (by exact View.same rfl) (RL.cons (by exact View.same rfl) (RL.nil)))) rfl rfl rfl) trivial (by kernel_rfl) (by kernel_rfl) ?_; (simp only [nA, Nat.reduceBEq, Nat.reduceEqDiff, ↓reduceIte, Nat.reduceAdd, Nat.reduceSub]); refine adPo 6 rfl (fun T' ok => op_move rfl rfl) trivial (by kernel_rfl) (by kernel_rfl) ?_; (simp only [nA, Nat.reduceBEq, Nat.reduceEqDiff, ↓reduceIte, Nat.reduceAdd, Nat.reduceSub]); refine adPo 7 rfl (fun T' ok => op_extract rfl rfl rfl) trivial (by kernel_rfl) (by kernel_rfl) ?_; (simp only [nA, Nat.reduceBEq, Nat.reduceEqDiff, ↓reduceIte, Nat.reduceAdd, Nat.reduceSub]); refine adPo 8 rfl (fun T' ok => op_extract rfl rfl rfl) trivial (by kernel_rfl) (by kernel_rfl) ?_; (simp only [nA, Nat.reduceBEq, Nat.reduceEqDiff, ↓reduceIte, Nat.reduceAdd, Nat.reduceSub]); refine adJo 9 rfl (op_store rfl rfl rfl rfl rfl rfl sz26 rfl (Nat.le_of_ble_eq_true rfl) rfl) (by kernel_rfl) trivial ?_; (simp only [nA, Nat.reduceBEq, Nat.reduceEqDiff, ↓reduceIte, Nat.reduceAdd, Nat.reduceSub]); refine adDoneo (by kernel_rfl) ?_; have hA : devA l k0 = ((emptiesV l (grS l 8 0 (rawN l (rawN l (rawN l k0))) []).1 5).1, (offR (onH (dvN l k0) (dvX l k0) 0) (grS l 8 0 (rawN l (rawN l (rawN l k0))) []).2 (emptiesV l (grS l 8 0 (rawN l (rawN l (rawN l k0))) []).1 5).2).1) := (if_pos (by simpa using hc1)); rw [hA]; exact ⟨_, Gh.refl, _, trivial, ⟨rfl, rfl, rfl, trivial⟩, rfl, rfl⟩
      · (simp only [nA, Nat.reduceBEq, Nat.reduceEqDiff, ↓reduceIte, Nat.reduceAdd, Nat.reduceSub]); refine adJo 0 rfl (OpR.j (op_load_ptr rfl rfl rfl rfl ag26 sz26 (Nat.le_of_ble_eq_true rfl) rfl)) (by kernel_rfl) trivial ?_; (simp only [nA, Nat.reduceBEq, Nat.reduceEqDiff, ↓reduceIte, Nat.reduceAdd, Nat.reduceSub])
        refine adFo 5 rfl (fun T' ok => op_callS rfl en33 (C33 (g := (grS l 8 0 (rawN l (rawN l (rawN l k0))) []).2) (c := (emptiesV l (grS l 8 0 (rawN l (rawN l (rawN l k0))) []).1 5).2) (nb := dvN l k0) (nx := dvX l k0) (ls := 0) (by omega) (by omega) hcp) (RL.cons (by exact View.same rfl) (RL.cons (by exact View.same rfl) (RL.cons (by exact View.same rfl) (RL.nil)))) rfl rfl rfl) trivial (by kernel_rfl) (by kernel_rfl) ?_; (simp only [nA, Nat.reduceBEq, Nat.reduceEqDiff, ↓reduceIte, Nat.reduceAdd, Nat.reduceSub]); refine adPo 6 rfl (fun T' ok => op_move rfl rfl) trivial (by kernel_rfl) (by kernel_rfl) ?_; (simp only [nA, Nat.reduceBEq, Nat.reduceEqDiff, ↓reduceIte, Nat.reduceAdd, Nat.reduceSub]); refine adPo 7 rfl (fun T' ok => op_extract rfl rfl rfl) trivial (by kernel_rfl) (by kernel_rfl) ?_; (simp only [nA, Nat.reduceBEq, Nat.reduceEqDiff, ↓reduceIte, Nat.reduceAdd, Nat.reduceSub]); refine adPo 8 rfl (fun T' ok => op_extract rfl rfl rfl) trivial (by kernel_rfl) (by kernel_rfl) ?_; (simp only [nA, Nat.reduceBEq, Nat.reduceEqDiff, ↓reduceIte, Nat.reduceAdd, Nat.reduceSub]); refine adJo 9 rfl (op_store rfl rfl rfl rfl rfl rfl sz26 rfl (Nat.le_of_ble_eq_true rfl) rfl) (by kernel_rfl) trivial ?_; (simp only [nA, Nat.reduceBEq, Nat.reduceEqDiff, ↓reduceIte, Nat.reduceAdd, Nat.reduceSub]); refine adDoneo (by kernel_rfl) ?_; have hA : devA l k0 = ((emptiesV l (grS l 8 0 (rawN l (rawN l (rawN l k0))) []).1 5).1, (offR (onH (dvN l k0) (dvX l k0) 0) (grS l 8 0 (rawN l (rawN l (rawN l k0))) []).2 (emptiesV l (grS l 8 0 (rawN l (rawN l (rawN l k0))) []).1 5).2).1) := (if_pos (by simpa using hc1)); rw [hA]; exact ⟨_, Gh.refl, _, trivial, ⟨rfl, rfl, rfl, trivial⟩, rfl, rfl⟩
   ·
    have hc1 := hc; skip
    refine AW.skip ?_
    have hA : devA l k0 = (rawN l (rawN l (rawN l k0)), onH (dvN l k0) (dvX l k0) 0) := (if_neg (by simpa using hc1)); rw [hA]; exact ⟨_, Gh.slot2 (r := 2) (es' := [(onH (dvN l k0) (dvX l k0) 0).av]) rfl rfl (show RL (Le2 Try.prog) (onV (dvN l k0) (dvX l k0) 0 ++ []) ((onH (dvN l k0) (dvX l k0) 0).av ++ []) from by rw [List.append_nil, List.append_nil]; exact on_le _ _ 0), _, trivial, ⟨rfl, rfl, rfl, trivial⟩, rfl, rfl⟩
  intro e ρ _; simp only [updL]
  (refine AW.seq_k ?_; intro K hK)
  (refine AW.seq_k ?_; intro K hK)
  refine AW.region ?_
  refine awP (op_move rfl rfl) ?_
  refine awJ (op_call1 rfl en12 (C12 (n := 8) hl (by decide)) (by exact rfl) (RL.cons .ptr (RL.cons (.base (by exact View.same rfl)) (RL.nil))) (by exact ⟨_, _, _, rfl, rfl, rfl⟩) (by exact rfl) (by exact rfl) (by exact rfl)) ?_; (simp only [nA, Nat.reduceBEq, Nat.reduceEqDiff, ↓reduceIte, Nat.reduceAdd, Nat.reduceSub])
  refine awP (op_assign rfl rfl) ?_
  refine AWL.nil ?_
  (refine hK _ ?_; clear hK K; (simp only [nA, Nat.reduceBEq, Nat.reduceEqDiff, ↓reduceIte, Nat.reduceAdd, Nat.reduceSub]))
  refine AW.block ?_
  refine AW.loopI (fun (q : Nat × Nat × Hand × Nat) => [(0, .ptr 0 0 0 0), (2, .ptr 1 1 0 0), (3, .ptr 2 2 0 0), (4, .v (.int .i64 (q.1 : Nat)))]) (fun q => ⟨[(0, .own 81 [srcRow l q.2.1]), (1, .own 26 [[.v (.int .i64 0), .v (.int .i64 0), .v (.int .i64 0), .v (.bool false), .v (.slice none 0 0), .v (.slice none 0 0), .v (.slice none 0 0)]]), (2, .own 26 [q.2.2.1.av])], q.2.2.2⟩) (fun q => q.1 ≤ 8 ∧ q.2.2.1.Sm ∧ DevI q.2.2.1 ∧ devS l q.1 q.2.1 q.2.2.1 = devV l k0) (fun q => q.1) ((gmod (rawV l (devA l k0).1) 8).toNat, rawN l (devA l k0).1, (devA l k0).2, _) ⟨by dsimp only; omega, (devA_I l k0).s, devA_I l k0, rfl⟩ ⟨rfl, rfl, rfl, (congrArg (fun z => AV.v (.int .i64 z)) hN0), trivial⟩ rfl ?_; rintro ⟨f, k, h, ep⟩ ρ hI; dsimp only at hI ⊢; simp only [updL]
  (refine AW.seq_k ?_; intro K hK)
  (refine AW.seq_k ?_; intro K hK)
  refine AW.region ?_
  refine awP (op_move rfl rfl) ?_
  refine awP (op_gtr rfl rfl rfl) ?_
  refine AWL.nil ?_
  (refine hK _ ?_; clear hK K; (simp only [nA, Nat.reduceBEq, Nat.reduceEqDiff, ↓reduceIte, Nat.reduceAdd, Nat.reduceSub]))
  refine AW.cond rfl rfl rfl (fun hc => ?_) (fun hc => ?_)
  ·
   have hc2 := hc; obtain ⟨g, rfl⟩ : ∃ g, f = g + 1 := (by have h : (f : Int) > 0 := (by simpa using hc2); exact ⟨f - 1, by omega⟩); have hgz : ((g + 1 : Nat) : Int) - 1 = (g : Nat) := (by omega); have hR := hI.2.2.2; have hl0 := hI.2.2.1.l0; have hl1 := hI.2.2.1.l1; have hk2 := gmod_bd (x := rawV l (scanV l h k).1) (n := 2) (by decide); have hk3 := gmod_bd (x := rawV l (rawN l (scanV l h k).1)) (n := 3) (by decide)
   refine AW.skip ?_
   (refine hK _ ?_; clear hK K; (skip))
   (refine AW.seq_k ?_; intro K hK)
   refine AW.block ?_
   (refine AW.seq_k ?_; intro K hK)
   refine AW.region ?_
   refine awP (op_move rfl rfl) ?_
   (refine awR (op_load_ptr rfl rfl rfl rfl ag26 sz26 (Nat.le_of_ble_eq_true rfl) rfl) ?_)
   refine awJ (op_call1 rfl en25 (C25 hl hI.2.1) (by exact rfl) (RL.cons .ptr (RL.cons (.base (by exact View.same rfl)) (RL.nil))) (by exact ⟨_, _, _, rfl, rfl, rfl⟩) (by exact rfl) (by exact rfl) (by exact rfl)) ?_; (simp only [nA, Nat.reduceBEq, Nat.reduceEqDiff, ↓reduceIte, Nat.reduceAdd, Nat.reduceSub])
   refine awP (op_move rfl rfl) ?_
   refine awP (op_extract rfl rfl rfl) ?_
   refine awP (op_extract rfl rfl rfl) ?_
   refine awJ (op_alloc rfl ze31 rfl) ?_; (simp only [nA, Nat.reduceBEq, Nat.reduceEqDiff, ↓reduceIte, Nat.reduceAdd, Nat.reduceSub])
   refine awJ (op_store rfl rfl rfl rfl rfl rfl sz31 rfl (Nat.le_of_ble_eq_true rfl) rfl) ?_; (simp only [nA, Nat.reduceBEq, Nat.reduceEqDiff, ↓reduceIte, Nat.reduceAdd, Nat.reduceSub])
   refine awP (op_assign rfl rfl) ?_
   refine AWL.nil ?_
   (refine hK _ ?_; clear hK K; (simp only [nA, Nat.reduceBEq, Nat.reduceEqDiff, ↓reduceIte, Nat.reduceAdd, Nat.reduceSub]))
   (refine AW.seq_k ?_; intro K hK)
   refine AW.ado (fun T' => T'.slots[2]? = some (2, .own 26 [h.av]) ∧ T'.slots[3]? = some (ep, .own 31 [(scanV l h k).2.1.av])) mix rfl ?_
   refine adRo 0 rfl (fun T' ok => op_load_ptr rfl rfl ok.1 rfl ag26 sz26 (Nat.le_of_ble_eq_true rfl) rfl) ⟨rfl, rfl⟩ (by kernel_rfl) (by kernel_rfl) ?_; (simp only [nA, Nat.reduceBEq, Nat.reduceEqDiff, ↓reduceIte, Nat.reduceAdd, Nat.reduceSub])
   refine adPo 1 rfl (fun T' ok => op_move rfl rfl) ⟨rfl, rfl⟩ (by kernel_rfl) (by kernel_rfl) ?_; (simp only [nA, Nat.reduceBEq, Nat.reduceEqDiff, ↓reduceIte, Nat.reduceAdd, Nat.reduceSub])
   refine adRo 4 rfl (fun T' ok => op_load_ptr rfl rfl ok.2 rfl ag31 sz31 (Nat.le_of_ble_eq_true rfl) rfl) ⟨rfl, rfl⟩ (by kernel_rfl) (by kernel_rfl) ?_; (simp only [nA, Nat.reduceBEq, Nat.reduceEqDiff, ↓reduceIte, Nat.reduceAdd, Nat.reduceSub])
   refine adPo 5 rfl (fun T' ok => op_move rfl rfl) ⟨rfl, rfl⟩ (by kernel_rfl) (by kernel_rfl) ?_; (simp only [nA, Nat.reduceBEq, Nat.reduceEqDiff, ↓reduceIte, Nat.reduceAdd, Nat.reduceSub])
   refine adPo 6 rfl (fun T' ok => op_fa_ptr rfl rfl ok.1 fl26_2 (by exact sz3) (by decide) rfl) ⟨rfl, rfl⟩ (by kernel_rfl) (by kernel_rfl) ?_; (simp only [nA, Nat.reduceBEq, Nat.reduceEqDiff, ↓reduceIte, Nat.reduceAdd, Nat.reduceSub])
   refine adRo 7 rfl (fun T' ok => op_load_ptr1 rfl rfl ok.1 rfl ag3 rfl rfl) ⟨rfl, rfl⟩ (by kernel_rfl) (by kernel_rfl) ?_; (simp only [nA, Nat.reduceBEq, Nat.reduceEqDiff, ↓reduceIte, Nat.reduceAdd, Nat.reduceSub])
   refine adPo 8 rfl (fun T' ok => op_move rfl rfl) ⟨rfl, rfl⟩ (by kernel_rfl) (by kernel_rfl) ?_; (simp only [nA, Nat.reduceBEq, Nat.reduceEqDiff, ↓reduceIte, Nat.reduceAdd, Nat.reduceSub])
   refine adJ3o 2 16 17 rfl rfl rfl (op_call1 rfl en12 (C12 (n := 2) hl (by decide)) (by exact rfl) (RL.cons .ptr (RL.cons (.base (by exact View.same rfl)) (RL.nil))) (by exact ⟨_, _, _, rfl, rfl, rfl⟩) (by exact rfl) (by exact rfl) (by exact rfl)) (op_alloc rfl ze26 rfl) (op_alloc rfl ze33 rfl) (by kernel_rfl) ⟨rfl, rfl⟩ ⟨rfl, rfl⟩ ⟨rfl, rfl⟩ ?_ ?_ ?_
   · (simp only [nA, Nat.reduceBEq, Nat.reduceEqDiff, ↓reduceIte, Nat.reduceAdd, Nat.reduceSub])
     refine adPo 3 rfl (fun T' ok => op_addi rfl rfl rfl (by omega)) ⟨rfl, rfl⟩ (by kernel_rfl) (by kernel_rfl) ?_; (simp only [nA, Nat.reduceBEq, Nat.reduceEqDiff, ↓reduceIte, Nat.reduceAdd, Nat.reduceSub])
     refine adJ3o 9 16 17 rfl rfl rfl (op_call1 rfl en12 (C12 (n := 3) hl (by decide)) (by exact rfl) (RL.cons .ptr (RL.cons (.base (by exact View.same rfl)) (RL.nil))) (by exact ⟨_, _, _, rfl, rfl, rfl⟩) (by exact rfl) (by exact rfl) (by exact rfl)) (op_alloc rfl ze26 rfl) (op_alloc rfl ze33 rfl) (by kernel_rfl) ⟨rfl, rfl⟩ ⟨rfl, rfl⟩ ⟨rfl, rfl⟩ ?_ ?_ ?_
     · (simp only [nA, Nat.reduceBEq, Nat.reduceEqDiff, ↓reduceIte, Nat.reduceAdd, Nat.reduceSub])
       refine adPo 10 rfl (fun T' ok => op_addi rfl rfl rfl (by omega)) ⟨rfl, rfl⟩ (by kernel_rfl) (by kernel_rfl) ?_; (simp only [nA, Nat.reduceBEq, Nat.reduceEqDiff, ↓reduceIte, Nat.reduceAdd, Nat.reduceSub])
       refine adFo 11 rfl (fun T' ok => op_callS rfl en27 (C27 hI.2.1) (RL.cons (by exact View.same rfl) (RL.cons (by exact View.same rfl) (RL.cons (by exact View.same rfl) (RL.cons (by exact View.same rfl) (RL.cons (by exact View.same rfl) RL.nil))))) rfl rfl rfl) ⟨rfl, rfl⟩ (by kernel_rfl) (by kernel_rfl) ?_; (simp only [nA, Nat.reduceBEq, Nat.reduceEqDiff, ↓reduceIte, Nat.reduceAdd, Nat.reduceSub])
       refine adPo 12 rfl (fun T' ok => op_move rfl rfl) ⟨rfl, rfl⟩ (by kernel_rfl) (by kernel_rfl) ?_; (simp only [nA, Nat.reduceBEq, Nat.reduceEqDiff, ↓reduceIte, Nat.reduceAdd, Nat.reduceSub])
       refine adPo 13 rfl (fun T' ok => op_extract rfl rfl rfl) ⟨rfl, rfl⟩ (by kernel_rfl) (by kernel_rfl) ?_; (simp only [nA, Nat.reduceBEq, Nat.reduceEqDiff, ↓reduceIte, Nat.reduceAdd, Nat.reduceSub])
       refine adPo 14 rfl (fun T' ok => op_extract rfl rfl rfl) ⟨rfl, rfl⟩ (by kernel_rfl) (by kernel_rfl) ?_; (simp only [nA, Nat.reduceBEq, Nat.reduceEqDiff, ↓reduceIte, Nat.reduceAdd, Nat.reduceSub])
       refine adPo 15 rfl (fun T' ok => op_extract rfl rfl rfl) ⟨rfl, rfl⟩ (by kernel_rfl) (by kernel_rfl) ?_; (simp only [nA, Nat.reduceBEq, Nat.reduceEqDiff, ↓reduceIte, Nat.reduceAdd, Nat.reduceSub])
       refine adJ2o 16 17 rfl rfl (op_alloc rfl ze26 rfl) (op_alloc rfl ze33 rfl) (by kernel_rfl) ⟨rfl, rfl⟩ ⟨rfl, rfl⟩ ?_ ?_
       · (simp only [nA, Nat.reduceBEq, Nat.reduceEqDiff, ↓reduceIte, Nat.reduceAdd, Nat.reduceSub])
         refine adJo 17 rfl (op_alloc rfl ze33 rfl) (by kernel_rfl) ⟨rfl, rfl⟩ ?_; (simp only [nA, Nat.reduceBEq, Nat.reduceEqDiff, ↓reduceIte, Nat.reduceAdd, Nat.reduceSub])
         refine adJo 18 rfl (op_store rfl rfl rfl rfl rfl rfl sz26 rfl (Nat.le_of_ble_eq_true rfl) rfl) (by kernel_rfl) ⟨rfl, rfl⟩ ?_; (simp only [nA, Nat.reduceBEq, Nat.reduceEqDiff, ↓reduceIte, Nat.reduceAdd, Nat.reduceSub])
         refine adJo 19 rfl (op_store rfl rfl rfl rfl rfl rfl sz33 rfl (Nat.le_of_ble_eq_true rfl) rfl) (by kernel_rfl) ⟨rfl, rfl⟩ ?_; (simp only [nA, Nat.reduceBEq, Nat.reduceEqDiff, ↓reduceIte, Nat.reduceAdd, Nat.reduceSub])
         refine adPo 20 rfl (fun T' ok => op_assign rfl rfl) ⟨rfl, rfl⟩ (by kernel_rfl) (by kernel_rfl) ?_; (simp only [nA, Nat.reduceBEq, Nat.reduceEqDiff, ↓reduceIte, Nat.reduceAdd, Nat.reduceSub])
         refine adDoneo (by kernel_rfl) ?_
         (refine hK _ ?_; clear hK K; (skip)); (refine AW.seq_k ?_; intro K hK); refine AW.region ?_; refine awP (op_move rfl rfl) ?_; (simp only [nA, Nat.reduceBEq, Nat.reduceEqDiff, ↓reduceIte, Nat.reduceAdd, Nat.reduceSub]); refine awP (op_eql rfl rfl rfl) ?_; (simp only [nA, Nat.reduceBEq, Nat.reduceEqDiff, ↓reduceIte, Nat.reduceAdd, Nat.reduceSub]); refine AWL.nil ?_; (refine hK _ ?_; clear hK K; (skip)); refine AW.cond rfl rfl rfl (fun hc3 => ?_) (fun hc3 => ?_)
         · refine AW.region ?_; refine awR (op_load_ptr rfl rfl rfl rfl ag26 sz26 (Nat.le_of_ble_eq_true rfl) rfl) ?_; (simp only [nA, Nat.reduceBEq, Nat.reduceEqDiff, ↓reduceIte, Nat.reduceAdd, Nat.reduceSub]); refine awJ (op_store rfl rfl rfl rfl rfl rfl sz26 rfl (Nat.le_of_ble_eq_true rfl) rfl) ?_; (simp only [nA, Nat.reduceBEq, Nat.reduceEqDiff, ↓reduceIte, Nat.reduceAdd, Nat.reduceSub]); refine AWL.nil ?_; (simp only [thenE, inBlk, Nat.reduceEqDiff, ↓reduceIte]); (refine hK _ ?_; clear hK K; (skip)); refine AW.region ?_; refine awP (op_move rfl rfl) ?_; (simp only [nA, Nat.reduceBEq, Nat.reduceEqDiff, ↓reduceIte, Nat.reduceAdd, Nat.reduceSub]); refine awP (op_subi rfl rfl rfl (by omega)) ?_; (simp only [nA, Nat.reduceBEq, Nat.reduceEqDiff, ↓reduceIte, Nat.reduceAdd, Nat.reduceSub]); refine awP (op_assign rfl rfl) ?_; (simp only [nA, Nat.reduceBEq, Nat.reduceEqDiff, ↓reduceIte, Nat.reduceAdd, Nat.reduceSub]); refine AWL.gh (Gh.drop 3) ?_; (simp only [nA, Nat.reduceBEq, Nat.reduceEqDiff, ↓reduceIte, Nat.reduceAdd, Nat.reduceSub]); refine AWL.nil ?_; have hS : stepV l h k = (rawN l (rawN l (scanV l h k).1), (scanR h (1 + gmod (rawV l (scanV l h k).1) 2) (scanV l h k).2.1 (scanV l h k).2.2 (h.last + gmod (rawV l (rawN l (scanV l h k).1)) 3)).1) := (by unfold stepV; dsimp only; rw [if_pos (by simpa using hc3)]); have hD := hI.2.2.1.step (l := l) k; have hR2 : devS l g (stepV l h k).1 (stepV l h k).2 = devV l k0 := hR; rw [hS] at hD hR2; refine ⟨(g, _, _, _), ⟨by dsimp only; omega, hD.s, hD, hR2⟩, by dsimp only; omega, ⟨rfl, rfl, rfl, (congrArg (fun z => AV.v (.int .i64 z)) hgz), trivial⟩, (by rfl), (by rfl)⟩
         · refine AW.skip ?_; (simp only [thenE, inBlk, Nat.reduceEqDiff, ↓reduceIte]); (refine hK _ ?_; clear hK K; (skip)); refine AW.region ?_; refine awP (op_move rfl rfl) ?_; (simp only [nA, Nat.reduceBEq, Nat.reduceEqDiff, ↓reduceIte, Nat.reduceAdd, Nat.reduceSub]); refine awP (op_subi rfl rfl rfl (by omega)) ?_; (simp only [nA, Nat.reduceBEq, Nat.reduceEqDiff, ↓reduceIte, Nat.reduceAdd, Nat.reduceSub]); refine awP (op_assign rfl rfl) ?_; (simp only [nA, Nat.reduceBEq, Nat.reduceEqDiff, ↓reduceIte, Nat.reduceAdd, Nat.reduceSub]); refine AWL.gh (Gh.drop 3) ?_; (simp only [nA, Nat.reduceBEq, Nat.reduceEqDiff, ↓reduceIte, Nat.reduceAdd, Nat.reduceSub]); refine AWL.nil ?_; have hS : stepV l h k = (rawN l (rawN l (scanV l h k).1), h) := (by unfold stepV; dsimp only; rw [if_neg (by simpa using hc3)]); have hD := hI.2.2.1.step (l := l) k; have hR2 : devS l g (stepV l h k).1 (stepV l h k).2 = devV l k0 := hR; rw [hS] at hD hR2; refine ⟨(g, _, _, _), ⟨by dsimp only; omega, hD.s, hD, hR2⟩, by dsimp only; omega, ⟨rfl, rfl, rfl, (congrArg (fun z => AV.v (.int .i64 z)) hgz), trivial⟩, (by rfl), (by rfl)⟩
       · (simp only [nA, Nat.reduceBEq, Nat.reduceEqDiff, ↓reduceIte, Nat.reduceAdd, Nat.reduceSub])
         refine adJo 16 rfl (op_alloc rfl ze26 rfl) (by kernel_rfl) ⟨rfl, rfl⟩ ?_; (simp only [nA, Nat.reduceBEq, Nat.reduceEqDiff, ↓reduceIte, Nat.reduceAdd, Nat.reduceSub])
         refine adJo 18 rfl (op_store rfl rfl rfl rfl rfl rfl sz26 rfl (Nat.le_of_ble_eq_true rfl) rfl) (by kernel_rfl) ⟨rfl, rfl⟩ ?_; (simp only [nA, Nat.reduceBEq, Nat.reduceEqDiff, ↓reduceIte, Nat.reduceAdd, Nat.reduceSub])
         refine adJo 19 rfl (op_store rfl rfl rfl rfl rfl rfl sz33 rfl (Nat.le_of_ble_eq_true rfl) rfl) (by kernel_rfl) ⟨rfl, rfl⟩ ?_; (simp only [nA, Nat.reduceBEq, Nat.reduceEqDiff, ↓reduceIte, Nat.reduceAdd, Nat.reduceSub])
         refine adPo 20 rfl (fun T' ok => op_assign rfl rfl) ⟨rfl, rfl⟩ (by kernel_rfl) (by kernel_rfl) ?_; (simp only [nA, Nat.reduceBEq, Nat.reduceEqDiff, ↓reduceIte, Nat.reduceAdd, Nat.reduceSub])
         refine adDoneo (by kernel_rfl) ?_
         (refine hK _ ?_; clear hK K; (skip)); (refine AW.seq_k ?_; intro K hK); refine AW.region ?_; refine awP (op_move rfl rfl) ?_; (simp only [nA, Nat.reduceBEq, Nat.reduceEqDiff, ↓reduceIte, Nat.reduceAdd, Nat.reduceSub]); refine awP (op_eql rfl rfl rfl) ?_; (simp only [nA, Nat.reduceBEq, Nat.reduceEqDiff, ↓reduceIte, Nat.reduceAdd, Nat.reduceSub]); refine AWL.nil ?_; (refine hK _ ?_; clear hK K; (skip)); refine AW.cond rfl rfl rfl (fun hc3 => ?_) (fun hc3 => ?_)
         · refine AW.region ?_; refine awR (op_load_ptr rfl rfl rfl rfl ag26 sz26 (Nat.le_of_ble_eq_true rfl) rfl) ?_; (simp only [nA, Nat.reduceBEq, Nat.reduceEqDiff, ↓reduceIte, Nat.reduceAdd, Nat.reduceSub]); refine awJ (op_store rfl rfl rfl rfl rfl rfl sz26 rfl (Nat.le_of_ble_eq_true rfl) rfl) ?_; (simp only [nA, Nat.reduceBEq, Nat.reduceEqDiff, ↓reduceIte, Nat.reduceAdd, Nat.reduceSub]); refine AWL.nil ?_; (simp only [thenE, inBlk, Nat.reduceEqDiff, ↓reduceIte]); (refine hK _ ?_; clear hK K; (skip)); refine AW.region ?_; refine awP (op_move rfl rfl) ?_; (simp only [nA, Nat.reduceBEq, Nat.reduceEqDiff, ↓reduceIte, Nat.reduceAdd, Nat.reduceSub]); refine awP (op_subi rfl rfl rfl (by omega)) ?_; (simp only [nA, Nat.reduceBEq, Nat.reduceEqDiff, ↓reduceIte, Nat.reduceAdd, Nat.reduceSub]); refine awP (op_assign rfl rfl) ?_; (simp only [nA, Nat.reduceBEq, Nat.reduceEqDiff, ↓reduceIte, Nat.reduceAdd, Nat.reduceSub]); refine AWL.gh (Gh.drop 3) ?_; (simp only [nA, Nat.reduceBEq, Nat.reduceEqDiff, ↓reduceIte, Nat.reduceAdd, Nat.reduceSub]); refine AWL.nil ?_; have hS : stepV l h k = (rawN l (rawN l (scanV l h k).1), (scanR h (1 + gmod (rawV l (scanV l h k).1) 2) (scanV l h k).2.1 (scanV l h k).2.2 (h.last + gmod (rawV l (rawN l (scanV l h k).1)) 3)).1) := (by unfold stepV; dsimp only; rw [if_pos (by simpa using hc3)]); have hD := hI.2.2.1.step (l := l) k; have hR2 : devS l g (stepV l h k).1 (stepV l h k).2 = devV l k0 := hR; rw [hS] at hD hR2; refine ⟨(g, _, _, _), ⟨by dsimp only; omega, hD.s, hD, hR2⟩, by dsimp only; omega, ⟨rfl, rfl, rfl, (congrArg (fun z => AV.v (.int .i64 z)) hgz), trivial⟩, (by rfl), (by rfl)⟩
         · refine AW.skip ?_; (simp only [thenE, inBlk, Nat.reduceEqDiff, ↓reduceIte]); (refine hK _ ?_; clear hK K; (skip)); refine AW.region ?_; refine awP (op_move rfl rfl) ?_; (simp only [nA, Nat.reduceBEq, Nat.reduceEqDiff, ↓reduceIte, Nat.reduceAdd, Nat.reduceSub]); refine awP (op_subi rfl rfl rfl (by omega)) ?_; (simp only [nA, Nat.reduceBEq, Nat.reduceEqDiff, ↓reduceIte, Nat.reduceAdd, Nat.reduceSub]); refine awP (op_assign rfl rfl) ?_; (simp only [nA, Nat.reduceBEq, Nat.reduceEqDiff, ↓reduceIte, Nat.reduceAdd, Nat.reduceSub]); refine AWL.gh (Gh.drop 3) ?_; (simp only [nA, Nat.reduceBEq, Nat.reduceEqDiff, ↓reduceIte, Nat.reduceAdd, Nat.reduceSub]); refine AWL.nil ?_; have hS : stepV l h k = (rawN l (rawN l (scanV l h k).1), h) := (by unfold stepV; dsimp only; rw [if_neg (by simpa using hc3)]); have hD := hI.2.2.1.step (l := l) k; have hR2 : devS l g (stepV l h k).1 (stepV l h k).2 = devV l k0 := hR; rw [hS] at hD hR2; refine ⟨(g, _, _, _), ⟨by dsimp only; omega, hD.s, hD, hR2⟩, by dsimp only; omega, ⟨rfl, rfl, rfl, (congrArg (fun z => AV.v (.int .i64 z)) hgz), trivial⟩, (by rfl), (by rfl)⟩
     · (simp only [nA, Nat.reduceBEq, Nat.reduceEqDiff, ↓reduceIte, Nat.reduceAdd, Nat.reduceSub])
       refine adJ2o 9 17 rfl rfl (op_call1 rfl en12 (C12 (n := 3) hl (by decide)) (by exact rfl) (RL.cons .ptr (RL.cons (.base (by exact View.same rfl)) (RL.nil))) (by exact ⟨_, _, _, rfl, rfl, rfl⟩) (by exact rfl) (by exact rfl) (by exact rfl)) (op_alloc rfl ze33 rfl) (by kernel_rfl) ⟨rfl, rfl⟩ ⟨rfl, rfl⟩ ?_ ?_
       · (simp only [nA, Nat.reduceBEq, Nat.reduceEqDiff, ↓reduceIte, Nat.reduceAdd, Nat.reduceSub])
         refine adPo 10 rfl (fun T' ok => op_addi rfl rfl rfl (by omega)) ⟨rfl, rfl⟩ (by kernel_rfl) (by kernel_rfl) ?_; (simp only [nA, Nat.reduceBEq, Nat.reduceEqDiff, ↓reduceIte, Nat.reduceAdd, Nat.reduceSub])
         refine adFo 11 rfl (fun T' ok => op_callS rfl en27 (C27 hI.2.1) (RL.cons (by exact View.same rfl) (RL.cons (by exact View.same rfl) (RL.cons (by exact View.same rfl) (RL.cons (by exact View.same rfl) (RL.cons (by exact View.same rfl) RL.nil))))) rfl rfl rfl) ⟨rfl, rfl⟩ (by kernel_rfl) (by kernel_rfl) ?_; (simp only [nA, Nat.reduceBEq, Nat.reduceEqDiff, ↓reduceIte, Nat.reduceAdd, Nat.reduceSub])
         refine adPo 12 rfl (fun T' ok => op_move rfl rfl) ⟨rfl, rfl⟩ (by kernel_rfl) (by kernel_rfl) ?_; (simp only [nA, Nat.reduceBEq, Nat.reduceEqDiff, ↓reduceIte, Nat.reduceAdd, Nat.reduceSub])
         refine adPo 13 rfl (fun T' ok => op_extract rfl rfl rfl) ⟨rfl, rfl⟩ (by kernel_rfl) (by kernel_rfl) ?_; (simp only [nA, Nat.reduceBEq, Nat.reduceEqDiff, ↓reduceIte, Nat.reduceAdd, Nat.reduceSub])
         refine adPo 14 rfl (fun T' ok => op_extract rfl rfl rfl) ⟨rfl, rfl⟩ (by kernel_rfl) (by kernel_rfl) ?_; (simp only [nA, Nat.reduceBEq, Nat.reduceEqDiff, ↓reduceIte, Nat.reduceAdd, Nat.reduceSub])
         refine adPo 15 rfl (fun T' ok => op_extract rfl rfl rfl) ⟨rfl, rfl⟩ (by kernel_rfl) (by kernel_rfl) ?_; (simp only [nA, Nat.reduceBEq, Nat.reduceEqDiff, ↓reduceIte, Nat.reduceAdd, Nat.reduceSub])
         refine adJo 17 rfl (op_alloc rfl ze33 rfl) (by kernel_rfl) ⟨rfl, rfl⟩ ?_; (simp only [nA, Nat.reduceBEq, Nat.reduceEqDiff, ↓reduceIte, Nat.reduceAdd, Nat.reduceSub])
         refine adJo 18 rfl (op_store rfl rfl rfl rfl rfl rfl sz26 rfl (Nat.le_of_ble_eq_true rfl) rfl) (by kernel_rfl) ⟨rfl, rfl⟩ ?_; (simp only [nA, Nat.reduceBEq, Nat.reduceEqDiff, ↓reduceIte, Nat.reduceAdd, Nat.reduceSub])
         refine adJo 19 rfl (op_store rfl rfl rfl rfl rfl rfl sz33 rfl (Nat.le_of_ble_eq_true rfl) rfl) (by kernel_rfl) ⟨rfl, rfl⟩ ?_; (simp only [nA, Nat.reduceBEq, Nat.reduceEqDiff, ↓reduceIte, Nat.reduceAdd, Nat.reduceSub])
         refine adPo 20 rfl (fun T' ok => op_assign rfl rfl) ⟨rfl, rfl⟩ (by kernel_rfl) (by kernel_rfl) ?_; (simp only [nA, Nat.reduceBEq, Nat.reduceEqDiff, ↓reduceIte, Nat.reduceAdd, Nat.reduceSub])
         refine adDoneo (by kernel_rfl) ?_
         (refine hK _ ?_; clear hK K; (skip)); (refine AW.seq_k ?_; intro K hK); refine AW.region ?_; refine awP (op_move rfl rfl) ?_; (simp only [nA, Nat.reduceBEq, Nat.reduceEqDiff, ↓reduceIte, Nat.reduceAdd, Nat.reduceSub]); refine awP (op_eql rfl rfl rfl) ?_; (simp only [nA, Nat.reduceBEq, Nat.reduceEqDiff, ↓reduceIte, Nat.reduceAdd, Nat.reduceSub]); refine AWL.nil ?_; (refine hK _ ?_; clear hK K; (skip)); refine AW.cond rfl rfl rfl (fun hc3 => ?_) (fun hc3 => ?_)
         · refine AW.region ?_; refine awR (op_load_ptr rfl rfl rfl rfl ag26 sz26 (Nat.le_of_ble_eq_true rfl) rfl) ?_; (simp only [nA, Nat.reduceBEq, Nat.reduceEqDiff, ↓reduceIte, Nat.reduceAdd, Nat.reduceSub]); refine awJ (op_store rfl rfl rfl rfl rfl rfl sz26 rfl (Nat.le_of_ble_eq_true rfl) rfl) ?_; (simp only [nA, Nat.reduceBEq, Nat.reduceEqDiff, ↓reduceIte, Nat.reduceAdd, Nat.reduceSub]); refine AWL.nil ?_; (simp only [thenE, inBlk, Nat.reduceEqDiff, ↓reduceIte]); (refine hK _ ?_; clear hK K; (skip)); refine AW.region ?_; refine awP (op_move rfl rfl) ?_; (simp only [nA, Nat.reduceBEq, Nat.reduceEqDiff, ↓reduceIte, Nat.reduceAdd, Nat.reduceSub]); refine awP (op_subi rfl rfl rfl (by omega)) ?_; (simp only [nA, Nat.reduceBEq, Nat.reduceEqDiff, ↓reduceIte, Nat.reduceAdd, Nat.reduceSub]); refine awP (op_assign rfl rfl) ?_; (simp only [nA, Nat.reduceBEq, Nat.reduceEqDiff, ↓reduceIte, Nat.reduceAdd, Nat.reduceSub]); refine AWL.gh (Gh.drop 3) ?_; (simp only [nA, Nat.reduceBEq, Nat.reduceEqDiff, ↓reduceIte, Nat.reduceAdd, Nat.reduceSub]); refine AWL.nil ?_; have hS : stepV l h k = (rawN l (rawN l (scanV l h k).1), (scanR h (1 + gmod (rawV l (scanV l h k).1) 2) (scanV l h k).2.1 (scanV l h k).2.2 (h.last + gmod (rawV l (rawN l (scanV l h k).1)) 3)).1) := (by unfold stepV; dsimp only; rw [if_pos (by simpa using hc3)]); have hD := hI.2.2.1.step (l := l) k; have hR2 : devS l g (stepV l h k).1 (stepV l h k).2 = devV l k0 := hR; rw [hS] at hD hR2; refine ⟨(g, _, _, _), ⟨by dsimp only; omega, hD.s, hD, hR2⟩, by dsimp only; omega, ⟨rfl, rfl, rfl, (congrArg (fun z => AV.v (.int .i64 z)) hgz), trivial⟩, (by rfl), (by rfl)⟩
         · refine AW.skip ?_; (simp only [thenE, inBlk, Nat.reduceEqDiff, ↓reduceIte]); (refine hK _ ?_; clear hK K; (skip)); refine AW.region ?_; refine awP (op_move rfl rfl) ?_; (simp only [nA, Nat.reduceBEq, Nat.reduceEqDiff, ↓reduceIte, Nat.reduceAdd, Nat.reduceSub]); refine awP (op_subi rfl rfl rfl (by omega)) ?_; (simp only [nA, Nat.reduceBEq, Nat.reduceEqDiff, ↓reduceIte, Nat.reduceAdd, Nat.reduceSub]); refine awP (op_assign rfl rfl) ?_; (simp only [nA, Nat.reduceBEq, Nat.reduceEqDiff, ↓reduceIte, Nat.reduceAdd, Nat.reduceSub]); refine AWL.gh (Gh.drop 3) ?_; (simp only [nA, Nat.reduceBEq, Nat.reduceEqDiff, ↓reduceIte, Nat.reduceAdd, Nat.reduceSub]); refine AWL.nil ?_; have hS : stepV l h k = (rawN l (rawN l (scanV l h k).1), h) := (by unfold stepV; dsimp only; rw [if_neg (by simpa using hc3)]); have hD := hI.2.2.1.step (l := l) k; have hR2 : devS l g (stepV l h k).1 (stepV l h k).2 = devV l k0 := hR; rw [hS] at hD hR2; refine ⟨(g, _, _, _), ⟨by dsimp only; omega, hD.s, hD, hR2⟩, by dsimp only; omega, ⟨rfl, rfl, rfl, (congrArg (fun z => AV.v (.int .i64 z)) hgz), trivial⟩, (by rfl), (by rfl)⟩
       · (simp only [nA, Nat.reduceBEq, Nat.reduceEqDiff, ↓reduceIte, Nat.reduceAdd, Nat.reduceSub])
         refine adJo 9 rfl (op_call1 rfl en12 (C12 (n := 3) hl (by decide)) (by exact rfl) (RL.cons .ptr (RL.cons (.base (by exact View.same rfl)) (RL.nil))) (by exact ⟨_, _, _, rfl, rfl, rfl⟩) (by exact rfl) (by exact rfl) (by exact rfl)) (by kernel_rfl) ⟨rfl, rfl⟩ ?_; (simp only [nA, Nat.reduceBEq, Nat.reduceEqDiff, ↓reduceIte, Nat.reduceAdd, Nat.reduceSub])
         refine adPo 10 rfl (fun T' ok => op_addi rfl rfl rfl (by omega)) ⟨rfl, rfl⟩ (by kernel_rfl) (by kernel_rfl) ?_; (simp only [nA, Nat.reduceBEq, Nat.reduceEqDiff, ↓reduceIte, Nat.reduceAdd, Nat.reduceSub])
         refine adFo 11 rfl (fun T' ok => op_callS rfl en27 (C27 hI.2.1) (RL.cons (by exact View.same rfl) (RL.cons (by exact View.same rfl) (RL.cons (by exact View.same rfl) (RL.cons (by exact View.same rfl) (RL.cons (by exact View.same rfl) RL.nil))))) rfl rfl rfl) ⟨rfl, rfl⟩ (by kernel_rfl) (by kernel_rfl) ?_; (simp only [nA, Nat.reduceBEq, Nat.reduceEqDiff, ↓reduceIte, Nat.reduceAdd, Nat.reduceSub])
         refine adPo 12 rfl (fun T' ok => op_move rfl rfl) ⟨rfl, rfl⟩ (by kernel_rfl) (by kernel_rfl) ?_; (simp only [nA, Nat.reduceBEq, Nat.reduceEqDiff, ↓reduceIte, Nat.reduceAdd, Nat.reduceSub])
         refine adPo 13 rfl (fun T' ok => op_extract rfl rfl rfl) ⟨rfl, rfl⟩ (by kernel_rfl) (by kernel_rfl) ?_; (simp only [nA, Nat.reduceBEq, Nat.reduceEqDiff, ↓reduceIte, Nat.reduceAdd, Nat.reduceSub])
         refine adPo 14 rfl (fun T' ok => op_extract rfl rfl rfl) ⟨rfl, rfl⟩ (by kernel_rfl) (by kernel_rfl) ?_; (simp only [nA, Nat.reduceBEq, Nat.reduceEqDiff, ↓reduceIte, Nat.reduceAdd, Nat.reduceSub])
         refine adPo 15 rfl (fun T' ok => op_extract rfl rfl rfl) ⟨rfl, rfl⟩ (by kernel_rfl) (by kernel_rfl) ?_; (simp only [nA, Nat.reduceBEq, Nat.reduceEqDiff, ↓reduceIte, Nat.reduceAdd, Nat.reduceSub])
         refine adJo 18 rfl (op_store rfl rfl rfl rfl rfl rfl sz26 rfl (Nat.le_of_ble_eq_true rfl) rfl) (by kernel_rfl) ⟨rfl, rfl⟩ ?_; (simp only [nA, Nat.reduceBEq, Nat.reduceEqDiff, ↓reduceIte, Nat.reduceAdd, Nat.reduceSub])
         refine adJo 19 rfl (op_store rfl rfl rfl rfl rfl rfl sz33 rfl (Nat.le_of_ble_eq_true rfl) rfl) (by kernel_rfl) ⟨rfl, rfl⟩ ?_; (simp only [nA, Nat.reduceBEq, Nat.reduceEqDiff, ↓reduceIte, Nat.reduceAdd, Nat.reduceSub])
         refine adPo 20 rfl (fun T' ok => op_assign rfl rfl) ⟨rfl, rfl⟩ (by kernel_rfl) (by kernel_rfl) ?_; (simp only [nA, Nat.reduceBEq, Nat.reduceEqDiff, ↓reduceIte, Nat.reduceAdd, Nat.reduceSub])
         refine adDoneo (by kernel_rfl) ?_
         (refine hK _ ?_; clear hK K; (skip)); (refine AW.seq_k ?_; intro K hK); refine AW.region ?_; refine awP (op_move rfl rfl) ?_; (simp only [nA, Nat.reduceBEq, Nat.reduceEqDiff, ↓reduceIte, Nat.reduceAdd, Nat.reduceSub]); refine awP (op_eql rfl rfl rfl) ?_; (simp only [nA, Nat.reduceBEq, Nat.reduceEqDiff, ↓reduceIte, Nat.reduceAdd, Nat.reduceSub]); refine AWL.nil ?_; (refine hK _ ?_; clear hK K; (skip)); refine AW.cond rfl rfl rfl (fun hc3 => ?_) (fun hc3 => ?_)
         · refine AW.region ?_; refine awR (op_load_ptr rfl rfl rfl rfl ag26 sz26 (Nat.le_of_ble_eq_true rfl) rfl) ?_; (simp only [nA, Nat.reduceBEq, Nat.reduceEqDiff, ↓reduceIte, Nat.reduceAdd, Nat.reduceSub]); refine awJ (op_store rfl rfl rfl rfl rfl rfl sz26 rfl (Nat.le_of_ble_eq_true rfl) rfl) ?_; (simp only [nA, Nat.reduceBEq, Nat.reduceEqDiff, ↓reduceIte, Nat.reduceAdd, Nat.reduceSub]); refine AWL.nil ?_; (simp only [thenE, inBlk, Nat.reduceEqDiff, ↓reduceIte]); (refine hK _ ?_; clear hK K; (skip)); refine AW.region ?_; refine awP (op_move rfl rfl) ?_; (simp only [nA, Nat.reduceBEq, Nat.reduceEqDiff, ↓reduceIte, Nat.reduceAdd, Nat.reduceSub]); refine awP (op_subi rfl rfl rfl (by omega)) ?_; (simp only [nA, Nat.reduceBEq, Nat.reduceEqDiff, ↓reduceIte, Nat.reduceAdd, Nat.reduceSub]); refine awP (op_assign rfl rfl) ?_; (simp only [nA, Nat.reduceBEq, Nat.reduceEqDiff, ↓reduceIte, Nat.reduceAdd, Nat.reduceSub]); refine AWL.gh (Gh.drop 3) ?_; (simp only [nA, Nat.reduceBEq, Nat.reduceEqDiff, ↓reduceIte, Nat.reduceAdd, Nat.reduceSub]); refine AWL.nil ?_; have hS : stepV l h k = (rawN l (rawN l (scanV l h k).1), (scanR h (1 + gmod (rawV l (scanV l h k).1) 2) (scanV l h k).2.1 (scanV l h k).2.2 (h.last + gmod (rawV l (rawN l (scanV l h k).1)) 3)).1) := (by unfold stepV; dsimp only; rw [if_pos (by simpa using hc3)]); have hD := hI.2.2.1.step (l := l) k; have hR2 : devS l g (stepV l h k).1 (stepV l h k).2 = devV l k0 := hR; rw [hS] at hD hR2; refine ⟨(g, _, _, _), ⟨by dsimp only; omega, hD.s, hD, hR2⟩, by dsimp only; omega, ⟨rfl, rfl, rfl, (congrArg (fun z => AV.v (.int .i64 z)) hgz), trivial⟩, (by rfl), (by rfl)⟩
         · refine AW.skip ?_; (simp only [thenE, inBlk, Nat.reduceEqDiff, ↓reduceIte]); (refine hK _ ?_; clear hK K; (skip)); refine AW.region ?_; refine awP (op_move rfl rfl) ?_; (simp only [nA, Nat.reduceBEq, Nat.reduceEqDiff, ↓reduceIte, Nat.reduceAdd, Nat.reduceSub]); refine awP (op_subi rfl rfl rfl (by omega)) ?_; (simp only [nA, Nat.reduceBEq, Nat.reduceEqDiff, ↓reduceIte, Nat.reduceAdd, Nat.reduceSub]); refine awP (op_assign rfl rfl) ?_; (simp only [nA, Nat.reduceBEq, Nat.reduceEqDiff, ↓reduceIte, Nat.reduceAdd, Nat.reduceSub]); refine AWL.gh (Gh.drop 3) ?_; (simp only [nA, Nat.reduceBEq, Nat.reduceEqDiff, ↓reduceIte, Nat.reduceAdd, Nat.reduceSub]); refine AWL.nil ?_; have hS : stepV l h k = (rawN l (rawN l (scanV l h k).1), h) := (by unfold stepV; dsimp only; rw [if_neg (by simpa using hc3)]); have hD := hI.2.2.1.step (l := l) k; have hR2 : devS l g (stepV l h k).1 (stepV l h k).2 = devV l k0 := hR; rw [hS] at hD hR2; refine ⟨(g, _, _, _), ⟨by dsimp only; omega, hD.s, hD, hR2⟩, by dsimp only; omega, ⟨rfl, rfl, rfl, (congrArg (fun z => AV.v (.int .i64 z)) hgz), trivial⟩, (by rfl), (by rfl)⟩
     · (simp only [nA, Nat.reduceBEq, Nat.reduceEqDiff, ↓reduceIte, Nat.reduceAdd, Nat.reduceSub])
       refine adJ2o 9 16 rfl rfl (op_call1 rfl en12 (C12 (n := 3) hl (by decide)) (by exact rfl) (RL.cons .ptr (RL.cons (.base (by exact View.same rfl)) (RL.nil))) (by exact ⟨_, _, _, rfl, rfl, rfl⟩) (by exact rfl) (by exact rfl) (by exact rfl)) (op_alloc rfl ze26 rfl) (by kernel_rfl) ⟨rfl, rfl⟩ ⟨rfl, rfl⟩ ?_ ?_
       · (simp only [nA, Nat.reduceBEq, Nat.reduceEqDiff, ↓reduceIte, Nat.reduceAdd, Nat.reduceSub])
         refine adPo 10 rfl (fun T' ok => op_addi rfl rfl rfl (by omega)) ⟨rfl, rfl⟩ (by kernel_rfl) (by kernel_rfl) ?_; (simp only [nA, Nat.reduceBEq, Nat.reduceEqDiff, ↓reduceIte, Nat.reduceAdd, Nat.reduceSub])
         refine adFo 11 rfl (fun T' ok => op_callS rfl en27 (C27 hI.2.1) (RL.cons (by exact View.same rfl) (RL.cons (by exact View.same rfl) (RL.cons (by exact View.same rfl) (RL.cons (by exact View.same rfl) (RL.cons (by exact View.same rfl) RL.nil))))) rfl rfl rfl) ⟨rfl, rfl⟩ (by kernel_rfl) (by kernel_rfl) ?_; (simp only [nA, Nat.reduceBEq, Nat.reduceEqDiff, ↓reduceIte, Nat.reduceAdd, Nat.reduceSub])
         refine adPo 12 rfl (fun T' ok => op_move rfl rfl) ⟨rfl, rfl⟩ (by kernel_rfl) (by kernel_rfl) ?_; (simp only [nA, Nat.reduceBEq, Nat.reduceEqDiff, ↓reduceIte, Nat.reduceAdd, Nat.reduceSub])
         refine adPo 13 rfl (fun T' ok => op_extract rfl rfl rfl) ⟨rfl, rfl⟩ (by kernel_rfl) (by kernel_rfl) ?_; (simp only [nA, Nat.reduceBEq, Nat.reduceEqDiff, ↓reduceIte, Nat.reduceAdd, Nat.reduceSub])
         refine adPo 14 rfl (fun T' ok => op_extract rfl rfl rfl) ⟨rfl, rfl⟩ (by kernel_rfl) (by kernel_rfl) ?_; (simp only [nA, Nat.reduceBEq, Nat.reduceEqDiff, ↓reduceIte, Nat.reduceAdd, Nat.reduceSub])
         refine adPo 15 rfl (fun T' ok => op_extract rfl rfl rfl) ⟨rfl, rfl⟩ (by kernel_rfl) (by kernel_rfl) ?_; (simp only [nA, Nat.reduceBEq, Nat.reduceEqDiff, ↓reduceIte, Nat.reduceAdd, Nat.reduceSub])
         refine adJo 16 rfl (op_alloc rfl ze26 rfl) (by kernel_rfl) ⟨rfl, rfl⟩ ?_; (simp only [nA, Nat.reduceBEq, Nat.reduceEqDiff, ↓reduceIte, Nat.reduceAdd, Nat.reduceSub])
         refine adJo 18 rfl (op_store rfl rfl rfl rfl rfl rfl sz26 rfl (Nat.le_of_ble_eq_true rfl) rfl) (by kernel_rfl) ⟨rfl, rfl⟩ ?_; (simp only [nA, Nat.reduceBEq, Nat.reduceEqDiff, ↓reduceIte, Nat.reduceAdd, Nat.reduceSub])
         refine adJo 19 rfl (op_store rfl rfl rfl rfl rfl rfl sz33 rfl (Nat.le_of_ble_eq_true rfl) rfl) (by kernel_rfl) ⟨rfl, rfl⟩ ?_; (simp only [nA, Nat.reduceBEq, Nat.reduceEqDiff, ↓reduceIte, Nat.reduceAdd, Nat.reduceSub])
         refine adPo 20 rfl (fun T' ok => op_assign rfl rfl) ⟨rfl, rfl⟩ (by kernel_rfl) (by kernel_rfl) ?_; (simp only [nA, Nat.reduceBEq, Nat.reduceEqDiff, ↓reduceIte, Nat.reduceAdd, Nat.reduceSub])
         refine adDoneo (by kernel_rfl) ?_
         (refine hK _ ?_; clear hK K; (skip)); (refine AW.seq_k ?_; intro K hK); refine AW.region ?_; refine awP (op_move rfl rfl) ?_; (simp only [nA, Nat.reduceBEq, Nat.reduceEqDiff, ↓reduceIte, Nat.reduceAdd, Nat.reduceSub]); refine awP (op_eql rfl rfl rfl) ?_; (simp only [nA, Nat.reduceBEq, Nat.reduceEqDiff, ↓reduceIte, Nat.reduceAdd, Nat.reduceSub]); refine AWL.nil ?_; (refine hK _ ?_; clear hK K; (skip)); refine AW.cond rfl rfl rfl (fun hc3 => ?_) (fun hc3 => ?_)
         · refine AW.region ?_; refine awR (op_load_ptr rfl rfl rfl rfl ag26 sz26 (Nat.le_of_ble_eq_true rfl) rfl) ?_; (simp only [nA, Nat.reduceBEq, Nat.reduceEqDiff, ↓reduceIte, Nat.reduceAdd, Nat.reduceSub]); refine awJ (op_store rfl rfl rfl rfl rfl rfl sz26 rfl (Nat.le_of_ble_eq_true rfl) rfl) ?_; (simp only [nA, Nat.reduceBEq, Nat.reduceEqDiff, ↓reduceIte, Nat.reduceAdd, Nat.reduceSub]); refine AWL.nil ?_; (simp only [thenE, inBlk, Nat.reduceEqDiff, ↓reduceIte]); (refine hK _ ?_; clear hK K; (skip)); refine AW.region ?_; refine awP (op_move rfl rfl) ?_; (simp only [nA, Nat.reduceBEq, Nat.reduceEqDiff, ↓reduceIte, Nat.reduceAdd, Nat.reduceSub]); refine awP (op_subi rfl rfl rfl (by omega)) ?_; (simp only [nA, Nat.reduceBEq, Nat.reduceEqDiff, ↓reduceIte, Nat.reduceAdd, Nat.reduceSub]); refine awP (op_assign rfl rfl) ?_; (simp only [nA, Nat.reduceBEq, Nat.reduceEqDiff, ↓reduceIte, Nat.reduceAdd, Nat.reduceSub]); refine AWL.gh (Gh.drop 3) ?_; (simp only [nA, Nat.reduceBEq, Nat.reduceEqDiff, ↓reduceIte, Nat.reduceAdd, Nat.reduceSub]); refine AWL.nil ?_; have hS : stepV l h k = (rawN l (rawN l (scanV l h k).1), (scanR h (1 + gmod (rawV l (scanV l h k).1) 2) (scanV l h k).2.1 (scanV l h k).2.2 (h.last + gmod (rawV l (rawN l (scanV l h k).1)) 3)).1) := (by unfold stepV; dsimp only; rw [if_pos (by simpa using hc3)]); have hD := hI.2.2.1.step (l := l) k; have hR2 : devS l g (stepV l h k).1 (stepV l h k).2 = devV l k0 := hR; rw [hS] at hD hR2; refine ⟨(g, _, _, _), ⟨by dsimp only; omega, hD.s, hD, hR2⟩, by dsimp only; omega, ⟨rfl, rfl, rfl, (congrArg (fun z => AV.v (.int .i64 z)) hgz), trivial⟩, (by rfl), (by rfl)⟩
         · refine AW.skip ?_; (simp only [thenE, inBlk, Nat.reduceEqDiff, ↓reduceIte]); (refine hK _ ?_; clear hK K; (skip)); refine AW.region ?_; refine awP (op_move rfl rfl) ?_; (simp only [nA, Nat.reduceBEq, Nat.reduceEqDiff, ↓reduceIte, Nat.reduceAdd, Nat.reduceSub]); refine awP (op_subi rfl rfl rfl (by omega)) ?_; (simp only [nA, Nat.reduceBEq, Nat.reduceEqDiff, ↓reduceIte, Nat.reduceAdd, Nat.reduceSub]); refine awP (op_assign rfl rfl) ?_; (simp only [nA, Nat.reduceBEq, Nat.reduceEqDiff, ↓reduceIte, Nat.reduceAdd, Nat.reduceSub]); refine AWL.gh (Gh.drop 3) ?_; (simp only [nA, Nat.reduceBEq, Nat.reduceEqDiff, ↓reduceIte, Nat.reduceAdd, Nat.reduceSub]); refine AWL.nil ?_; have hS : stepV l h k = (rawN l (rawN l (scanV l h k).1), h) := (by unfold stepV; dsimp only; rw [if_neg (by simpa using hc3)]); have hD := hI.2.2.1.step (l := l) k; have hR2 : devS l g (stepV l h k).1 (stepV l h k).2 = devV l k0 := hR; rw [hS] at hD hR2; refine ⟨(g, _, _, _), ⟨by dsimp only; omega, hD.s, hD, hR2⟩, by dsimp only; omega, ⟨rfl, rfl, rfl, (congrArg (fun z => AV.v (.int .i64 z)) hgz), trivial⟩, (by rfl), (by rfl)⟩
       · (simp only [nA, Nat.reduceBEq, Nat.reduceEqDiff, ↓reduceIte, Nat.reduceAdd, Nat.reduceSub])
         refine adJo 9 rfl (op_call1 rfl en12 (C12 (n := 3) hl (by decide)) (by exact rfl) (RL.cons .ptr (RL.cons (.base (by exact View.same rfl)) (RL.nil))) (by exact ⟨_, _, _, rfl, rfl, rfl⟩) (by exact rfl) (by exact rfl) (by exact rfl)) (by kernel_rfl) ⟨rfl, rfl⟩ ?_; (simp only [nA, Nat.reduceBEq, Nat.reduceEqDiff, ↓reduceIte, Nat.reduceAdd, Nat.reduceSub])
         refine adPo 10 rfl (fun T' ok => op_addi rfl rfl rfl (by omega)) ⟨rfl, rfl⟩ (by kernel_rfl) (by kernel_rfl) ?_; (simp only [nA, Nat.reduceBEq, Nat.reduceEqDiff, ↓reduceIte, Nat.reduceAdd, Nat.reduceSub])
         refine adFo 11 rfl (fun T' ok => op_callS rfl en27 (C27 hI.2.1) (RL.cons (by exact View.same rfl) (RL.cons (by exact View.same rfl) (RL.cons (by exact View.same rfl) (RL.cons (by exact View.same rfl) (RL.cons (by exact View.same rfl) RL.nil))))) rfl rfl rfl) ⟨rfl, rfl⟩ (by kernel_rfl) (by kernel_rfl) ?_; (simp only [nA, Nat.reduceBEq, Nat.reduceEqDiff, ↓reduceIte, Nat.reduceAdd, Nat.reduceSub])
         refine adPo 12 rfl (fun T' ok => op_move rfl rfl) ⟨rfl, rfl⟩ (by kernel_rfl) (by kernel_rfl) ?_; (simp only [nA, Nat.reduceBEq, Nat.reduceEqDiff, ↓reduceIte, Nat.reduceAdd, Nat.reduceSub])
         refine adPo 13 rfl (fun T' ok => op_extract rfl rfl rfl) ⟨rfl, rfl⟩ (by kernel_rfl) (by kernel_rfl) ?_; (simp only [nA, Nat.reduceBEq, Nat.reduceEqDiff, ↓reduceIte, Nat.reduceAdd, Nat.reduceSub])
         refine adPo 14 rfl (fun T' ok => op_extract rfl rfl rfl) ⟨rfl, rfl⟩ (by kernel_rfl) (by kernel_rfl) ?_; (simp only [nA, Nat.reduceBEq, Nat.reduceEqDiff, ↓reduceIte, Nat.reduceAdd, Nat.reduceSub])
         refine adPo 15 rfl (fun T' ok => op_extract rfl rfl rfl) ⟨rfl, rfl⟩ (by kernel_rfl) (by kernel_rfl) ?_; (simp only [nA, Nat.reduceBEq, Nat.reduceEqDiff, ↓reduceIte, Nat.reduceAdd, Nat.reduceSub])
         refine adJo 18 rfl (op_store rfl rfl rfl rfl rfl rfl sz26 rfl (Nat.le_of_ble_eq_true rfl) rfl) (by kernel_rfl) ⟨rfl, rfl⟩ ?_; (simp only [nA, Nat.reduceBEq, Nat.reduceEqDiff, ↓reduceIte, Nat.reduceAdd, Nat.reduceSub])
         refine adJo 19 rfl (op_store rfl rfl rfl rfl rfl rfl sz33 rfl (Nat.le_of_ble_eq_true rfl) rfl) (by kernel_rfl) ⟨rfl, rfl⟩ ?_; (simp only [nA, Nat.reduceBEq, Nat.reduceEqDiff, ↓reduceIte, Nat.reduceAdd, Nat.reduceSub])
         refine adPo 20 rfl (fun T' ok => op_assign rfl rfl) ⟨rfl, rfl⟩ (by kernel_rfl) (by kernel_rfl) ?_; (simp only [nA, Nat.reduceBEq, Nat.reduceEqDiff, ↓reduceIte, Nat.reduceAdd, Nat.reduceSub])
         refine adDoneo (by kernel_rfl) ?_
         (refine hK _ ?_; clear hK K; (skip)); (refine AW.seq_k ?_; intro K hK); refine AW.region ?_; refine awP (op_move rfl rfl) ?_; (simp only [nA, Nat.reduceBEq, Nat.reduceEqDiff, ↓reduceIte, Nat.reduceAdd, Nat.reduceSub]); refine awP (op_eql rfl rfl rfl) ?_; (simp only [nA, Nat.reduceBEq, Nat.reduceEqDiff, ↓reduceIte, Nat.reduceAdd, Nat.reduceSub]); refine AWL.nil ?_; (refine hK _ ?_; clear hK K; (skip)); refine AW.cond rfl rfl rfl (fun hc3 => ?_) (fun hc3 => ?_)
         · refine AW.region ?_; refine awR (op_load_ptr rfl rfl rfl rfl ag26 sz26 (Nat.le_of_ble_eq_true rfl) rfl) ?_; (simp only [nA, Nat.reduceBEq, Nat.reduceEqDiff, ↓reduceIte, Nat.reduceAdd, Nat.reduceSub]); refine awJ (op_store rfl rfl rfl rfl rfl rfl sz26 rfl (Nat.le_of_ble_eq_true rfl) rfl) ?_; (simp only [nA, Nat.reduceBEq, Nat.reduceEqDiff, ↓reduceIte, Nat.reduceAdd, Nat.reduceSub]); refine AWL.nil ?_; (simp only [thenE, inBlk, Nat.reduceEqDiff, ↓reduceIte]); (refine hK _ ?_; clear hK K; (skip)); refine AW.region ?_; refine awP (op_move rfl rfl) ?_; (simp only [nA, Nat.reduceBEq, Nat.reduceEqDiff, ↓reduceIte, Nat.reduceAdd, Nat.reduceSub]); refine awP (op_subi rfl rfl rfl (by omega)) ?_; (simp only [nA, Nat.reduceBEq, Nat.reduceEqDiff, ↓reduceIte, Nat.reduceAdd, Nat.reduceSub]); refine awP (op_assign rfl rfl) ?_; (simp only [nA, Nat.reduceBEq, Nat.reduceEqDiff, ↓reduceIte, Nat.reduceAdd, Nat.reduceSub]); refine AWL.gh (Gh.drop 3) ?_; (simp only [nA, Nat.reduceBEq, Nat.reduceEqDiff, ↓reduceIte, Nat.reduceAdd, Nat.reduceSub]); refine AWL.nil ?_; have hS : stepV l h k = (rawN l (rawN l (scanV l h k).1), (scanR h (1 + gmod (rawV l (scanV l h k).1) 2) (scanV l h k).2.1 (scanV l h k).2.2 (h.last + gmod (rawV l (rawN l (scanV l h k).1)) 3)).1) := (by unfold stepV; dsimp only; rw [if_pos (by simpa using hc3)]); have hD := hI.2.2.1.step (l := l) k; have hR2 : devS l g (stepV l h k).1 (stepV l h k).2 = devV l k0 := hR; rw [hS] at hD hR2; refine ⟨(g, _, _, _), ⟨by dsimp only; omega, hD.s, hD, hR2⟩, by dsimp only; omega, ⟨rfl, rfl, rfl, (congrArg (fun z => AV.v (.int .i64 z)) hgz), trivial⟩, (by rfl), (by rfl)⟩
         · refine AW.skip ?_; (simp only [thenE, inBlk, Nat.reduceEqDiff, ↓reduceIte]); (refine hK _ ?_; clear hK K; (skip)); refine AW.region ?_; refine awP (op_move rfl rfl) ?_; (simp only [nA, Nat.reduceBEq, Nat.reduceEqDiff, ↓reduceIte, Nat.reduceAdd, Nat.reduceSub]); refine awP (op_subi rfl rfl rfl (by omega)) ?_; (simp only [nA, Nat.reduceBEq, Nat.reduceEqDiff, ↓reduceIte, Nat.reduceAdd, Nat.reduceSub]); refine awP (op_assign rfl rfl) ?_; (simp only [nA, Nat.reduceBEq, Nat.reduceEqDiff, ↓reduceIte, Nat.reduceAdd, Nat.reduceSub]); refine AWL.gh (Gh.drop 3) ?_; (simp only [nA, Nat.reduceBEq, Nat.reduceEqDiff, ↓reduceIte, Nat.reduceAdd, Nat.reduceSub]); refine AWL.nil ?_; have hS : stepV l h k = (rawN l (rawN l (scanV l h k).1), h) := (by unfold stepV; dsimp only; rw [if_neg (by simpa using hc3)]); have hD := hI.2.2.1.step (l := l) k; have hR2 : devS l g (stepV l h k).1 (stepV l h k).2 = devV l k0 := hR; rw [hS] at hD hR2; refine ⟨(g, _, _, _), ⟨by dsimp only; omega, hD.s, hD, hR2⟩, by dsimp only; omega, ⟨rfl, rfl, rfl, (congrArg (fun z => AV.v (.int .i64 z)) hgz), trivial⟩, (by rfl), (by rfl)⟩
   · (simp only [nA, Nat.reduceBEq, Nat.reduceEqDiff, ↓reduceIte, Nat.reduceAdd, Nat.reduceSub])
     refine adJ2o 2 17 rfl rfl (op_call1 rfl en12 (C12 (n := 2) hl (by decide)) (by exact rfl) (RL.cons .ptr (RL.cons (.base (by exact View.same rfl)) (RL.nil))) (by exact ⟨_, _, _, rfl, rfl, rfl⟩) (by exact rfl) (by exact rfl) (by exact rfl)) (op_alloc rfl ze33 rfl) (by kernel_rfl) ⟨rfl, rfl⟩ ⟨rfl, rfl⟩ ?_ ?_
     · (simp only [nA, Nat.reduceBEq, Nat.reduceEqDiff, ↓reduceIte, Nat.reduceAdd, Nat.reduceSub])
       refine adPo 3 rfl (fun T' ok => op_addi rfl rfl rfl (by omega)) ⟨rfl, rfl⟩ (by kernel_rfl) (by kernel_rfl) ?_; (simp only [nA, Nat.reduceBEq, Nat.reduceEqDiff, ↓reduceIte, Nat.reduceAdd, Nat.reduceSub])
       refine adJ2o 9 17 rfl rfl (op_call1 rfl en12 (C12 (n := 3) hl (by decide)) (by exact rfl) (RL.cons .ptr (RL.cons (.base (by exact View.same rfl)) (RL.nil))) (by exact ⟨_, _, _, rfl, rfl, rfl⟩) (by exact rfl) (by exact rfl) (by exact rfl)) (op_alloc rfl ze33 rfl) (by kernel_rfl) ⟨rfl, rfl⟩ ⟨rfl, rfl⟩ ?_ ?_
       · (simp only [nA, Nat.reduceBEq, Nat.reduceEqDiff, ↓reduceIte, Nat.reduceAdd, Nat.reduceSub])
         refine adPo 10 rfl (fun T' ok => op_addi rfl rfl rfl (by omega)) ⟨rfl, rfl⟩ (by kernel_rfl) (by kernel_rfl) ?_; (simp only [nA, Nat.reduceBEq, Nat.reduceEqDiff, ↓reduceIte, Nat.reduceAdd, Nat.reduceSub])
         refine adFo 11 rfl (fun T' ok => op_callS rfl en27 (C27 hI.2.1) (RL.cons (by exact View.same rfl) (RL.cons (by exact View.same rfl) (RL.cons (by exact View.same rfl) (RL.cons (by exact View.same rfl) (RL.cons (by exact View.same rfl) RL.nil))))) rfl rfl rfl) ⟨rfl, rfl⟩ (by kernel_rfl) (by kernel_rfl) ?_; (simp only [nA, Nat.reduceBEq, Nat.reduceEqDiff, ↓reduceIte, Nat.reduceAdd, Nat.reduceSub])
         refine adPo 12 rfl (fun T' ok => op_move rfl rfl) ⟨rfl, rfl⟩ (by kernel_rfl) (by kernel_rfl) ?_; (simp only [nA, Nat.reduceBEq, Nat.reduceEqDiff, ↓reduceIte, Nat.reduceAdd, Nat.reduceSub])
         refine adPo 13 rfl (fun T' ok => op_extract rfl rfl rfl) ⟨rfl, rfl⟩ (by kernel_rfl) (by kernel_rfl) ?_; (simp only [nA, Nat.reduceBEq, Nat.reduceEqDiff, ↓reduceIte, Nat.reduceAdd, Nat.reduceSub])
         refine adPo 14 rfl (fun T' ok => op_extract rfl rfl rfl) ⟨rfl, rfl⟩ (by kernel_rfl) (by kernel_rfl) ?_; (simp only [nA, Nat.reduceBEq, Nat.reduceEqDiff, ↓reduceIte, Nat.reduceAdd, Nat.reduceSub])
         refine adPo 15 rfl (fun T' ok => op_extract rfl rfl rfl) ⟨rfl, rfl⟩ (by kernel_rfl) (by kernel_rfl) ?_; (simp only [nA, Nat.reduceBEq, Nat.reduceEqDiff, ↓reduceIte, Nat.reduceAdd, Nat.reduceSub])
         refine adJo 17 rfl (op_alloc rfl ze33 rfl) (by kernel_rfl) ⟨rfl, rfl⟩ ?_; (simp only [nA, Nat.reduceBEq, Nat.reduceEqDiff, ↓reduceIte, Nat.reduceAdd, Nat.reduceSub])
         refine adJo 18 rfl (op_store rfl rfl rfl rfl rfl rfl sz26 rfl (Nat.le_of_ble_eq_true rfl) rfl) (by kernel_rfl) ⟨rfl, rfl⟩ ?_; (simp only [nA, Nat.reduceBEq, Nat.reduceEqDiff, ↓reduceIte, Nat.reduceAdd, Nat.reduceSub])
         refine adJo 19 rfl (op_store rfl rfl rfl rfl rfl rfl sz33 rfl (Nat.le_of_ble_eq_true rfl) rfl) (by kernel_rfl) ⟨rfl, rfl⟩ ?_; (simp only [nA, Nat.reduceBEq, Nat.reduceEqDiff, ↓reduceIte, Nat.reduceAdd, Nat.reduceSub])
         refine adPo 20 rfl (fun T' ok => op_assign rfl rfl) ⟨rfl, rfl⟩ (by kernel_rfl) (by kernel_rfl) ?_; (simp only [nA, Nat.reduceBEq, Nat.reduceEqDiff, ↓reduceIte, Nat.reduceAdd, Nat.reduceSub])
         refine adDoneo (by kernel_rfl) ?_
         (refine hK _ ?_; clear hK K; (skip)); (refine AW.seq_k ?_; intro K hK); refine AW.region ?_; refine awP (op_move rfl rfl) ?_; (simp only [nA, Nat.reduceBEq, Nat.reduceEqDiff, ↓reduceIte, Nat.reduceAdd, Nat.reduceSub]); refine awP (op_eql rfl rfl rfl) ?_; (simp only [nA, Nat.reduceBEq, Nat.reduceEqDiff, ↓reduceIte, Nat.reduceAdd, Nat.reduceSub]); refine AWL.nil ?_; (refine hK _ ?_; clear hK K; (skip)); refine AW.cond rfl rfl rfl (fun hc3 => ?_) (fun hc3 => ?_)
         · refine AW.region ?_; refine awR (op_load_ptr rfl rfl rfl rfl ag26 sz26 (Nat.le_of_ble_eq_true rfl) rfl) ?_; (simp only [nA, Nat.reduceBEq, Nat.reduceEqDiff, ↓reduceIte, Nat.reduceAdd, Nat.reduceSub]); refine awJ (op_store rfl rfl rfl rfl rfl rfl sz26 rfl (Nat.le_of_ble_eq_true rfl) rfl) ?_; (simp only [nA, Nat.reduceBEq, Nat.reduceEqDiff, ↓reduceIte, Nat.reduceAdd, Nat.reduceSub]); refine AWL.nil ?_; (simp only [thenE, inBlk, Nat.reduceEqDiff, ↓reduceIte]); (refine hK _ ?_; clear hK K; (skip)); refine AW.region ?_; refine awP (op_move rfl rfl) ?_; (simp only [nA, Nat.reduceBEq, Nat.reduceEqDiff, ↓reduceIte, Nat.reduceAdd, Nat.reduceSub]); refine awP (op_subi rfl rfl rfl (by omega)) ?_; (simp only [nA, Nat.reduceBEq, Nat.reduceEqDiff, ↓reduceIte, Nat.reduceAdd, Nat.reduceSub]); refine awP (op_assign rfl rfl) ?_; (simp only [nA, Nat.reduceBEq, Nat.reduceEqDiff, ↓reduceIte, Nat.reduceAdd, Nat.reduceSub]); refine AWL.gh (Gh.drop 3) ?_; (simp only [nA, Nat.reduceBEq, Nat.reduceEqDiff, ↓reduceIte, Nat.reduceAdd, Nat.reduceSub]); refine AWL.nil ?_; have hS : stepV l h k = (rawN l (rawN l (scanV l h k).1), (scanR h (1 + gmod (rawV l (scanV l h k).1) 2) (scanV l h k).2.1 (scanV l h k).2.2 (h.last + gmod (rawV l (rawN l (scanV l h k).1)) 3)).1) := (by unfold stepV; dsimp only; rw [if_pos (by simpa using hc3)]); have hD := hI.2.2.1.step (l := l) k; have hR2 : devS l g (stepV l h k).1 (stepV l h k).2 = devV l k0 := hR; rw [hS] at hD hR2; refine ⟨(g, _, _, _), ⟨by dsimp only; omega, hD.s, hD, hR2⟩, by dsimp only; omega, ⟨rfl, rfl, rfl, (congrArg (fun z => AV.v (.int .i64 z)) hgz), trivial⟩, (by rfl), (by rfl)⟩
         · refine AW.skip ?_; (simp only [thenE, inBlk, Nat.reduceEqDiff, ↓reduceIte]); (refine hK _ ?_; clear hK K; (skip)); refine AW.region ?_; refine awP (op_move rfl rfl) ?_; (simp only [nA, Nat.reduceBEq, Nat.reduceEqDiff, ↓reduceIte, Nat.reduceAdd, Nat.reduceSub]); refine awP (op_subi rfl rfl rfl (by omega)) ?_; (simp only [nA, Nat.reduceBEq, Nat.reduceEqDiff, ↓reduceIte, Nat.reduceAdd, Nat.reduceSub]); refine awP (op_assign rfl rfl) ?_; (simp only [nA, Nat.reduceBEq, Nat.reduceEqDiff, ↓reduceIte, Nat.reduceAdd, Nat.reduceSub]); refine AWL.gh (Gh.drop 3) ?_; (simp only [nA, Nat.reduceBEq, Nat.reduceEqDiff, ↓reduceIte, Nat.reduceAdd, Nat.reduceSub]); refine AWL.nil ?_; have hS : stepV l h k = (rawN l (rawN l (scanV l h k).1), h) := (by unfold stepV; dsimp only; rw [if_neg (by simpa using hc3)]); have hD := hI.2.2.1.step (l := l) k; have hR2 : devS l g (stepV l h k).1 (stepV l h k).2 = devV l k0 := hR; rw [hS] at hD hR2; refine ⟨(g, _, _, _), ⟨by dsimp only; omega, hD.s, hD, hR2⟩, by dsimp only; omega, ⟨rfl, rfl, rfl, (congrArg (fun z => AV.v (.int .i64 z)) hgz), trivial⟩, (by rfl), (by rfl)⟩
       · (simp only [nA, Nat.reduceBEq, Nat.reduceEqDiff, ↓reduceIte, Nat.reduceAdd, Nat.reduceSub])
         refine adJo 9 rfl (op_call1 rfl en12 (C12 (n := 3) hl (by decide)) (by exact rfl) (RL.cons .ptr (RL.cons (.base (by exact View.same rfl)) (RL.nil))) (by exact ⟨_, _, _, rfl, rfl, rfl⟩) (by exact rfl) (by exact rfl) (by exact rfl)) (by kernel_rfl) ⟨rfl, rfl⟩ ?_; (simp only [nA, Nat.reduceBEq, Nat.reduceEqDiff, ↓reduceIte, Nat.reduceAdd, Nat.reduceSub])
         refine adPo 10 rfl (fun T' ok => op_addi rfl rfl rfl (by omega)) ⟨rfl, rfl⟩ (by kernel_rfl) (by kernel_rfl) ?_; (simp only [nA, Nat.reduceBEq, Nat.reduceEqDiff, ↓reduceIte, Nat.reduceAdd, Nat.reduceSub])
         refine adFo 11 rfl (fun T' ok => op_callS rfl en27 (C27 hI.2.1) (RL.cons (by exact View.same rfl) (RL.cons (by exact View.same rfl) (RL.cons (by exact View.same rfl) (RL.cons (by exact View.same rfl) (RL.cons (by exact View.same rfl) RL.nil))))) rfl rfl rfl) ⟨rfl, rfl⟩ (by kernel_rfl) (by kernel_rfl) ?_; (simp only [nA, Nat.reduceBEq, Nat.reduceEqDiff, ↓reduceIte, Nat.reduceAdd, Nat.reduceSub])
         refine adPo 12 rfl (fun T' ok => op_move rfl rfl) ⟨rfl, rfl⟩ (by kernel_rfl) (by kernel_rfl) ?_; (simp only [nA, Nat.reduceBEq, Nat.reduceEqDiff, ↓reduceIte, Nat.reduceAdd, Nat.reduceSub])
         refine adPo 13 rfl (fun T' ok => op_extract rfl rfl rfl) ⟨rfl, rfl⟩ (by kernel_rfl) (by kernel_rfl) ?_; (simp only [nA, Nat.reduceBEq, Nat.reduceEqDiff, ↓reduceIte, Nat.reduceAdd, Nat.reduceSub])
         refine adPo 14 rfl (fun T' ok => op_extract rfl rfl rfl) ⟨rfl, rfl⟩ (by kernel_rfl) (by kernel_rfl) ?_; (simp only [nA, Nat.reduceBEq, Nat.reduceEqDiff, ↓reduceIte, Nat.reduceAdd, Nat.reduceSub])
         refine adPo 15 rfl (fun T' ok => op_extract rfl rfl rfl) ⟨rfl, rfl⟩ (by kernel_rfl) (by kernel_rfl) ?_; (simp only [nA, Nat.reduceBEq, Nat.reduceEqDiff, ↓reduceIte, Nat.reduceAdd, Nat.reduceSub])
         refine adJo 18 rfl (op_store rfl rfl rfl rfl rfl rfl sz26 rfl (Nat.le_of_ble_eq_true rfl) rfl) (by kernel_rfl) ⟨rfl, rfl⟩ ?_; (simp only [nA, Nat.reduceBEq, Nat.reduceEqDiff, ↓reduceIte, Nat.reduceAdd, Nat.reduceSub])
         refine adJo 19 rfl (op_store rfl rfl rfl rfl rfl rfl sz33 rfl (Nat.le_of_ble_eq_true rfl) rfl) (by kernel_rfl) ⟨rfl, rfl⟩ ?_; (simp only [nA, Nat.reduceBEq, Nat.reduceEqDiff, ↓reduceIte, Nat.reduceAdd, Nat.reduceSub])
         refine adPo 20 rfl (fun T' ok => op_assign rfl rfl) ⟨rfl, rfl⟩ (by kernel_rfl) (by kernel_rfl) ?_; (simp only [nA, Nat.reduceBEq, Nat.reduceEqDiff, ↓reduceIte, Nat.reduceAdd, Nat.reduceSub])
         refine adDoneo (by kernel_rfl) ?_
         (refine hK _ ?_; clear hK K; (skip)); (refine AW.seq_k ?_; intro K hK); refine AW.region ?_; refine awP (op_move rfl rfl) ?_; (simp only [nA, Nat.reduceBEq, Nat.reduceEqDiff, ↓reduceIte, Nat.reduceAdd, Nat.reduceSub]); refine awP (op_eql rfl rfl rfl) ?_; (simp only [nA, Nat.reduceBEq, Nat.reduceEqDiff, ↓reduceIte, Nat.reduceAdd, Nat.reduceSub]); refine AWL.nil ?_; (refine hK _ ?_; clear hK K; (skip)); refine AW.cond rfl rfl rfl (fun hc3 => ?_) (fun hc3 => ?_)
         · refine AW.region ?_; refine awR (op_load_ptr rfl rfl rfl rfl ag26 sz26 (Nat.le_of_ble_eq_true rfl) rfl) ?_; (simp only [nA, Nat.reduceBEq, Nat.reduceEqDiff, ↓reduceIte, Nat.reduceAdd, Nat.reduceSub]); refine awJ (op_store rfl rfl rfl rfl rfl rfl sz26 rfl (Nat.le_of_ble_eq_true rfl) rfl) ?_; (simp only [nA, Nat.reduceBEq, Nat.reduceEqDiff, ↓reduceIte, Nat.reduceAdd, Nat.reduceSub]); refine AWL.nil ?_; (simp only [thenE, inBlk, Nat.reduceEqDiff, ↓reduceIte]); (refine hK _ ?_; clear hK K; (skip)); refine AW.region ?_; refine awP (op_move rfl rfl) ?_; (simp only [nA, Nat.reduceBEq, Nat.reduceEqDiff, ↓reduceIte, Nat.reduceAdd, Nat.reduceSub]); refine awP (op_subi rfl rfl rfl (by omega)) ?_; (simp only [nA, Nat.reduceBEq, Nat.reduceEqDiff, ↓reduceIte, Nat.reduceAdd, Nat.reduceSub]); refine awP (op_assign rfl rfl) ?_; (simp only [nA, Nat.reduceBEq, Nat.reduceEqDiff, ↓reduceIte, Nat.reduceAdd, Nat.reduceSub]); refine AWL.gh (Gh.drop 3) ?_; (simp only [nA, Nat.reduceBEq, Nat.reduceEqDiff, ↓reduceIte, Nat.reduceAdd, Nat.reduceSub]); refine AWL.nil ?_; have hS : stepV l h k = (rawN l (rawN l (scanV l h k).1), (scanR h (1 + gmod (rawV l (scanV l h k).1) 2) (scanV l h k).2.1 (scanV l h k).2.2 (h.last + gmod (rawV l (rawN l (scanV l h k).1)) 3)).1) := (by unfold stepV; dsimp only; rw [if_pos (by simpa using hc3)]); have hD := hI.2.2.1.step (l := l) k; have hR2 : devS l g (stepV l h k).1 (stepV l h k).2 = devV l k0 := hR; rw [hS] at hD hR2; refine ⟨(g, _, _, _), ⟨by dsimp only; omega, hD.s, hD, hR2⟩, by dsimp only; omega, ⟨rfl, rfl, rfl, (congrArg (fun z => AV.v (.int .i64 z)) hgz), trivial⟩, (by rfl), (by rfl)⟩
         · refine AW.skip ?_; (simp only [thenE, inBlk, Nat.reduceEqDiff, ↓reduceIte]); (refine hK _ ?_; clear hK K; (skip)); refine AW.region ?_; refine awP (op_move rfl rfl) ?_; (simp only [nA, Nat.reduceBEq, Nat.reduceEqDiff, ↓reduceIte, Nat.reduceAdd, Nat.reduceSub]); refine awP (op_subi rfl rfl rfl (by omega)) ?_; (simp only [nA, Nat.reduceBEq, Nat.reduceEqDiff, ↓reduceIte, Nat.reduceAdd, Nat.reduceSub]); refine awP (op_assign rfl rfl) ?_; (simp only [nA, Nat.reduceBEq, Nat.reduceEqDiff, ↓reduceIte, Nat.reduceAdd, Nat.reduceSub]); refine AWL.gh (Gh.drop 3) ?_; (simp only [nA, Nat.reduceBEq, Nat.reduceEqDiff, ↓reduceIte, Nat.reduceAdd, Nat.reduceSub]); refine AWL.nil ?_; have hS : stepV l h k = (rawN l (rawN l (scanV l h k).1), h) := (by unfold stepV; dsimp only; rw [if_neg (by simpa using hc3)]); have hD := hI.2.2.1.step (l := l) k; have hR2 : devS l g (stepV l h k).1 (stepV l h k).2 = devV l k0 := hR; rw [hS] at hD hR2; refine ⟨(g, _, _, _), ⟨by dsimp only; omega, hD.s, hD, hR2⟩, by dsimp only; omega, ⟨rfl, rfl, rfl, (congrArg (fun z => AV.v (.int .i64 z)) hgz), trivial⟩, (by rfl), (by rfl)⟩
     · (simp only [nA, Nat.reduceBEq, Nat.reduceEqDiff, ↓reduceIte, Nat.reduceAdd, Nat.reduceSub])
       refine adJo 2 rfl (op_call1 rfl en12 (C12 (n := 2) hl (by decide)) (by exact rfl) (RL.cons .ptr (RL.cons (.base (by exact View.same rfl)) (RL.nil))) (by exact ⟨_, _, _, rfl, rfl, rfl⟩) (by exact rfl) (by exact rfl) (by exact rfl)) (by kernel_rfl) ⟨rfl, rfl⟩ ?_; (simp only [nA, Nat.reduceBEq, Nat.reduceEqDiff, ↓reduceIte, Nat.reduceAdd, Nat.reduceSub])
       refine adPo 3 rfl (fun T' ok => op_addi rfl rfl rfl (by omega)) ⟨rfl, rfl⟩ (by kernel_rfl) (by kernel_rfl) ?_; (simp only [nA, Nat.reduceBEq, Nat.reduceEqDiff, ↓reduceIte, Nat.reduceAdd, Nat.reduceSub])
       refine adJo 9 rfl (op_call1 rfl en12 (C12 (n := 3) hl (by decide)) (by exact rfl) (RL.cons .ptr (RL.cons (.base (by exact View.same rfl)) (RL.nil))) (by exact ⟨_, _, _, rfl, rfl, rfl⟩) (by exact rfl) (by exact rfl) (by exact rfl)) (by kernel_rfl) ⟨rfl, rfl⟩ ?_; (simp only [nA, Nat.reduceBEq, Nat.reduceEqDiff, ↓reduceIte, Nat.reduceAdd, Nat.reduceSub])
       refine adPo 10 rfl (fun T' ok => op_addi rfl rfl rfl (by omega)) ⟨rfl, rfl⟩ (by kernel_rfl) (by kernel_rfl) ?_; (simp only [nA, Nat.reduceBEq, Nat.reduceEqDiff, ↓reduceIte, Nat.reduceAdd, Nat.reduceSub])
       refine adFo 11 rfl (fun T' ok => op_callS rfl en27 (C27 hI.2.1) (RL.cons (by exact View.same rfl) (RL.cons (by exact View.same rfl) (RL.cons (by exact View.same rfl) (RL.cons (by exact View.same rfl) (RL.cons (by exact View.same rfl) RL.nil))))) rfl rfl rfl) ⟨rfl, rfl⟩ (by kernel_rfl) (by kernel_rfl) ?_; (simp only [nA, Nat.reduceBEq, Nat.reduceEqDiff, ↓reduceIte, Nat.reduceAdd, Nat.reduceSub])
       refine adPo 12 rfl (fun T' ok => op_move rfl rfl) ⟨rfl, rfl⟩ (by kernel_rfl) (by kernel_rfl) ?_; (simp only [nA, Nat.reduceBEq, Nat.reduceEqDiff, ↓reduceIte, Nat.reduceAdd, Nat.reduceSub])
       refine adPo 13 rfl (fun T' ok => op_extract rfl rfl rfl) ⟨rfl, rfl⟩ (by kernel_rfl) (by kernel_rfl) ?_; (simp only [nA, Nat.reduceBEq, Nat.reduceEqDiff, ↓reduceIte, Nat.reduceAdd, Nat.reduceSub])
       refine adPo 14 rfl (fun T' ok => op_extract rfl rfl rfl) ⟨rfl, rfl⟩ (by kernel_rfl) (by kernel_rfl) ?_; (simp only [nA, Nat.reduceBEq, Nat.reduceEqDiff, ↓reduceIte, Nat.reduceAdd, Nat.reduceSub])
       refine adPo 15 rfl (fun T' ok => op_extract rfl rfl rfl) ⟨rfl, rfl⟩ (by kernel_rfl) (by kernel_rfl) ?_; (simp only [nA, Nat.reduceBEq, Nat.reduceEqDiff, ↓reduceIte, Nat.reduceAdd, Nat.reduceSub])
       refine adJo 18 rfl (op_store rfl rfl rfl rfl rfl rfl sz26 rfl (Nat.le_of_ble_eq_true rfl) rfl) (by kernel_rfl) ⟨rfl, rfl⟩ ?_; (simp only [nA, Nat.reduceBEq, Nat.reduceEqDiff, ↓reduceIte, Nat.reduceAdd, Nat.reduceSub])
       refine adJo 19 rfl (op_store rfl rfl rfl rfl rfl rfl sz33 rfl (Nat.le_of_ble_eq_true rfl) rfl) (by kernel_rfl) ⟨rfl, rfl⟩ ?_; (simp only [nA, Nat.reduceBEq, Nat.reduceEqDiff, ↓reduceIte, Nat.reduceAdd, Nat.reduceSub])
       refine adPo 20 rfl (fun T' ok => op_assign rfl rfl) ⟨rfl, rfl⟩ (by kernel_rfl) (by kernel_rfl) ?_; (simp only [nA, Nat.reduceBEq, Nat.reduceEqDiff, ↓reduceIte, Nat.reduceAdd, Nat.reduceSub])
       refine adDoneo (by kernel_rfl) ?_
       (refine hK _ ?_; clear hK K; (skip)); (refine AW.seq_k ?_; intro K hK); refine AW.region ?_; refine awP (op_move rfl rfl) ?_; (simp only [nA, Nat.reduceBEq, Nat.reduceEqDiff, ↓reduceIte, Nat.reduceAdd, Nat.reduceSub]); refine awP (op_eql rfl rfl rfl) ?_; (simp only [nA, Nat.reduceBEq, Nat.reduceEqDiff, ↓reduceIte, Nat.reduceAdd, Nat.reduceSub]); refine AWL.nil ?_; (refine hK _ ?_; clear hK K; (skip)); refine AW.cond rfl rfl rfl (fun hc3 => ?_) (fun hc3 => ?_)
       · refine AW.region ?_; refine awR (op_load_ptr rfl rfl rfl rfl ag26 sz26 (Nat.le_of_ble_eq_true rfl) rfl) ?_; (simp only [nA, Nat.reduceBEq, Nat.reduceEqDiff, ↓reduceIte, Nat.reduceAdd, Nat.reduceSub]); refine awJ (op_store rfl rfl rfl rfl rfl rfl sz26 rfl (Nat.le_of_ble_eq_true rfl) rfl) ?_; (simp only [nA, Nat.reduceBEq, Nat.reduceEqDiff, ↓reduceIte, Nat.reduceAdd, Nat.reduceSub]); refine AWL.nil ?_; (simp only [thenE, inBlk, Nat.reduceEqDiff, ↓reduceIte]); (refine hK _ ?_; clear hK K; (skip)); refine AW.region ?_; refine awP (op_move rfl rfl) ?_; (simp only [nA, Nat.reduceBEq, Nat.reduceEqDiff, ↓reduceIte, Nat.reduceAdd, Nat.reduceSub]); refine awP (op_subi rfl rfl rfl (by omega)) ?_; (simp only [nA, Nat.reduceBEq, Nat.reduceEqDiff, ↓reduceIte, Nat.reduceAdd, Nat.reduceSub]); refine awP (op_assign rfl rfl) ?_; (simp only [nA, Nat.reduceBEq, Nat.reduceEqDiff, ↓reduceIte, Nat.reduceAdd, Nat.reduceSub]); refine AWL.gh (Gh.drop 3) ?_; (simp only [nA, Nat.reduceBEq, Nat.reduceEqDiff, ↓reduceIte, Nat.reduceAdd, Nat.reduceSub]); refine AWL.nil ?_; have hS : stepV l h k = (rawN l (rawN l (scanV l h k).1), (scanR h (1 + gmod (rawV l (scanV l h k).1) 2) (scanV l h k).2.1 (scanV l h k).2.2 (h.last + gmod (rawV l (rawN l (scanV l h k).1)) 3)).1) := (by unfold stepV; dsimp only; rw [if_pos (by simpa using hc3)]); have hD := hI.2.2.1.step (l := l) k; have hR2 : devS l g (stepV l h k).1 (stepV l h k).2 = devV l k0 := hR; rw [hS] at hD hR2; refine ⟨(g, _, _, _), ⟨by dsimp only; omega, hD.s, hD, hR2⟩, by dsimp only; omega, ⟨rfl, rfl, rfl, (congrArg (fun z => AV.v (.int .i64 z)) hgz), trivial⟩, (by rfl), (by rfl)⟩
       · refine AW.skip ?_; (simp only [thenE, inBlk, Nat.reduceEqDiff, ↓reduceIte]); (refine hK _ ?_; clear hK K; (skip)); refine AW.region ?_; refine awP (op_move rfl rfl) ?_; (simp only [nA, Nat.reduceBEq, Nat.reduceEqDiff, ↓reduceIte, Nat.reduceAdd, Nat.reduceSub]); refine awP (op_subi rfl rfl rfl (by omega)) ?_; (simp only [nA, Nat.reduceBEq, Nat.reduceEqDiff, ↓reduceIte, Nat.reduceAdd, Nat.reduceSub]); refine awP (op_assign rfl rfl) ?_; (simp only [nA, Nat.reduceBEq, Nat.reduceEqDiff, ↓reduceIte, Nat.reduceAdd, Nat.reduceSub]); refine AWL.gh (Gh.drop 3) ?_; (simp only [nA, Nat.reduceBEq, Nat.reduceEqDiff, ↓reduceIte, Nat.reduceAdd, Nat.reduceSub]); refine AWL.nil ?_; have hS : stepV l h k = (rawN l (rawN l (scanV l h k).1), h) := (by unfold stepV; dsimp only; rw [if_neg (by simpa using hc3)]); have hD := hI.2.2.1.step (l := l) k; have hR2 : devS l g (stepV l h k).1 (stepV l h k).2 = devV l k0 := hR; rw [hS] at hD hR2; refine ⟨(g, _, _, _), ⟨by dsimp only; omega, hD.s, hD, hR2⟩, by dsimp only; omega, ⟨rfl, rfl, rfl, (congrArg (fun z => AV.v (.int .i64 z)) hgz), trivial⟩, (by rfl), (by rfl)⟩
   · (simp only [nA, Nat.reduceBEq, Nat.reduceEqDiff, ↓reduceIte, Nat.reduceAdd, Nat.reduceSub])
     refine adJ2o 2 16 rfl rfl (op_call1 rfl en12 (C12 (n := 2) hl (by decide)) (by exact rfl) (RL.cons .ptr (RL.cons (.base (by exact View.same rfl)) (RL.nil))) (by exact ⟨_, _, _, rfl, rfl, rfl⟩) (by exact rfl) (by exact rfl) (by exact rfl)) (op_alloc rfl ze26 rfl) (by kernel_rfl) ⟨rfl, rfl⟩ ⟨rfl, rfl⟩ ?_ ?_
     · (simp only [nA, Nat.reduceBEq, Nat.reduceEqDiff, ↓reduceIte, Nat.reduceAdd, Nat.reduceSub])
       refine adPo 3 rfl (fun T' ok => op_addi rfl rfl rfl (by omega)) ⟨rfl, rfl⟩ (by kernel_rfl) (by kernel_rfl) ?_; (simp only [nA, Nat.reduceBEq, Nat.reduceEqDiff, ↓reduceIte, Nat.reduceAdd, Nat.reduceSub])
       refine adJ2o 9 16 rfl rfl (op_call1 rfl en12 (C12 (n := 3) hl (by decide)) (by exact rfl) (RL.cons .ptr (RL.cons (.base (by exact View.same rfl)) (RL.nil))) (by exact ⟨_, _, _, rfl, rfl, rfl⟩) (by exact rfl) (by exact rfl) (by exact rfl)) (op_alloc rfl ze26 rfl) (by kernel_rfl) ⟨rfl, rfl⟩ ⟨rfl, rfl⟩ ?_ ?_
       · (simp only [nA, Nat.reduceBEq, Nat.reduceEqDiff, ↓reduceIte, Nat.reduceAdd, Nat.reduceSub])
         refine adPo 10 rfl (fun T' ok => op_addi rfl rfl rfl (by omega)) ⟨rfl, rfl⟩ (by kernel_rfl) (by kernel_rfl) ?_; (simp only [nA, Nat.reduceBEq, Nat.reduceEqDiff, ↓reduceIte, Nat.reduceAdd, Nat.reduceSub])
         refine adFo 11 rfl (fun T' ok => op_callS rfl en27 (C27 hI.2.1) (RL.cons (by exact View.same rfl) (RL.cons (by exact View.same rfl) (RL.cons (by exact View.same rfl) (RL.cons (by exact View.same rfl) (RL.cons (by exact View.same rfl) RL.nil))))) rfl rfl rfl) ⟨rfl, rfl⟩ (by kernel_rfl) (by kernel_rfl) ?_; (simp only [nA, Nat.reduceBEq, Nat.reduceEqDiff, ↓reduceIte, Nat.reduceAdd, Nat.reduceSub])
         refine adPo 12 rfl (fun T' ok => op_move rfl rfl) ⟨rfl, rfl⟩ (by kernel_rfl) (by kernel_rfl) ?_; (simp only [nA, Nat.reduceBEq, Nat.reduceEqDiff, ↓reduceIte, Nat.reduceAdd, Nat.reduceSub])
         refine adPo 13 rfl (fun T' ok => op_extract rfl rfl rfl) ⟨rfl, rfl⟩ (by kernel_rfl) (by kernel_rfl) ?_; (simp only [nA, Nat.reduceBEq, Nat.reduceEqDiff, ↓reduceIte, Nat.reduceAdd, Nat.reduceSub])
         refine adPo 14 rfl (fun T' ok => op_extract rfl rfl rfl) ⟨rfl, rfl⟩ (by kernel_rfl) (by kernel_rfl) ?_; (simp only [nA, Nat.reduceBEq, Nat.reduceEqDiff, ↓reduceIte, Nat.reduceAdd, Nat.reduceSub])
         refine adPo 15 rfl (fun T' ok => op_extract rfl rfl rfl) ⟨rfl, rfl⟩ (by kernel_rfl) (by kernel_rfl) ?_; (simp only [nA, Nat.reduceBEq, Nat.reduceEqDiff, ↓reduceIte, Nat.reduceAdd, Nat.reduceSub])
         refine adJo 16 rfl (op_alloc rfl ze26 rfl) (by kernel_rfl) ⟨rfl, rfl⟩ ?_; (simp only [nA, Nat.reduceBEq, Nat.reduceEqDiff, ↓reduceIte, Nat.reduceAdd, Nat.reduceSub])
         refine adJo 18 rfl (op_store rfl rfl rfl rfl rfl rfl sz26 rfl (Nat.le_of_ble_eq_true rfl) rfl) (by kernel_rfl) ⟨rfl, rfl⟩ ?_; (simp only [nA, Nat.reduceBEq, Nat.reduceEqDiff, ↓reduceIte, Nat.reduceAdd, Nat.reduceSub])
         refine adJo 19 rfl (op_store rfl rfl rfl rfl rfl rfl sz33 rfl (Nat.le_of_ble_eq_true rfl) rfl) (by kernel_rfl) ⟨rfl, rfl⟩ ?_; (simp only [nA, Nat.reduceBEq, Nat.reduceEqDiff, ↓reduceIte, Nat.reduceAdd, Nat.reduceSub])
         refine adPo 20 rfl (fun T' ok => op_assign rfl rfl) ⟨rfl, rfl⟩ (by kernel_rfl) (by kernel_rfl) ?_; (simp only [nA, Nat.reduceBEq, Nat.reduceEqDiff, ↓reduceIte, Nat.reduceAdd, Nat.reduceSub])
         refine adDoneo (by kernel_rfl) ?_
         (refine hK _ ?_; clear hK K; (skip)); (refine AW.seq_k ?_; intro K hK); refine AW.region ?_; refine awP (op_move rfl rfl) ?_; (simp only [nA, Nat.reduceBEq, Nat.reduceEqDiff, ↓reduceIte, Nat.reduceAdd, Nat.reduceSub]); refine awP (op_eql rfl rfl rfl) ?_; (simp only [nA, Nat.reduceBEq, Nat.reduceEqDiff, ↓reduceIte, Nat.reduceAdd, Nat.reduceSub]); refine AWL.nil ?_; (refine hK _ ?_; clear hK K; (skip)); refine AW.cond rfl rfl rfl (fun hc3 => ?_) (fun hc3 => ?_)
         · refine AW.region ?_; refine awR (op_load_ptr rfl rfl rfl rfl ag26 sz26 (Nat.le_of_ble_eq_true rfl) rfl) ?_; (simp only [nA, Nat.reduceBEq, Nat.reduceEqDiff, ↓reduceIte, Nat.reduceAdd, Nat.reduceSub]); refine awJ (op_store rfl rfl rfl rfl rfl rfl sz26 rfl (Nat.le_of_ble_eq_true rfl) rfl) ?_; (simp only [nA, Nat.reduceBEq, Nat.reduceEqDiff, ↓reduceIte, Nat.reduceAdd, Nat.reduceSub]); refine AWL.nil ?_; (simp only [thenE, inBlk, Nat.reduceEqDiff, ↓reduceIte]); (refine hK _ ?_; clear hK K; (skip)); refine AW.region ?_; refine awP (op_move rfl rfl) ?_; (simp only [nA, Nat.reduceBEq, Nat.reduceEqDiff, ↓reduceIte, Nat.reduceAdd, Nat.reduceSub]); refine awP (op_subi rfl rfl rfl (by omega)) ?_; (simp only [nA, Nat.reduceBEq, Nat.reduceEqDiff, ↓reduceIte, Nat.reduceAdd, Nat.reduceSub]); refine awP (op_assign rfl rfl) ?_; (simp only [nA, Nat.reduceBEq, Nat.reduceEqDiff, ↓reduceIte, Nat.reduceAdd, Nat.reduceSub]); refine AWL.gh (Gh.drop 3) ?_; (simp only [nA, Nat.reduceBEq, Nat.reduceEqDiff, ↓reduceIte, Nat.reduceAdd, Nat.reduceSub]); refine AWL.nil ?_; have hS : stepV l h k = (rawN l (rawN l (scanV l h k).1), (scanR h (1 + gmod (rawV l (scanV l h k).1) 2) (scanV l h k).2.1 (scanV l h k).2.2 (h.last + gmod (rawV l (rawN l (scanV l h k).1)) 3)).1) := (by unfold stepV; dsimp only; rw [if_pos (by simpa using hc3)]); have hD := hI.2.2.1.step (l := l) k; have hR2 : devS l g (stepV l h k).1 (stepV l h k).2 = devV l k0 := hR; rw [hS] at hD hR2; refine ⟨(g, _, _, _), ⟨by dsimp only; omega, hD.s, hD, hR2⟩, by dsimp only; omega, ⟨rfl, rfl, rfl, (congrArg (fun z => AV.v (.int .i64 z)) hgz), trivial⟩, (by rfl), (by rfl)⟩
         · refine AW.skip ?_; (simp only [thenE, inBlk, Nat.reduceEqDiff, ↓reduceIte]); (refine hK _ ?_; clear hK K; (skip)); refine AW.region ?_; refine awP (op_move rfl rfl) ?_; (simp only [nA, Nat.reduceBEq, Nat.reduceEqDiff, ↓reduceIte, Nat.reduceAdd, Nat.reduceSub]); refine awP (op_subi rfl rfl rfl (by omega)) ?_; (simp only [nA, Nat.reduceBEq, Nat.reduceEqDiff, ↓reduceIte, Nat.reduceAdd, Nat.reduceSub]); refine awP (op_assign rfl rfl) ?_; (simp only [nA, Nat.reduceBEq, Nat.reduceEqDiff, ↓reduceIte, Nat.reduceAdd, Nat.reduceSub]); refine AWL.gh (Gh.drop 3) ?_; (simp only [nA, Nat.reduceBEq, Nat.reduceEqDiff, ↓reduceIte, Nat.reduceAdd, Nat.reduceSub]); refine AWL.nil ?_; have hS : stepV l h k = (rawN l (rawN l (scanV l h k).1), h) := (by unfold stepV; dsimp only; rw [if_neg (by simpa using hc3)]); have hD := hI.2.2.1.step (l := l) k; have hR2 : devS l g (stepV l h k).1 (stepV l h k).2 = devV l k0 := hR; rw [hS] at hD hR2; refine ⟨(g, _, _, _), ⟨by dsimp only; omega, hD.s, hD, hR2⟩, by dsimp only; omega, ⟨rfl, rfl, rfl, (congrArg (fun z => AV.v (.int .i64 z)) hgz), trivial⟩, (by rfl), (by rfl)⟩
       · (simp only [nA, Nat.reduceBEq, Nat.reduceEqDiff, ↓reduceIte, Nat.reduceAdd, Nat.reduceSub])
         refine adJo 9 rfl (op_call1 rfl en12 (C12 (n := 3) hl (by decide)) (by exact rfl) (RL.cons .ptr (RL.cons (.base (by exact View.same rfl)) (RL.nil))) (by exact ⟨_, _, _, rfl, rfl, rfl⟩) (by exact rfl) (by exact rfl) (by exact rfl)) (by kernel_rfl) ⟨rfl, rfl⟩ ?_; (simp only [nA, Nat.reduceBEq, Nat.reduceEqDiff, ↓reduceIte, Nat.reduceAdd, Nat.reduceSub])
         refine adPo 10 rfl (fun T' ok => op_addi rfl rfl rfl (by omega)) ⟨rfl, rfl⟩ (by kernel_rfl) (by kernel_rfl) ?_; (simp only [nA, Nat.reduceBEq, Nat.reduceEqDiff, ↓reduceIte, Nat.reduceAdd, Nat.reduceSub])
         refine adFo 11 rfl (fun T' ok => op_callS rfl en27 (C27 hI.2.1) (RL.cons (by exact View.same rfl) (RL.cons (by exact View.same rfl) (RL.cons (by exact View.same rfl) (RL.cons (by exact View.same rfl) (RL.cons (by exact View.same rfl) RL.nil))))) rfl rfl rfl) ⟨rfl, rfl⟩ (by kernel_rfl) (by kernel_rfl) ?_; (simp only [nA, Nat.reduceBEq, Nat.reduceEqDiff, ↓reduceIte, Nat.reduceAdd, Nat.reduceSub])
         refine adPo 12 rfl (fun T' ok => op_move rfl rfl) ⟨rfl, rfl⟩ (by kernel_rfl) (by kernel_rfl) ?_; (simp only [nA, Nat.reduceBEq, Nat.reduceEqDiff, ↓reduceIte, Nat.reduceAdd, Nat.reduceSub])
         refine adPo 13 rfl (fun T' ok => op_extract rfl rfl rfl) ⟨rfl, rfl⟩ (by kernel_rfl) (by kernel_rfl) ?_; (simp only [nA, Nat.reduceBEq, Nat.reduceEqDiff, ↓reduceIte, Nat.reduceAdd, Nat.reduceSub])
         refine adPo 14 rfl (fun T' ok => op_extract rfl rfl rfl) ⟨rfl, rfl⟩ (by kernel_rfl) (by kernel_rfl) ?_; (simp only [nA, Nat.reduceBEq, Nat.reduceEqDiff, ↓reduceIte, Nat.reduceAdd, Nat.reduceSub])
         refine adPo 15 rfl (fun T' ok => op_extract rfl rfl rfl) ⟨rfl, rfl⟩ (by kernel_rfl) (by kernel_rfl) ?_; (simp only [nA, Nat.reduceBEq, Nat.reduceEqDiff, ↓reduceIte, Nat.reduceAdd, Nat.reduceSub])
         refine adJo 18 rfl (op_store rfl rfl rfl rfl rfl rfl sz26 rfl (Nat.le_of_ble_eq_true rfl) rfl) (by kernel_rfl) ⟨rfl, rfl⟩ ?_; (simp only [nA, Nat.reduceBEq, Nat.reduceEqDiff, ↓reduceIte, Nat.reduceAdd, Nat.reduceSub])
         refine adJo 19 rfl (op_store rfl rfl rfl rfl rfl rfl sz33 rfl (Nat.le_of_ble_eq_true rfl) rfl) (by kernel_rfl) ⟨rfl, rfl⟩ ?_; (simp only [nA, Nat.reduceBEq, Nat.reduceEqDiff, ↓reduceIte, Nat.reduceAdd, Nat.reduceSub])
         refine adPo 20 rfl (fun T' ok => op_assign rfl rfl) ⟨rfl, rfl⟩ (by kernel_rfl) (by kernel_rfl) ?_; (simp only [nA, Nat.reduceBEq, Nat.reduceEqDiff, ↓reduceIte, Nat.reduceAdd, Nat.reduceSub])
         refine adDoneo (by kernel_rfl) ?_
         (refine hK _ ?_; clear hK K; (skip)); (refine AW.seq_k ?_; intro K hK); refine AW.region ?_; refine awP (op_move rfl rfl) ?_; (simp only [nA, Nat.reduceBEq, Nat.reduceEqDiff, ↓reduceIte, Nat.reduceAdd, Nat.reduceSub]); refine awP (op_eql rfl rfl rfl) ?_; (simp only [nA, Nat.reduceBEq, Nat.reduceEqDiff, ↓reduceIte, Nat.reduceAdd, Nat.reduceSub]); refine AWL.nil ?_; (refine hK _ ?_; clear hK K; (skip)); refine AW.cond rfl rfl rfl (fun hc3 => ?_) (fun hc3 => ?_)
         · refine AW.region ?_; refine awR (op_load_ptr rfl rfl rfl rfl ag26 sz26 (Nat.le_of_ble_eq_true rfl) rfl) ?_; (simp only [nA, Nat.reduceBEq, Nat.reduceEqDiff, ↓reduceIte, Nat.reduceAdd, Nat.reduceSub]); refine awJ (op_store rfl rfl rfl rfl rfl rfl sz26 rfl (Nat.le_of_ble_eq_true rfl) rfl) ?_; (simp only [nA, Nat.reduceBEq, Nat.reduceEqDiff, ↓reduceIte, Nat.reduceAdd, Nat.reduceSub]); refine AWL.nil ?_; (simp only [thenE, inBlk, Nat.reduceEqDiff, ↓reduceIte]); (refine hK _ ?_; clear hK K; (skip)); refine AW.region ?_; refine awP (op_move rfl rfl) ?_; (simp only [nA, Nat.reduceBEq, Nat.reduceEqDiff, ↓reduceIte, Nat.reduceAdd, Nat.reduceSub]); refine awP (op_subi rfl rfl rfl (by omega)) ?_; (simp only [nA, Nat.reduceBEq, Nat.reduceEqDiff, ↓reduceIte, Nat.reduceAdd, Nat.reduceSub]); refine awP (op_assign rfl rfl) ?_; (simp only [nA, Nat.reduceBEq, Nat.reduceEqDiff, ↓reduceIte, Nat.reduceAdd, Nat.reduceSub]); refine AWL.gh (Gh.drop 3) ?_; (simp only [nA, Nat.reduceBEq, Nat.reduceEqDiff, ↓reduceIte, Nat.reduceAdd, Nat.reduceSub]); refine AWL.nil ?_; have hS : stepV l h k = (rawN l (rawN l (scanV l h k).1), (scanR h (1 + gmod (rawV l (scanV l h k).1) 2) (scanV l h k).2.1 (scanV l h k).2.2 (h.last + gmod (rawV l (rawN l (scanV l h k).1)) 3)).1) := (by unfold stepV; dsimp only; rw [if_pos (by simpa using hc3)]); have hD := hI.2.2.1.step (l := l) k; have hR2 : devS l g (stepV l h k).1 (stepV l h k).2 = devV l k0 := hR; rw [hS] at hD hR2; refine ⟨(g, _, _, _), ⟨by dsimp only; omega, hD.s, hD, hR2⟩, by dsimp only; omega, ⟨rfl, rfl, rfl, (congrArg (fun z => AV.v (.int .i64 z)) hgz), trivial⟩, (by rfl), (by rfl)⟩
         · refine AW.skip ?_; (simp only [thenE, inBlk, Nat.reduceEqDiff, ↓reduceIte]); (refine hK _ ?_; clear hK K; (skip)); refine AW.region ?_; refine awP (op_move rfl rfl) ?_; (simp only [nA, Nat.reduceBEq, Nat.reduceEqDiff, ↓reduceIte, Nat.reduceAdd, Nat.reduceSub]); refine awP (op_subi rfl rfl rfl (by omega)) ?_; (simp only [nA, Nat.reduceBEq, Nat.reduceEqDiff, ↓reduceIte, Nat.reduceAdd, Nat.reduceSub]); refine awP (op_assign rfl rfl) ?_; (simp only [nA, Nat.reduceBEq, Nat.reduceEqDiff, ↓reduceIte, Nat.reduceAdd, Nat.reduceSub]); refine AWL.gh (Gh.drop 3) ?_; (simp only [nA, Nat.reduceBEq, Nat.reduceEqDiff, ↓reduceIte, Nat.reduceAdd, Nat.reduceSub]); refine AWL.nil ?_; have hS : stepV l h k = (rawN l (rawN l (scanV l h k).1), h) := (by unfold stepV; dsimp only; rw [if_neg (by simpa using hc3)]); have hD := hI.2.2.1.step (l := l) k; have hR2 : devS l g (stepV l h k).1 (stepV l h k).2 = devV l k0 := hR; rw [hS] at hD hR2; refine ⟨(g, _, _, _), ⟨by dsimp only; omega, hD.s, hD, hR2⟩, by dsimp only; omega, ⟨rfl, rfl, rfl, (congrArg (fun z => AV.v (.int .i64 z)) hgz), trivial⟩, (by rfl), (by rfl)⟩
     · (simp only [nA, Nat.reduceBEq, Nat.reduceEqDiff, ↓reduceIte, Nat.reduceAdd, Nat.reduceSub])
       refine adJo 2 rfl (op_call1 rfl en12 (C12 (n := 2) hl (by decide)) (by exact rfl) (RL.cons .ptr (RL.cons (.base (by exact View.same rfl)) (RL.nil))) (by exact ⟨_, _, _, rfl, rfl, rfl⟩) (by exact rfl) (by exact rfl) (by exact rfl)) (by kernel_rfl) ⟨rfl, rfl⟩ ?_; (simp only [nA, Nat.reduceBEq, Nat.reduceEqDiff, ↓reduceIte, Nat.reduceAdd, Nat.reduceSub])
       refine adPo 3 rfl (fun T' ok => op_addi rfl rfl rfl (by omega)) ⟨rfl, rfl⟩ (by kernel_rfl) (by kernel_rfl) ?_; (simp only [nA, Nat.reduceBEq, Nat.reduceEqDiff, ↓reduceIte, Nat.reduceAdd, Nat.reduceSub])
       refine adJo 9 rfl (op_call1 rfl en12 (C12 (n := 3) hl (by decide)) (by exact rfl) (RL.cons .ptr (RL.cons (.base (by exact View.same rfl)) (RL.nil))) (by exact ⟨_, _, _, rfl, rfl, rfl⟩) (by exact rfl) (by exact rfl) (by exact rfl)) (by kernel_rfl) ⟨rfl, rfl⟩ ?_; (simp only [nA, Nat.reduceBEq, Nat.reduceEqDiff, ↓reduceIte, Nat.reduceAdd, Nat.reduceSub])
       refine adPo 10 rfl (fun T' ok => op_addi rfl rfl rfl (by omega)) ⟨rfl, rfl⟩ (by kernel_rfl) (by kernel_rfl) ?_; (simp only [nA, Nat.reduceBEq, Nat.reduceEqDiff, ↓reduceIte, Nat.reduceAdd, Nat.reduceSub])
       refine adFo 11 rfl (fun T' ok => op_callS rfl en27 (C27 hI.2.1) (RL.cons (by exact View.same rfl) (RL.cons (by exact View.same rfl) (RL.cons (by exact View.same rfl) (RL.cons (by exact View.same rfl) (RL.cons (by exact View.same rfl) RL.nil))))) rfl rfl rfl) ⟨rfl, rfl⟩ (by kernel_rfl) (by kernel_rfl) ?_; (simp only [nA, Nat.reduceBEq, Nat.reduceEqDiff, ↓reduceIte, Nat.reduceAdd, Nat.reduceSub])
       refine adPo 12 rfl (fun T' ok => op_move rfl rfl) ⟨rfl, rfl⟩ (by kernel_rfl) (by kernel_rfl) ?_; (simp only [nA, Nat.reduceBEq, Nat.reduceEqDiff, ↓reduceIte, Nat.reduceAdd, Nat.reduceSub])
       refine adPo 13 rfl (fun T' ok => op_extract rfl rfl rfl) ⟨rfl, rfl⟩ (by kernel_rfl) (by kernel_rfl) ?_; (simp only [nA, Nat.reduceBEq, Nat.reduceEqDiff, ↓reduceIte, Nat.reduceAdd, Nat.reduceSub])
       refine adPo 14 rfl (fun T' ok => op_extract rfl rfl rfl) ⟨rfl, rfl⟩ (by kernel_rfl) (by kernel_rfl) ?_; (simp only [nA, Nat.reduceBEq, Nat.reduceEqDiff, ↓reduceIte, Nat.reduceAdd, Nat.reduceSub])
       refine adPo 15 rfl (fun T' ok => op_extract rfl rfl rfl) ⟨rfl, rfl⟩ (by kernel_rfl) (by kernel_rfl) ?_; (simp only [nA, Nat.reduceBEq, Nat.reduceEqDiff, ↓reduceIte, Nat.reduceAdd, Nat.reduceSub])
       refine adJo 18 rfl (op_store rfl rfl rfl rfl rfl rfl sz26 rfl (Nat.le_of_ble_eq_true rfl) rfl) (by kernel_rfl) ⟨rfl, rfl⟩ ?_; (simp only [nA, Nat.reduceBEq, Nat.reduceEqDiff, ↓reduceIte, Nat.reduceAdd, Nat.reduceSub])
       refine adJo 19 rfl (op_store rfl rfl rfl rfl rfl rfl sz33 rfl (Nat.le_of_ble_eq_true rfl) rfl) (by kernel_rfl) ⟨rfl, rfl⟩ ?_; (simp only [nA, Nat.reduceBEq, Nat.reduceEqDiff, ↓reduceIte, Nat.reduceAdd, Nat.reduceSub])
       refine adPo 20 rfl (fun T' ok => op_assign rfl rfl) ⟨rfl, rfl⟩ (by kernel_rfl) (by kernel_rfl) ?_; (simp only [nA, Nat.reduceBEq, Nat.reduceEqDiff, ↓reduceIte, Nat.reduceAdd, Nat.reduceSub])
       refine adDoneo (by kernel_rfl) ?_
       (refine hK _ ?_; clear hK K; (skip)); (refine AW.seq_k ?_; intro K hK); refine AW.region ?_; refine awP (op_move rfl rfl) ?_; (simp only [nA, Nat.reduceBEq, Nat.reduceEqDiff, ↓reduceIte, Nat.reduceAdd, Nat.reduceSub]); refine awP (op_eql rfl rfl rfl) ?_; (simp only [nA, Nat.reduceBEq, Nat.reduceEqDiff, ↓reduceIte, Nat.reduceAdd, Nat.reduceSub]); refine AWL.nil ?_; (refine hK _ ?_; clear hK K; (skip)); refine AW.cond rfl rfl rfl (fun hc3 => ?_) (fun hc3 => ?_)
       · refine AW.region ?_; refine awR (op_load_ptr rfl rfl rfl rfl ag26 sz26 (Nat.le_of_ble_eq_true rfl) rfl) ?_; (simp only [nA, Nat.reduceBEq, Nat.reduceEqDiff, ↓reduceIte, Nat.reduceAdd, Nat.reduceSub]); refine awJ (op_store rfl rfl rfl rfl rfl rfl sz26 rfl (Nat.le_of_ble_eq_true rfl) rfl) ?_; (simp only [nA, Nat.reduceBEq, Nat.reduceEqDiff, ↓reduceIte, Nat.reduceAdd, Nat.reduceSub]); refine AWL.nil ?_; (simp only [thenE, inBlk, Nat.reduceEqDiff, ↓reduceIte]); (refine hK _ ?_; clear hK K; (skip)); refine AW.region ?_; refine awP (op_move rfl rfl) ?_; (simp only [nA, Nat.reduceBEq, Nat.reduceEqDiff, ↓reduceIte, Nat.reduceAdd, Nat.reduceSub]); refine awP (op_subi rfl rfl rfl (by omega)) ?_; (simp only [nA, Nat.reduceBEq, Nat.reduceEqDiff, ↓reduceIte, Nat.reduceAdd, Nat.reduceSub]); refine awP (op_assign rfl rfl) ?_; (simp only [nA, Nat.reduceBEq, Nat.reduceEqDiff, ↓reduceIte, Nat.reduceAdd, Nat.reduceSub]); refine AWL.gh (Gh.drop 3) ?_; (simp only [nA, Nat.reduceBEq, Nat.reduceEqDiff, ↓reduceIte, Nat.reduceAdd, Nat.reduceSub]); refine AWL.nil ?_; have hS : stepV l h k = (rawN l (rawN l (scanV l h k).1), (scanR h (1 + gmod (rawV l (scanV l h k).1) 2) (scanV l h k).2.1 (scanV l h k).2.2 (h.last + gmod (rawV l (rawN l (scanV l h k).1)) 3)).1) := (by unfold stepV; dsimp only; rw [if_pos (by simpa using hc3)]); have hD := hI.2.2.1.step (l := l) k; have hR2 : devS l g (stepV l h k).1 (stepV l h k).2 = devV l k0 := hR; rw [hS] at hD hR2; refine ⟨(g, _, _, _), ⟨by dsimp only; omega, hD.s, hD, hR2⟩, by dsimp only; omega, ⟨rfl, rfl, rfl, (congrArg (fun z => AV.v (.int .i64 z)) hgz), trivial⟩, (by rfl), (by rfl)⟩
       · refine AW.skip ?_; (simp only [thenE, inBlk, Nat.reduceEqDiff, ↓reduceIte]); (refine hK _ ?_; clear hK K; (skip)); refine AW.region ?_; refine awP (op_move rfl rfl) ?_; (simp only [nA, Nat.reduceBEq, Nat.reduceEqDiff, ↓reduceIte, Nat.reduceAdd, Nat.reduceSub]); refine awP (op_subi rfl rfl rfl (by omega)) ?_; (simp only [nA, Nat.reduceBEq, Nat.reduceEqDiff, ↓reduceIte, Nat.reduceAdd, Nat.reduceSub]); refine awP (op_assign rfl rfl) ?_; (simp only [nA, Nat.reduceBEq, Nat.reduceEqDiff, ↓reduceIte, Nat.reduceAdd, Nat.reduceSub]); refine AWL.gh (Gh.drop 3) ?_; (simp only [nA, Nat.reduceBEq, Nat.reduceEqDiff, ↓reduceIte, Nat.reduceAdd, Nat.reduceSub]); refine AWL.nil ?_; have hS : stepV l h k = (rawN l (rawN l (scanV l h k).1), h) := (by unfold stepV; dsimp only; rw [if_neg (by simpa using hc3)]); have hD := hI.2.2.1.step (l := l) k; have hR2 : devS l g (stepV l h k).1 (stepV l h k).2 = devV l k0 := hR; rw [hS] at hD hR2; refine ⟨(g, _, _, _), ⟨by dsimp only; omega, hD.s, hD, hR2⟩, by dsimp only; omega, ⟨rfl, rfl, rfl, (congrArg (fun z => AV.v (.int .i64 z)) hgz), trivial⟩, (by rfl), (by rfl)⟩
  ·
   have hc2 := hc; have hf0 : f = 0 := (by have h : ¬ (f : Int) > 0 := (by simpa using hc2); omega); subst hf0; have hE : devV l k0 = (k, h) := hI.2.2.2.symm
   refine AW.exit ?_; (simp only [thenE, inBlk, Nat.reduceEqDiff, ↓reduceIte])
   clear hK K
   (refine hK _ ?_; clear hK K; (skip))
   (refine AW.seq_k ?_; intro K hK)
   refine AW.region ?_
   (refine awR (op_load_ptr rfl rfl rfl rfl ag26 sz26 (Nat.le_of_ble_eq_true rfl) rfl) ?_)
   refine awJ (op_store rfl rfl rfl rfl rfl rfl sz26 rfl (Nat.le_of_ble_eq_true rfl) rfl) ?_; (simp only [nA, Nat.reduceBEq, Nat.reduceEqDiff, ↓reduceIte, Nat.reduceAdd, Nat.reduceSub])
   refine AWL.nil ?_
   (refine hK _ ?_; clear hK K; (skip))
   skip
   refine AW.ret ?_; rw [hE]; exact RQ.of (.inl rfl) rfl (.cell (Nat.le_of_ble_eq_true rfl) rfl rfl rfl ag26 sz26 (Nat.le_of_ble_eq_true rfl) rfl rfl .nil) (by simp) rfl (one_out rfl)
end Go.Proofs.Ytdnofpggdddimaa
namespace Go.Proofs.Ytdnofpggdddimaa
open Go.RowKit
set_option linter.unusedSimpArgs false
set_option linter.unusedVariables false
set_option maxRecDepth 100000
theorem scan_intro {h : Hand} {k : Int} {p : Piece} {n t : Int} (hv : valH h = 0) (hk : k = 1 ∨ k = 2) (hp : piB p = true) (hn : inB n 1 999 = true) (ht : inB t 0 1048576 = true) (hl : h.last ≤ t) (hx : h.next ≠ 1048576) (hg : h.offline = true → (h.log.length : Int) ≠ 60) (hu : h.offline = true → k = 2) : scanE h k p n t = 0 := by
  unfold scanE
  rw [if_neg (by rw [hv]; decide), if_neg (by rcases hk with rfl | rfl <;> decide), if_neg (by rw [hp, hn, ht]; decide), if_neg (by omega), if_neg, if_neg]
  · cases ho : h.offline with
    | false => simp
    | true => rw [hu ho]; decide
  · cases ho : h.offline with
    | false => simp [hx]
    | true => have := hg ho; simp [hx]; omega
/-- How far a device has come. -/
structure DevN (n : Int) (h : Hand) : Prop where
  x : h.next ≤ n
  g : (h.log.length : Int) ≤ n
  l : h.last ≤ 4 * n
theorem DevN.mono {n m : Int} {h : Hand} (hd : DevN n h) (hm : n ≤ m) : DevN m h := ⟨by have := hd.x; omega, by have := hd.g; omega, by have := hd.l; omega⟩
theorem DevN.scan {n : Int} {h : Hand} (hd : DevN n h) {k : Int} {p : Piece} {c t : Int} (ht : t ≤ h.last + 4) : DevN (n + 1) (scanH h k p c t) := by
  have h1 := hd.x; have h2 := hd.g; have h3 := hd.l
  refine ⟨by show h.next + 1 ≤ n + 1; omega, ?_, by show t ≤ 4 * (n + 1); omega⟩
  unfold scanH
  dsimp only
  split
  · rw [List.length_append]; simp only [List.length_cons, List.length_nil]; omega
  · omega
theorem DevN.step {l : List Int} {n : Int} {h : Hand} (hd : DevN n h) (k : Nat) : DevN (n + 1) (stepV l h k).2 := by
  have hk3 := gmod_bd (x := rawV l (rawN l (scanV l h k).1)) (n := 3) (by decide)
  unfold stepV
  dsimp only
  split
  · rename_i h0
    obtain ⟨_, h1, _⟩ := scanR_0 h0
    rw [h1]
    exact hd.scan (by omega)
  · exact hd.mono (by omega)
theorem DevN.devS {l : List Int} : ∀ (f k : Nat) {n : Int} {h : Hand}, DevN n h → DevN (n + f) (devS l f k h).2
  | 0, _, n, _, hd => hd.mono (by omega)
  | f + 1, k, n, _, hd => (DevN.devS f _ (hd.step k)).mono (by omega)
theorem devA_N (l : List Int) (k : Nat) : DevN 5 (devA l k).2 := by
  have h5 := gmod_bd (x := rawV l (rawN l k)) (n := 5) (by decide)
  have hI := devA_I l k
  have hx : dvX l k ≤ 5 := by unfold dvX; omega
  unfold devA
  split
  · unfold offR offH
    dsimp only
    split
    · exact ⟨hx, by show ((0 : Nat) : Int) ≤ 5; decide, by show (0 : Int) ≤ 4 * 5; decide⟩
    · exact ⟨by show (0 : Int) ≤ 5; decide, by show ((0 : Nat) : Int) ≤ 5; decide, by show (0 : Int) ≤ 4 * 5; decide⟩
  · exact ⟨hx, by show ((0 : Nat) : Int) ≤ 5; decide, by show (0 : Int) ≤ 4 * 5; decide⟩
theorem devV_N (l : List Int) (k : Nat) : DevN 13 (devV l k).2 := by
  have h8 := gmod_bd (x := rawV l (devA l k).1) (n := 8) (by decide)
  exact (DevN.devS (gmod (rawV l (devA l k).1) 8).toNat _ (devA_N l k)).mono (by omega)
end Go.Proofs.Ytdnofpggdddimaa
namespace Go.Proofs.Ytdnofpggdddimaa
open Go.RowKit
set_option linter.unusedSimpArgs false
set_option linter.unusedVariables false
set_option maxRecDepth 100000
theorem C5 {l : List Int} {la : Int} : Fn Try.prog 5 [] [.ro (l.map iv), .v (.int .i64 la)] [.v (.bool true)] [] := by
  refine Spec.body Try.func5 rfl Try.ntmps5 (by simp) rfl ?_; intro S0 own0 v0 w0
  (refine AW.seq_k ?_; intro K hK)
  refine AW.region ?_
  refine awP (op_assign rfl rfl) ?_
  refine AWL.nil ?_
  (refine hK _ ?_; clear hK K; (simp only [nA, Nat.reduceBEq, Nat.reduceEqDiff, ↓reduceIte, Nat.reduceAdd, Nat.reduceSub]))
  (refine AW.seq_k ?_; intro K hK)
  refine AW.region ?_
  refine awP (op_move rfl rfl) ?_
  refine awJ (op_callB rfl en11 (C11) (RL.cons (by exact View.same rfl) (RL.nil))) ?_; (simp only [nA, Nat.reduceBEq, Nat.reduceEqDiff, ↓reduceIte, Nat.reduceAdd, Nat.reduceSub])
  refine awP (op_assign rfl rfl) ?_
  refine AWL.nil ?_
  (refine hK _ ?_; clear hK K; (simp only [nA, Nat.reduceBEq, Nat.reduceEqDiff, ↓reduceIte, Nat.reduceAdd, Nat.reduceSub]))
  (refine AW.seq_k ?_; intro K hK)
  refine AW.region ?_
  refine awP (op_move rfl rfl) ?_
  refine awJ (op_call1 rfl en16 (C16 (l := (l.take 2000)) (k0 := 0) (hl20 l)) (by exact rfl) (RL.cons .ptr (RL.nil)) (by exact ⟨_, _, _, rfl, rfl, rfl⟩) (by exact rfl) (by exact rfl) (by exact rfl)) ?_; (simp only [nA, Nat.reduceBEq, Nat.reduceEqDiff, ↓reduceIte, Nat.reduceAdd, Nat.reduceSub])
  refine awJ (op_alloc rfl ze26 rfl) ?_; (simp only [nA, Nat.reduceBEq, Nat.reduceEqDiff, ↓reduceIte, Nat.reduceAdd, Nat.reduceSub])
  refine awJ (op_store rfl rfl rfl rfl rfl rfl sz26 rfl (Nat.le_of_ble_eq_true rfl) rfl) ?_; (simp only [nA, Nat.reduceBEq, Nat.reduceEqDiff, ↓reduceIte, Nat.reduceAdd, Nat.reduceSub])
  refine AWL.nil ?_
  (refine hK _ ?_; clear hK K; (skip))
  (refine AW.seq_k ?_; intro K hK)
  (refine AW.seq_k ?_; intro K hK)
  refine AW.region ?_
  refine awP (op_assign rfl rfl) ?_
  refine AWL.nil ?_
  (refine hK _ ?_; clear hK K; (simp only [nA, Nat.reduceBEq, Nat.reduceEqDiff, ↓reduceIte, Nat.reduceAdd, Nat.reduceSub]))
  refine AW.block ?_
  refine AW.loopI (fun (q : Nat × Nat × Hand × Nat) => [(1, .v (.int .i64 la)), (5, .ptr 0 1 0 0), (6, .ptr 1 2 0 0), (7, .v (.int .i64 (q.1 : Nat)))]) (fun q => ⟨[(1, .own 81 [srcRow (l.take 2000) q.2.1]), (2, .own 26 [q.2.2.1.av])], q.2.2.2⟩) (fun q => q.1 ≤ 10 ∧ DevI q.2.2.1 ∧ (q.1 ≤ 9 → DevN (13 + (q.1 : Nat)) q.2.2.1)) (fun q => 10 - q.1) (0, ((devV (l.take 2000) 0)).1, ((devV (l.take 2000) 0)).2, _) ⟨by show (0 : Nat) ≤ 10; decide, devV_I _ _, fun _ => devV_N _ _⟩ ⟨rfl, rfl, rfl, rfl, trivial⟩ rfl ?_; rintro ⟨i, k, h, ep⟩ ρ hI; dsimp only at hI ⊢; simp only [updL]
  (refine AW.seq_k ?_; intro K hK)
  (refine AW.seq_k ?_; intro K hK)
  refine AW.region ?_
  refine awP (op_move rfl rfl) ?_
  refine awP (op_lss rfl rfl rfl) ?_
  refine AWL.nil ?_
  (refine hK _ ?_; clear hK K; (simp only [nA, Nat.reduceBEq, Nat.reduceEqDiff, ↓reduceIte, Nat.reduceAdd, Nat.reduceSub]))
  refine AW.cond rfl rfl rfl (fun hc => ?_) (fun hc => ?_)
  ·
   have hc1 := hc; have hlt : i < 10 := (by have h : (i : Int) < 10 := (by simpa using hc1); omega); have hD := hI.2.1; have hN := hI.2.2 (by omega); have hl0 := hD.l0; have hl1 := hD.l1; have hl2 := hN.l; have hnx := hN.x; have hng := hN.g; have hscan : ∀ (kd n t : Int) (L : List Int) (k : Nat), (kd = 1 ∨ kd = 2) → (h.offline = true → kd = 2) → 1 ≤ n → n ≤ 999 → h.last ≤ t → t ≤ 1048576 → scanE h kd (pieceV L k 30) n t = 0 := (fun kd n t L k h1 h2 h3 h4 h5 h6 => scan_intro hD.v h1 (piece_ok L k) (by unfold inB; simp; omega) (by unfold inB; simp; omega) h5 (by omega) (fun _ => by omega) h2)
   refine AW.skip ?_
   (refine hK _ ?_; clear hK K; (skip))
   (refine AW.seq_k ?_; intro K hK)
   refine AW.block ?_
   (refine AW.seq_k ?_; intro K hK)
   refine AW.region ?_
   refine awP (op_assign rfl rfl) ?_
   refine AWL.nil ?_
   (refine hK _ ?_; clear hK K; (simp only [nA, Nat.reduceBEq, Nat.reduceEqDiff, ↓reduceIte, Nat.reduceAdd, Nat.reduceSub]))
   refine AW.joinG (fun (q : Int × Nat × Nat) => [(1, .v (.int .i64 la)), (5, .ptr 0 1 0 0), (6, .ptr 1 2 0 0), (7, .v (.int .i64 (i : Nat))), (8, .v (.int .i64 q.1))]) (fun q => ⟨[(1, .own 81 [srcRow (l.take 2000) q.2.1]), (2, .own 26 [h.av])], q.2.2⟩) (fun q => (q.1 = 1 ∨ q.1 = 2) ∧ (h.offline = true → q.1 = 2)) ?_ ?_
   ·
    (refine AW.seq_k ?_; intro K hK)
    refine AW.region ?_
    (refine awP (op_fa_ptr rfl rfl rfl fl26_3 (by exact sz4) (by decide) rfl) ?_)
    (refine awR (op_load_ptr1 rfl rfl rfl rfl ag4 rfl rfl) ?_)
    refine awP (op_not rfl rfl rfl) ?_
    refine AWL.nil ?_
    (refine hK _ ?_; clear hK K; (simp only [nA, Nat.reduceBEq, Nat.reduceEqDiff, ↓reduceIte, Nat.reduceAdd, Nat.reduceSub]))
    refine AW.cond rfl rfl rfl (fun hc => ?_) (fun hc => ?_)
    ·
     have hc2 := hc; have hg2 := gmod_bd (x := rawV (l.take 2000) k) (n := 2) (by decide)
     refine AW.region ?_
     refine awP (op_move rfl rfl) ?_
     refine awJ (op_call1 rfl en12 (C12 (n := 2) (hl20 l) (by decide)) (by exact rfl) (RL.cons .ptr (RL.cons (.base (by exact View.same rfl)) (RL.nil))) (by exact ⟨_, _, _, rfl, rfl, rfl⟩) (by exact rfl) (by exact rfl) (by exact rfl)) ?_; (simp only [nA, Nat.reduceBEq, Nat.reduceEqDiff, ↓reduceIte, Nat.reduceAdd, Nat.reduceSub])
     (refine awP (op_addi rfl rfl rfl (by omega)) ?_)
     refine awP (op_assign rfl rfl) ?_
     refine AWL.nil ?_
     exact ⟨_, Gh.refl, (_, _, _), ⟨by dsimp only; omega, fun ho => by rw [ho] at hc2; cases hc2⟩, ⟨rfl, rfl, rfl, rfl, rfl, trivial⟩, rfl, rfl⟩
    ·
     have hc2 := hc; skip
     refine AW.skip ?_
     exact ⟨_, Gh.refl, (2, _, _), ⟨.inr rfl, fun _ => rfl⟩, ⟨rfl, rfl, rfl, rfl, rfl, trivial⟩, rfl, rfl⟩
   rintro ⟨kd, k1, e1⟩ ρ hQ; dsimp only at hQ ⊢; simp only [updL]; have hg4 := gmod_bd (x := rawV (l.take 2000) (rawN (l.take 2000) (rawN (l.take 2000) (rawN (l.take 2000) k1)))) (n := 4) (by decide)
   refine AW.joinG (fun (e : Nat) => [(1, .v (.int .i64 la)), (5, .ptr 0 1 0 0), (6, .ptr 1 2 0 0), (7, .v (.int .i64 (i : Nat))), (8, .v (.int .i64 kd)), (9, .ptr 2 e1 0 0), (10, .v (.int .i64 (h.last + gmod (rawV (l.take 2000) (rawN (l.take 2000) (rawN (l.take 2000) (rawN (l.take 2000) k1)))) 4)))]) (fun e => ⟨[(1, .own 81 [srcRow (l.take 2000) (rawN (l.take 2000) (rawN (l.take 2000) (rawN (l.take 2000) (rawN (l.take 2000) k1))))]), (2, .own 26 [h.av]), (e1, .own 31 [((pieceV (l.take 2000) k1 30)).av])], e⟩) (fun _ => True) ?_ ?_
   · refine AW.ado (fun T' => T'.slots[1]? = some (2, .own 26 [h.av])) mix rfl ?_
     refine adPo 0 rfl (fun T' ok => op_move rfl rfl) rfl (by kernel_rfl) (by kernel_rfl) ?_; (simp only [nA, Nat.reduceBEq, Nat.reduceEqDiff, ↓reduceIte, Nat.reduceAdd, Nat.reduceSub])
     refine adPo 2 rfl (fun T' ok => op_fa_ptr rfl rfl ok fl26_2 (by exact sz3) (by decide) rfl) rfl (by kernel_rfl) (by kernel_rfl) ?_; (simp only [nA, Nat.reduceBEq, Nat.reduceEqDiff, ↓reduceIte, Nat.reduceAdd, Nat.reduceSub])
     refine adRo 3 rfl (fun T' ok => op_load_ptr1 rfl rfl ok rfl ag3 rfl rfl) rfl (by kernel_rfl) (by kernel_rfl) ?_; (simp only [nA, Nat.reduceBEq, Nat.reduceEqDiff, ↓reduceIte, Nat.reduceAdd, Nat.reduceSub])
     refine adPo 4 rfl (fun T' ok => op_move rfl rfl) rfl (by kernel_rfl) (by kernel_rfl) ?_; (simp only [nA, Nat.reduceBEq, Nat.reduceEqDiff, ↓reduceIte, Nat.reduceAdd, Nat.reduceSub])
     refine adJ2o 1 7 rfl rfl (op_call1 rfl en23 (C23 (n := 30) (hl20 l) (by decide)) (by exact rfl) (RL.cons .ptr (RL.cons (.base (by exact View.same rfl)) (RL.nil))) (by exact ⟨_, _, _, rfl, rfl, rfl⟩) (by exact rfl) (by exact rfl) (by exact rfl)) (op_alloc rfl ze31 rfl) (by kernel_rfl) rfl rfl ?_ ?_
     · (simp only [nA, Nat.reduceBEq, Nat.reduceEqDiff, ↓reduceIte, Nat.reduceAdd, Nat.reduceSub]); refine adJ2o 5 7 rfl rfl (op_call1 rfl en12 (C12 (n := 4) (hl20 l) (by decide)) (by exact rfl) (RL.cons .ptr (RL.cons (.base (by exact View.same rfl)) (RL.nil))) (by exact ⟨_, _, _, rfl, rfl, rfl⟩) (by exact rfl) (by exact rfl) (by exact rfl)) (op_alloc rfl ze31 rfl) (by kernel_rfl) rfl rfl ?_ ?_
       · (simp only [nA, Nat.reduceBEq, Nat.reduceEqDiff, ↓reduceIte, Nat.reduceAdd, Nat.reduceSub]); refine adPo 6 rfl (fun T' ok => op_addi rfl rfl rfl (by omega)) rfl (by kernel_rfl) (by kernel_rfl) ?_; (simp only [nA, Nat.reduceBEq, Nat.reduceEqDiff, ↓reduceIte, Nat.reduceAdd, Nat.reduceSub])
         refine adJo 7 rfl (op_alloc rfl ze31 rfl) (by kernel_rfl) rfl ?_; (simp only [nA, Nat.reduceBEq, Nat.reduceEqDiff, ↓reduceIte, Nat.reduceAdd, Nat.reduceSub])
         refine adJo 8 rfl (op_store rfl rfl rfl rfl rfl rfl sz31 rfl (Nat.le_of_ble_eq_true rfl) rfl) (by kernel_rfl) rfl ?_; (simp only [nA, Nat.reduceBEq, Nat.reduceEqDiff, ↓reduceIte, Nat.reduceAdd, Nat.reduceSub]); refine adPo 9 rfl (fun T' ok => op_assign rfl rfl) rfl (by kernel_rfl) (by kernel_rfl) ?_; (simp only [nA, Nat.reduceBEq, Nat.reduceEqDiff, ↓reduceIte, Nat.reduceAdd, Nat.reduceSub]); refine adDoneo (by kernel_rfl) ?_; exact ⟨_, Gh.refl, _, trivial, ⟨rfl, rfl, rfl, rfl, rfl, rfl, rfl, trivial⟩, rfl, rfl⟩
       · (simp only [nA, Nat.reduceBEq, Nat.reduceEqDiff, ↓reduceIte, Nat.reduceAdd, Nat.reduceSub]); refine adJo 5 rfl (op_call1 rfl en12 (C12 (n := 4) (hl20 l) (by decide)) (by exact rfl) (RL.cons .ptr (RL.cons (.base (by exact View.same rfl)) (RL.nil))) (by exact ⟨_, _, _, rfl, rfl, rfl⟩) (by exact rfl) (by exact rfl) (by exact rfl)) (by kernel_rfl) rfl ?_; (simp only [nA, Nat.reduceBEq, Nat.reduceEqDiff, ↓reduceIte, Nat.reduceAdd, Nat.reduceSub])
         refine adPo 6 rfl (fun T' ok => op_addi rfl rfl rfl (by omega)) rfl (by kernel_rfl) (by kernel_rfl) ?_; (simp only [nA, Nat.reduceBEq, Nat.reduceEqDiff, ↓reduceIte, Nat.reduceAdd, Nat.reduceSub])
         refine adJo 8 rfl (op_store rfl rfl rfl rfl rfl rfl sz31 rfl (Nat.le_of_ble_eq_true rfl) rfl) (by kernel_rfl) rfl ?_; (simp only [nA, Nat.reduceBEq, Nat.reduceEqDiff, ↓reduceIte, Nat.reduceAdd, Nat.reduceSub]); refine adPo 9 rfl (fun T' ok => op_assign rfl rfl) rfl (by kernel_rfl) (by kernel_rfl) ?_; (simp only [nA, Nat.reduceBEq, Nat.reduceEqDiff, ↓reduceIte, Nat.reduceAdd, Nat.reduceSub]); refine adDoneo (by kernel_rfl) ?_; exact ⟨_, Gh.refl, _, trivial, ⟨rfl, rfl, rfl, rfl, rfl, rfl, rfl, trivial⟩, rfl, rfl⟩
     · (simp only [nA, Nat.reduceBEq, Nat.reduceEqDiff, ↓reduceIte, Nat.reduceAdd, Nat.reduceSub]); refine adJo 1 rfl (op_call1 rfl en23 (C23 (n := 30) (hl20 l) (by decide)) (by exact rfl) (RL.cons .ptr (RL.cons (.base (by exact View.same rfl)) (RL.nil))) (by exact ⟨_, _, _, rfl, rfl, rfl⟩) (by exact rfl) (by exact rfl) (by exact rfl)) (by kernel_rfl) rfl ?_; (simp only [nA, Nat.reduceBEq, Nat.reduceEqDiff, ↓reduceIte, Nat.reduceAdd, Nat.reduceSub])
       refine adJo 5 rfl (op_call1 rfl en12 (C12 (n := 4) (hl20 l) (by decide)) (by exact rfl) (RL.cons .ptr (RL.cons (.base (by exact View.same rfl)) (RL.nil))) (by exact ⟨_, _, _, rfl, rfl, rfl⟩) (by exact rfl) (by exact rfl) (by exact rfl)) (by kernel_rfl) rfl ?_; (simp only [nA, Nat.reduceBEq, Nat.reduceEqDiff, ↓reduceIte, Nat.reduceAdd, Nat.reduceSub])
       refine adPo 6 rfl (fun T' ok => op_addi rfl rfl rfl (by omega)) rfl (by kernel_rfl) (by kernel_rfl) ?_; (simp only [nA, Nat.reduceBEq, Nat.reduceEqDiff, ↓reduceIte, Nat.reduceAdd, Nat.reduceSub])
       refine adJo 8 rfl (op_store rfl rfl rfl rfl rfl rfl sz31 rfl (Nat.le_of_ble_eq_true rfl) rfl) (by kernel_rfl) rfl ?_; (simp only [nA, Nat.reduceBEq, Nat.reduceEqDiff, ↓reduceIte, Nat.reduceAdd, Nat.reduceSub]); refine adPo 9 rfl (fun T' ok => op_assign rfl rfl) rfl (by kernel_rfl) (by kernel_rfl) ?_; (simp only [nA, Nat.reduceBEq, Nat.reduceEqDiff, ↓reduceIte, Nat.reduceAdd, Nat.reduceSub]); refine adDoneo (by kernel_rfl) ?_; exact ⟨_, Gh.refl, _, trivial, ⟨rfl, rfl, rfl, rfl, rfl, rfl, rfl, trivial⟩, rfl, rfl⟩
   intro e2 ρ _; simp only [updL]
   refine AW.joinG (fun (t : Int) => [(1, .v (.int .i64 la)), (5, .ptr 0 1 0 0), (6, .ptr 1 2 0 0), (7, .v (.int .i64 (i : Nat))), (8, .v (.int .i64 kd)), (9, .ptr 2 e1 0 0), (10, .v (.int .i64 t))]) (fun _ => ⟨[(1, .own 81 [srcRow (l.take 2000) (rawN (l.take 2000) (rawN (l.take 2000) (rawN (l.take 2000) (rawN (l.take 2000) k1))))]), (2, .own 26 [h.av]), (e1, .own 31 [((pieceV (l.take 2000) k1 30)).av])], e2⟩) (fun t => h.last ≤ t ∧ t ≤ 1048576 ∧ (i ≤ 8 → t ≤ h.last + 4)) ?_ ?_
   ·
    (refine AW.seq_k ?_; intro K hK)
    refine AW.region ?_
    refine awP (op_move rfl rfl) ?_
    (refine awP (op_eql rfl rfl rfl) ?_)
    refine AWL.nil ?_
    (refine hK _ ?_; clear hK K; (simp only [nA, Nat.reduceBEq, Nat.reduceEqDiff, ↓reduceIte, Nat.reduceAdd, Nat.reduceSub]))
    refine AW.cond rfl rfl rfl (fun hc => ?_) (fun hc => ?_)
    ·
     have hc3 := hc; skip
     refine AW.region ?_
     (refine awP (op_fa_ptr rfl rfl rfl fl26_2 (by exact sz3) (by decide) rfl) ?_)
     (refine awR (op_load_ptr1 rfl rfl rfl rfl ag3 rfl rfl) ?_)
     refine awP (op_move rfl rfl) ?_
     refine awP (op_min rfl rfl rfl rfl) ?_
     refine awP (op_max rfl rfl rfl rfl) ?_
     refine awP (op_assign rfl rfl) ?_
     refine AWL.nil ?_
     have h9 : i = 9 := (by have : (i : Int) = 9 := (by simpa using hc3); omega); exact ⟨_, Gh.refl, _, ⟨by omega, by omega, fun h => by omega⟩, ⟨rfl, rfl, rfl, rfl, rfl, rfl, rfl, trivial⟩, rfl, rfl⟩
    ·
     have hc3 := hc; skip
     refine AW.skip ?_
     have h9 : i ≠ 9 := (by have : ¬ (i : Int) = 9 := (by simpa using hc3); omega); have h8 := hN.l; exact ⟨_, Gh.refl, _, ⟨by omega, by omega, fun h => by omega⟩, ⟨rfl, rfl, rfl, rfl, rfl, rfl, rfl, trivial⟩, rfl, rfl⟩
   intro t ρ hT; simp only [updL]; have hgn := gmod_bd (x := rawV (l.take 2000) (rawN (l.take 2000) (rawN (l.take 2000) (rawN (l.take 2000) (rawN (l.take 2000) k1))))) (n := 999) (by decide); have hE : scanE h kd (pieceV (l.take 2000) k1 30) (1 + gmod (rawV (l.take 2000) (rawN (l.take 2000) (rawN (l.take 2000) (rawN (l.take 2000) (rawN (l.take 2000) k1))))) 999) t = 0 := hscan kd (1 + gmod (rawV (l.take 2000) (rawN (l.take 2000) (rawN (l.take 2000) (rawN (l.take 2000) (rawN (l.take 2000) k1))))) 999) t (l.take 2000) k1 hQ.1 hQ.2 (by omega) (by omega) hT.1 hT.2.1; have hS : scanR h kd (pieceV (l.take 2000) k1 30) (1 + gmod (rawV (l.take 2000) (rawN (l.take 2000) (rawN (l.take 2000) (rawN (l.take 2000) (rawN (l.take 2000) k1))))) 999) t = (scanH h kd (pieceV (l.take 2000) k1 30) (1 + gmod (rawV (l.take 2000) (rawN (l.take 2000) (rawN (l.take 2000) (rawN (l.take 2000) (rawN (l.take 2000) k1))))) 999) t, newOp h kd (pieceV (l.take 2000) k1 30) (1 + gmod (rawV (l.take 2000) (rawN (l.take 2000) (rawN (l.take 2000) (rawN (l.take 2000) (rawN (l.take 2000) k1))))) 999) t, 0) := (by unfold scanR; rw [if_pos hE]); have hC26 : Fn Try.prog 26 [] [.agg h.av, .v (.int .i64 kd), .agg ((pieceV (l.take 2000) k1 30)).av, .v (.int .i64 (1 + gmod (rawV (l.take 2000) (rawN (l.take 2000) (rawN (l.take 2000) (rawN (l.take 2000) (rawN (l.take 2000) k1))))) 999)), .v (.int .i64 t)] [.agg (scanH h kd (pieceV (l.take 2000) k1 30) (1 + gmod (rawV (l.take 2000) (rawN (l.take 2000) (rawN (l.take 2000) (rawN (l.take 2000) (rawN (l.take 2000) k1))))) 999) t).av, .agg (newOp h kd (pieceV (l.take 2000) k1 30) (1 + gmod (rawV (l.take 2000) (rawN (l.take 2000) (rawN (l.take 2000) (rawN (l.take 2000) (rawN (l.take 2000) k1))))) 999) t).av, .v (.int .i64 0)] [] := (by have := C26 (h := h) (k := kd) (p := (pieceV (l.take 2000) k1 30)) (n := (1 + gmod (rawV (l.take 2000) (rawN (l.take 2000) (rawN (l.take 2000) (rawN (l.take 2000) (rawN (l.take 2000) k1))))) 999)) (t := t) hI.2.1.s; rwa [hS] at this)
   (refine AW.seq_k ?_; intro K hK)
   refine AW.region ?_
   refine awP (op_move rfl rfl) ?_
   refine awJ (op_call1 rfl en12 (C12 (n := 999) (hl20 l) (by decide)) (by exact rfl) (RL.cons .ptr (RL.cons (.base (by exact View.same rfl)) (RL.nil))) (by exact ⟨_, _, _, rfl, rfl, rfl⟩) (by exact rfl) (by exact rfl) (by exact rfl)) ?_; (simp only [nA, Nat.reduceBEq, Nat.reduceEqDiff, ↓reduceIte, Nat.reduceAdd, Nat.reduceSub])
   (refine awP (op_addi rfl rfl rfl (by omega)) ?_)
   refine awP (op_assign rfl rfl) ?_
   refine AWL.nil ?_
   (refine hK _ ?_; clear hK K; (simp only [nA, Nat.reduceBEq, Nat.reduceEqDiff, ↓reduceIte, Nat.reduceAdd, Nat.reduceSub]))
   (refine AW.seq_k ?_; intro K hK)
   refine AW.region ?_
   (refine awR (op_load_ptr rfl rfl rfl rfl ag26 sz26 (Nat.le_of_ble_eq_true rfl) rfl) ?_)
   refine awP (op_move rfl rfl) ?_
   (refine awR (op_load_ptr rfl rfl rfl rfl ag31 sz31 (Nat.le_of_ble_eq_true rfl) rfl) ?_)
   refine awP (op_move rfl rfl) ?_
   refine awP (op_move rfl rfl) ?_
   refine awJ (op_call (b := false) rfl en26 (hC26) (RL.cons (by exact View.same rfl) (RL.cons (by exact View.same rfl) (RL.cons (by exact View.same rfl) (RL.cons (by exact View.same rfl) (RL.cons (by exact View.same rfl) (RL.nil)))))) rfl (fun h => by cases h) rfl rfl) ?_; (simp only [nA, Nat.reduceBEq, Nat.reduceEqDiff, ↓reduceIte, Nat.reduceAdd, Nat.reduceSub])
   refine awP (op_move rfl rfl) ?_
   refine awP (op_extract rfl rfl rfl) ?_
   refine awP (op_extract rfl rfl rfl) ?_
   refine awP (op_extract rfl rfl rfl) ?_
   refine awJ (op_alloc rfl ze26 rfl) ?_; (simp only [nA, Nat.reduceBEq, Nat.reduceEqDiff, ↓reduceIte, Nat.reduceAdd, Nat.reduceSub])
   refine awJ (op_alloc rfl ze33 rfl) ?_; (simp only [nA, Nat.reduceBEq, Nat.reduceEqDiff, ↓reduceIte, Nat.reduceAdd, Nat.reduceSub])
   refine awJ (op_store rfl rfl rfl rfl rfl rfl sz26 rfl (Nat.le_of_ble_eq_true rfl) rfl) ?_; (simp only [nA, Nat.reduceBEq, Nat.reduceEqDiff, ↓reduceIte, Nat.reduceAdd, Nat.reduceSub])
   refine awJ (op_store rfl rfl rfl rfl rfl rfl sz33 rfl (Nat.le_of_ble_eq_true rfl) rfl) ?_; (simp only [nA, Nat.reduceBEq, Nat.reduceEqDiff, ↓reduceIte, Nat.reduceAdd, Nat.reduceSub])
   refine awP (op_assign rfl rfl) ?_
   refine AWL.nil ?_
   (refine hK _ ?_; clear hK K; (simp only [nA, Nat.reduceBEq, Nat.reduceEqDiff, ↓reduceIte, Nat.reduceAdd, Nat.reduceSub]))
   (refine AW.seq_k ?_; intro K hK)
   (refine AW.seq_k ?_; intro K hK)
   refine AW.region (AWL.quiet ?_)
   refine aqP (op_move rfl rfl) ?_
   (refine aqP (op_neq rfl rfl rfl) ?_)
   refine aqP (op_move rfl rfl) ?_
   refine' aqOr' [_, _, _, _, _, _, _, _, _, _, _] [59,60,61,62,63,64,65,66,67,68,69] rfl rfl rfl rfl rfl rfl rfl rfl rfl rfl rfl rfl (fun hb => ?_) ?_; rotate_left
   ·
    (try simp only [hcS] at hb)
    (refine aqR (op_load_ptr rfl rfl rfl rfl ag33 sz33 (Nat.le_of_ble_eq_true rfl) rfl) ?_)
    refine aqP (op_move rfl rfl) ?_
    (refine aqP (op_fa_ptr rfl rfl rfl fl26_0 (by exact sz3) (by decide) rfl) ?_)
    (refine aqR (op_load_ptr1 rfl rfl rfl rfl ag3 rfl rfl) ?_)
    (refine aqP (op_fa_ptr rfl rfl rfl fl26_1 (by exact sz3) (by decide) rfl) ?_)
    (refine aqR (op_load_ptr1 rfl rfl rfl rfl ag3 rfl rfl) ?_)
    refine aqP (op_move rfl rfl) ?_
    refine aqP (op_move rfl rfl) ?_
    (refine aqR (op_load_ptr rfl rfl rfl rfl ag31 sz31 (Nat.le_of_ble_eq_true rfl) rfl) ?_)
    refine aqP (op_build2 (xs := [_, _, _, _, _, _, _, _, _, _]) rfl pl33 ze33 [(0, [_]), (1, [_]), (2, [_]), (3, [_]), (4, [_]), (5, [_, _, _, _, _])] rfl rfl rfl) ?_
    refine aqP (op_neq33 (p := newOp h kd (pieceV (l.take 2000) k1 30) (1 + gmod (rawV (l.take 2000) (rawN (l.take 2000) (rawN (l.take 2000) (rawN (l.take 2000) (rawN (l.take 2000) k1))))) 999) t) (q := newOp h kd (pieceV (l.take 2000) k1 30) (1 + gmod (rawV (l.take 2000) (rawN (l.take 2000) (rawN (l.take 2000) (rawN (l.take 2000) (rawN (l.take 2000) k1))))) 999) t) rfl rfl rfl) ?_; (simp only [nA, Nat.reduceBEq, Nat.reduceEqDiff, ↓reduceIte, Nat.reduceAdd, Nat.reduceSub])
    (refine aqSeg rfl rfl rfl ?_; repeat (first | exact fun _ _ => rfl | refine upd_out rfl ?_))
   (simp only [nA, Nat.reduceBEq, Nat.reduceEqDiff, ↓reduceIte, Nat.reduceAdd, Nat.reduceSub])
   refine AQ.nil ?_
   (refine hK _ ?_; clear hK K; (skip))
   refine AW.cond rfl rfl rfl (fun hc => ?_) (fun hc => ?_)
   · simp [opEq_self] at hc
   ·
    have hc4 := hc; skip
    refine AW.skip ?_
    (refine hK _ ?_; clear hK K; (skip))
    refine AW.region ?_
    (refine awR (op_load_ptr rfl rfl rfl rfl ag26 sz26 (Nat.le_of_ble_eq_true rfl) rfl) ?_)
    refine awJ (op_store rfl rfl rfl rfl rfl rfl sz26 rfl (Nat.le_of_ble_eq_true rfl) rfl) ?_; (simp only [nA, Nat.reduceBEq, Nat.reduceEqDiff, ↓reduceIte, Nat.reduceAdd, Nat.reduceSub])
    refine AWL.nil ?_
    (simp only [thenE, inBlk, Nat.reduceEqDiff, ↓reduceIte])
    (refine hK _ ?_; clear hK K; (skip))
    refine AW.region ?_
    refine awP (op_move rfl rfl) ?_
    (refine awP (op_addi rfl rfl rfl (by omega)) ?_)
    refine awP (op_assign rfl rfl) ?_
    refine AWL.gh (Gh.drop 2) ?_; (simp only [nA, Nat.reduceBEq, Nat.reduceEqDiff, ↓reduceIte, Nat.reduceAdd, Nat.reduceSub])
    refine AWL.nil ?_
    refine ⟨(i + 1, _, scanH h kd (pieceV (l.take 2000) k1 30) (1 + gmod (rawV (l.take 2000) (rawN (l.take 2000) (rawN (l.take 2000) (rawN (l.take 2000) (rawN (l.take 2000) k1))))) 999) t, _), ⟨by dsimp only; omega, hD.scan hE, fun h9 => (hN.scan (hT.2.2 (by omega))).mono (by dsimp only; omega)⟩, by dsimp only; omega, ⟨rfl, rfl, rfl, rfl, trivial⟩, (by rfl), (by rfl)⟩
  ·
   have hc1 := hc; skip
   refine AW.exit ?_; (simp only [thenE, inBlk, Nat.reduceEqDiff, ↓reduceIte])
   clear hK K
   (refine hK _ ?_; clear hK K; (skip))
   (refine AW.seq_k ?_; intro K hK)
   refine AW.region ?_
   refine awJ (OpQ.j (op_callQ (b := true) rfl en24 (C24) (RL.nil) rfl)) ?_; (simp only [nA, Nat.reduceBEq, Nat.reduceEqDiff, ↓reduceIte, Nat.reduceAdd, Nat.reduceSub])
   refine awP (op_assign rfl rfl) ?_
   refine AWL.nil ?_
   (refine hK _ ?_; clear hK K; (simp only [nA, Nat.reduceBEq, Nat.reduceEqDiff, ↓reduceIte, Nat.reduceAdd, Nat.reduceSub]))
   skip
   refine AW.ret ?_; exact RQ.of0 rfl (.tmp (Nat.le_of_ble_eq_true rfl) rfl rfl .nil)
end Go.Proofs.Ytdnofpggdddimaa
namespace Go.Proofs.Ytdnofpggdddimaa
open Go.RowKit
set_option linter.unusedSimpArgs false
set_option linter.unusedVariables false
inductive Sh where
  | int (k : IntKind)
  | str
  | bool
  | sl (row : List Sh)
inductive Mt : AV → Sh → Prop
  | int {k : IntKind} {n : Int} (h : (Lit.int k n).wf = true) : Mt (.v (.int k n)) (.int k)
  | str {s : ByteArray} (h : s.size ≤ maxLen) : Mt (.v (.string s)) .str
  | bool {b : Bool} : Mt (.v (.bool b)) .bool
  | sl {row : List Sh} {es : List (List AV)} (hs : es.length ≤ maxLen) (h : ∀ e ∈ es, e.length = row.length) (hc : ∀ e ∈ es, ∀ (i : Nat) (x : AV) (s : Sh), e[i]? = some x → row[i]? = some s → Mt x s) : Mt (.ro es) (.sl row)
theorem Mt.rows {es : List (List AV)} {row : List Sh} (h : Mt (.ro es) (.sl row)) : ∀ e ∈ es, RL Mt e row := by
  cases h with
  | sl hs h hc => exact fun e he => ⟨h e he, hc e he⟩
theorem rows_of {α : Type} {f : α → List AV} : ∀ {es : List (List AV)}, (∀ e ∈ es, ∃ p, e = f p) → ∃ ps : List α, es = ps.map f
  | [], _ => ⟨[], rfl⟩
  | e :: es, h => by
    obtain ⟨p, rfl⟩ := h e (by simp)
    obtain ⟨ps, rfl⟩ := rows_of (es := es) fun e he => h e (by simp [he])
    exact ⟨p :: ps, rfl⟩
def fieldsSh (sh : TypeId → Option (List Sh)) (P : Program) : Nat → List Field → Option (List Sh)
  | _, [] => some []
  | o, f :: fs => if f.offset = o then (sh f.type).bind fun r => if r.length = P.cellsOf f.type then (fieldsSh sh P (o + r.length) fs).map (r ++ ·) else none else none
def copies (r : List Sh) : Nat → List Sh
  | 0 => []
  | n + 1 => r ++ copies r n
def shOf (P : Program) : Nat → TypeId → Option (List Sh)
  | 0, _ => none
  | n + 1, t => match P.underlying t with
    | some (.int k) => some [.int k]
    | some .string => some [.str]
    | some .bool => some [.bool]
    | some (.slice e) => (shOf P n e).map fun r => [.sl r]
    | some (.struct fs) => (fieldsSh (shOf P n) P 0 fs.toList).bind fun r => if r.length = P.cellsOf t then some r else none
    | some (.array k e) => (shOf P n e).bind fun r => if r.length = P.cellsOf e ∧ P.cellsOf t = k * P.cellsOf e then some (copies r k) else none
    | _ => none
theorem RL.cons' {α β : Type} {R : α → β → Prop} {us : List α} {xs : List β} {u : α} (h : RL R (u :: us) xs) : ∃ x xs', xs = x :: xs' ∧ R u x ∧ RL R us xs' := by
  cases xs with
  | nil => have := h.1; simp at this
  | cons x xs => exact ⟨x, xs, rfl, h.2 0 u x rfl rfl, by have := h.1; simpa using this, fun i a b ha hb => h.2 (i + 1) a b (by simpa using ha) (by simpa using hb)⟩
theorem take_split {α : Type} (l : List α) (o m n : Nat) : (l.drop o).take (m + n) = (l.drop o).take m ++ (l.drop (o + m)).take n := by
  rw [List.take_add, List.drop_drop]
theorem flat_idx {α : Type} {sz : Nat} : ∀ {es : List (List α)}, (∀ e ∈ es, e.length = sz) → ∀ {j : Nat}, j < es.flatten.length → ∃ e u, es[j / sz]? = some e ∧ e[j % sz]? = some u ∧ es.flatten[j]? = some u
  | [], _, j, h => by simp at h
  | e :: es, hs, j, h => by
    have he : e.length = sz := hs e (by simp)
    have hs' : ∀ e ∈ es, e.length = sz := fun e he => hs e (by simp [he])
    rw [List.flatten_cons] at h ⊢
    by_cases hj : j < sz
    · rw [List.getElem?_append_left (by omega), Nat.div_eq_of_lt hj, Nat.mod_eq_of_lt hj]
      exact ⟨e, e[j]'(by omega), rfl, List.getElem?_eq_getElem _, List.getElem?_eq_getElem _⟩
    · rw [List.length_append] at h
      obtain ⟨e1, u, h1, h2, h3⟩ := flat_idx hs' (j := j - sz) (by omega)
      have h0 : 0 < sz := by
        rcases Nat.eq_zero_or_pos sz with h0 | h0
        · subst h0
          have : es.flatten = [] := List.flatten_eq_nil_iff.2 fun e he => List.eq_nil_of_length_eq_zero (hs' e he)
          rw [this] at h
          simp at h
          omega
        · exact h0
      rw [List.getElem?_append_right (by omega), he, Nat.div_eq_sub_div h0 (by omega), Nat.mod_eq_sub_mod (by omega)]
      exact ⟨e1, u, by simpa using h1, h2, h3⟩
section
variable {H : Type} {enc : TypeId × Value → H} {P : Program} {w : World} {base : Nat} {spare : Nat → Bool} {held : Bool}
theorem fields_open {S : Nat → Prop} {sh : TypeId → Option (List Sh)} {n : Nat} {cs : List Value} (ih : ∀ t cs x r, sh t = some r → DataW.trod enc P w base spare held n t cs = some x → ∃ xs, RL (Rep P S w []) cs xs ∧ RL Mt xs r) :
    ∀ (fs : List Field) (o : Nat) (r : List Sh), fieldsSh sh P o fs = some r → (∀ f ∈ fs, ∃ y, DataW.trod enc P w base spare held n f.type ((cs.drop f.offset).take (P.cellsOf f.type)) = some y) →
      ∃ xs, RL (Rep P S w []) ((cs.drop o).take r.length) xs ∧ RL Mt xs r
  | [], o, r, h, _ => by
    simp only [fieldsSh, Option.some.injEq] at h
    subst h
    exact ⟨[], by simpa using RL.nil, RL.nil⟩
  | f :: fs, o, r, h, hf => by
    unfold fieldsSh at h
    split at h
    · rename_i ho
      obtain ⟨r1, h1, h2⟩ := Option.bind_eq_some_iff.1 h
      split at h2
      · rename_i hl
        obtain ⟨r2, h3, h4⟩ := Option.map_eq_some_iff.1 h2
        subst h4
        obtain ⟨y, hy⟩ := hf f (by simp)
        obtain ⟨xs1, a1, a2⟩ := ih _ _ _ _ h1 hy
        obtain ⟨xs2, b1, b2⟩ := fields_open ih fs (o + r1.length) r2 h3 fun f hf' => hf f (by simp [hf'])
        refine ⟨xs1 ++ xs2, ?_, a2.append b2⟩
        rw [List.length_append, take_split]
        rw [ho, ← hl] at a1
        exact a1.append b1
      · cases h2
    · cases h
theorem copies_open {S : Nat → Prop} {r : List Sh} {n c : Nat} {e : TypeId} {cs : List Value} (hr : r.length = c) (ih : ∀ cs x, DataW.trod enc P w base spare held n e cs = some x → ∃ xs, RL (Rep P S w []) cs xs ∧ RL Mt xs r) :
    ∀ (m o : Nat), (∀ i, i < m → ∃ y, DataW.trod enc P w base spare held n e ((cs.drop (o + i * c)).take c) = some y) → ∃ xs, RL (Rep P S w []) ((cs.drop o).take (m * c)) xs ∧ RL Mt xs (copies r m)
  | 0, o, _ => ⟨[], by simpa using RL.nil, RL.nil⟩
  | m + 1, o, h => by
    obtain ⟨y, hy⟩ := h 0 (by omega)
    rw [Nat.zero_mul, Nat.add_zero] at hy
    obtain ⟨xs1, a1, a2⟩ := ih _ _ hy
    obtain ⟨xs2, b1, b2⟩ := copies_open hr ih m (o + c) fun i hi => by
      have := h (i + 1) (by omega)
      rw [show o + (i + 1) * c = o + c + i * c by rw [Nat.succ_mul]; omega] at this
      exact this
    refine ⟨xs1 ++ xs2, ?_, a2.append b2⟩
    rw [Nat.succ_mul, Nat.add_comm (m * c) c, take_split]
    exact a1.append b1
theorem Rep.small {S : Nat → Prop} {A : Option Addr} {len c : Nat} {es : List (List AV)} (h : Rep P S w [] (.slice A len c) (.ro es)) : es.length ≤ maxLen := by
  obtain ⟨-, A', c', sz, us, e, h1, h2, -⟩ := h.ro_inv
  exact Nat.le_trans h1 h2
theorem open_sh : ∀ (m fuel : Nat) (t : TypeId) (cs : List Value) (x : DataW H × List MemPlace) (r : List Sh), shOf P m t = some r → DataW.trod enc P w base spare held fuel t cs = some x → ∃ xs, RL (Rep P (fun k => k < w.heap.size) w []) cs xs ∧ RL Mt xs r
  | 0, _, _, _, _, _, h, _ => by simp [shOf] at h
  | m + 1, fuel, t, cs, x, r, h, hx => by
    unfold shOf at h
    split at h
    · rename_i k ht
      injection h with h; subst h
      obtain ⟨n, rfl, _, hw⟩ := DataW.trod_int ht hx
      exact ⟨_, .cons (.v rfl) .nil, .cons (.int hw) .nil⟩
    · rename_i ht
      injection h with h; subst h
      obtain ⟨s, rfl, _, hw⟩ := DataW.trod_string ht hx
      exact ⟨_, .cons (.v rfl) .nil, .cons (.str hw) .nil⟩
    · rename_i ht
      injection h with h; subst h
      obtain ⟨b, rfl, _⟩ := DataW.trod_bool ht hx
      exact ⟨_, .cons (.v rfl) .nil, .cons .bool .nil⟩
    · rename_i e ht
      obtain ⟨row, h1, h2⟩ := Option.map_eq_some_iff.1 h
      subst h2
      rcases Go.Deep.open_slice ht hx with ⟨rfl, _⟩ | ⟨a, len, cap, mm, n, D, Pl, rfl, hb, hl, hm, hmm, _, hel⟩
      · exact ⟨_, .cons rep_ro_nil .nil, .cons (.sl (Nat.zero_le _) (by simp) (by simp)) .nil⟩
      · have hlm : len ≤ mm := by rw [hmm]; split <;> omega
        have key : ∀ i, i < len → ∃ p : List Value × List AV, w.cells? base (a.add (i * P.cellsOf e)) (P.cellsOf e) = some p.1 ∧ RL (Rep P (fun k => k < w.heap.size) w []) p.1 p.2 ∧ RL Mt p.2 row := fun i hi => by
          obtain ⟨cs', c1, c2⟩ := hel i (by omega)
          obtain ⟨xs, c3, c4⟩ := open_sh m _ _ _ _ _ h1 c2
          exact ⟨(cs', xs), c1, c3, c4⟩
        obtain ⟨F, hF⟩ := Go.Deep.choose_lt key
        have lv : ∀ l ∈ (List.range len).map (fun i => (F i).1), l.length = P.cellsOf e := fun l hl' => by
          obtain ⟨i, hi, rfl⟩ := List.mem_map.1 hl'
          exact (World.cells?_some (hF i (List.mem_range.1 hi)).1).2.1
        have lx : ∀ l ∈ (List.range len).map (fun i => (F i).2), l.length = P.cellsOf e := fun l hl' => by
          obtain ⟨i, hi, rfl⟩ := List.mem_map.1 hl'
          rw [← (hF i (List.mem_range.1 hi)).2.1.1]
          exact (World.cells?_some (hF i (List.mem_range.1 hi)).1).2.1
        have hlen : ((List.range len).map fun i => (F i).2).length = len := by simp
        have hfl : ((List.range len).map fun i => (F i).1).flatten.length = ((List.range len).map fun i => (F i).2).flatten.length := by
          rw [List.length_flatten, List.length_flatten]
          congr 1
          rw [List.map_map, List.map_map]
          exact List.map_congr_left fun i hi => (hF i (List.mem_range.1 hi)).2.1.1
        have hrep : Rep P (fun k => k < w.heap.size) w [] (.slice (some a) ((List.range len).map fun i => (F i).2).length cap) (.ro ((List.range len).map fun i => (F i).2)) := by
          refine Rep.ro (sz := P.cellsOf e) (us := ((List.range len).map fun i => (F i).1).flatten) (by rw [hlen]; exact hl) hm lx (fun hn => ?_) hfl fun i u x hu hx' => ?_
          · have hget : ∀ j u, ((List.range len).map fun i => (F i).1).flatten[j]? = some u → w.cell? (a.add j) = some u := fun j u hu => by
              obtain ⟨l, u', q1, q2, q3⟩ := flat_idx lv (j := j) (List.getElem?_eq_some_iff.1 hu).1
              rw [q3] at hu
              injection hu with hu; subst hu
              rw [List.getElem?_map] at q1
              have hq : j / P.cellsOf e < len := by
                have := (List.getElem?_eq_some_iff.1 (show ((List.range len).map fun i => (F i).1)[j / P.cellsOf e]? = some l by rw [List.getElem?_map]; exact q1)).1
                simpa using this
              rw [List.getElem?_range hq] at q1
              injection q1 with q1; subst q1
              have hc := (World.cells?_some (hF _ hq).1)
              have hp : 0 < P.cellsOf e := by
                have := (List.getElem?_eq_some_iff.1 q2).1
                rw [hc.2.1] at this; omega
              have hcell := hc.2.2 (j % P.cellsOf e) (Nat.mod_lt _ hp)
              rw [q2, Go.Deep.add_add, Nat.mul_comm, Nat.div_add_mod] at hcell
              exact hcell
            have h0 := hget 0 _ (List.getElem?_eq_getElem hn)
            obtain ⟨g, o, sp⟩ := a
            have : sp = none := by simpa [Addr.add] using World.cell?_spot h0
            subst this
            refine ⟨g, o, rfl, World.block_lt_of_cell? w _ h0, fun j u hu => ?_⟩
            have := hget j u hu
            rw [add_off] at this
            exact this
          · obtain ⟨l, u', q1, q2, q3⟩ := flat_idx lv (j := i) (List.getElem?_eq_some_iff.1 hu).1
            obtain ⟨l2, u2, p1, p2, p3⟩ := flat_idx lx (j := i) (List.getElem?_eq_some_iff.1 hx').1
            rw [q3] at hu
            injection hu with hu; subst hu
            rw [p3] at hx'
            injection hx' with hx'; subst hx'
            rw [List.getElem?_map] at q1 p1
            have hq : i / P.cellsOf e < len := by
              have := (List.getElem?_eq_some_iff.1 (show ((List.range len).map fun i => (F i).1)[i / P.cellsOf e]? = some l by rw [List.getElem?_map]; exact q1)).1
              simpa using this
            rw [List.getElem?_range hq] at q1 p1
            injection q1 with q1; subst q1
            injection p1 with p1; subst p1
            exact (hF _ hq).2.1.2 _ _ _ q2 p2
        rw [hlen] at hrep
        refine ⟨_, .cons hrep .nil, .cons (.sl hrep.small (fun l hl' => ?_) fun l hl' => ?_) .nil⟩
        · obtain ⟨i, hi, rfl⟩ := List.mem_map.1 hl'
          exact (hF i (List.mem_range.1 hi)).2.2.1
        · obtain ⟨i, hi, rfl⟩ := List.mem_map.1 hl'
          exact (hF i (List.mem_range.1 hi)).2.2.2
    · rename_i fs ht
      obtain ⟨r1, h1, h2⟩ := Option.bind_eq_some_iff.1 h
      split at h2
      · rename_i hl
        injection h2 with h2; subst h2
        obtain ⟨ys, n, _, _, hcl, hyl, hf⟩ := DataW.trod_struct ht hx
        obtain ⟨xs, a1, a2⟩ := fields_open (fun t cs x r => open_sh m n t cs x r) fs.toList 0 r1 h1 (cs := cs) fun f hf' => by
          obtain ⟨i, hi, rfl⟩ := List.getElem_of_mem hf'
          have := hf i fs.toList[i] (by simp at hi; simp [hi])
          exact ⟨_, this.trans (List.getElem?_eq_getElem (by rw [hyl]; simpa using hi))⟩
        rw [List.drop_zero, hl, ← hcl, List.take_length] at a1
        exact ⟨xs, a1, a2⟩
      · cases h2
    · rename_i k e ht
      obtain ⟨r1, h1, h2⟩ := Option.bind_eq_some_iff.1 h
      split at h2
      · rename_i hl
        injection h2 with h2; subst h2
        obtain ⟨ys, n, _, _, hcl, hyl, hf⟩ := DataW.trod_array ht hx
        obtain ⟨xs, a1, a2⟩ := copies_open (cs := cs) hl.1 (fun cs x hx => open_sh m n e cs x r1 h1 hx) k 0 fun i hi => by
          have := hf i hi
          rw [Nat.zero_add]
          exact ⟨_, this.trans (List.getElem?_eq_getElem (by omega))⟩
        rw [List.drop_zero, ← hl.2, ← hcl, List.take_length] at a1
        exact ⟨xs, a1, a2⟩
      · cases h2
    · cases h
/-- A datum of one cell. -/
theorem open_one {m : Nat} {t : TypeId} {v : Value} {s : Sh} {d : DataW H} {ps : List MemPlace} (hs : shOf P m t = some [s]) (hv : v.cells = #[v]) (h : DataW.Trod enc P w base spare held t v d ps) : ∃ x, AggOK P (fun k => k < w.heap.size) w (insT []) [] v x ∧ Mt x s := by
  obtain ⟨fuel, hf⟩ := h
  rw [hv] at hf
  obtain ⟨xs, a1, a2⟩ := open_sh m fuel t [v] _ [s] hs hf
  obtain ⟨x, xs', rfl, b1, b2⟩ := a1.cons'
  obtain ⟨x2, xs2, q, c1, -⟩ := a2.cons'
  injection q with q _
  subst q
  refine ⟨x, ?_, c1⟩
  have hr := b1.ref (T := insT []) (vals := [])
  cases c1 <;> exact hr
end
theorem Spec.small {P : Program} {f : FuncId} {ins xs : List AV} {Q : List AV → List AV → Prop} {es : List (List AV)} (k : Nat) (hk : xs[k]? = some (.ro es)) (h : es.length ≤ 9223372036854775807 → Spec P f ins xs Q) : Spec P f ins xs Q := fun w S vals bss vs c => by
  obtain ⟨u, hu, hr⟩ := c.args.at_ hk
  have hr : Rep P S w [] u (.ro es) := hr
  obtain ⟨-, A, cc, sz, us, e, h1, h2, -⟩ := hr.ro_inv
  exact h (Nat.le_trans (Nat.le_trans h1 h2) (by decide)) w S vals bss vs c
/-- What a cell may hold, taken apart. -/
theorem Mt.i64 {x : AV} (h : Mt x (.int .i64)) : ∃ n, x = .v (.int .i64 n) := by cases h; exact ⟨_, rfl⟩
theorem Mt.u8 {x : AV} (h : Mt x (.int .u8)) : ∃ n, x = .v (.int .u8 n) := by cases h; exact ⟨_, rfl⟩
theorem Mt.sl_ {x : AV} {r : List Sh} (h : Mt x (.sl r)) : ∃ es, x = .ro es := by cases h; exact ⟨_, rfl⟩
end Go.Proofs.Ytdnofpggdddimaa
namespace Go.Proofs.Ytdnofpggdddimaa
open Go.RowKit
set_option linter.unusedSimpArgs false
set_option linter.unusedVariables false
set_option maxRecDepth 100000
abbrev decIntSh : List Sh := [.int .i64]
theorem decInt {xs : List AV} (h : RL Mt xs decIntSh) : ∃ c : Int, xs = iv c := by
  obtain ⟨x0, xs, rfl, h0, h⟩ := h.cons_inv
  obtain rfl := h.nil_inv
  obtain ⟨v0, rfl⟩ := Mt.i64 h0
  exact ⟨v0, rfl⟩
abbrev decIntsSh : Sh := .sl decIntSh
theorem decInts {x : AV} (h : Mt x decIntsSh) : ∃ l : List Int, x = .ro (l.map iv) := by
  obtain ⟨es, rfl⟩ := h.sl_
  obtain ⟨l, rfl⟩ := rows_of fun e he => decInt (h.rows e he)
  exact ⟨l, rfl⟩
abbrev decPieceSh : List Sh := [.int .i64, .int .i64, .int .i64, .int .i64, .int .i64]
abbrev decPlateSh : List Sh := [.int .i64, .int .i64, .int .i64]
abbrev decContSh : List Sh := [.int .i64, .str, .int .i64, .str, .int .i64, .int .i64, .int .i64, .int .i64, .int .i64, .int .i64, .sl decPieceSh]
abbrev decContsSh : Sh := .sl decContSh
end Go.Proofs.Ytdnofpggdddimaa
namespace Go.Proofs.Ytdnofpggdddimaa
open Go.RowKit
set_option linter.unusedSimpArgs false
set_option linter.unusedVariables false
set_option maxRecDepth 100000
abbrev decISh : Sh := .int .i64
theorem decI {x : AV} (h : Mt x decISh) : ∃ n : Int, x = .v (.int .i64 n) := by
  obtain ⟨n, rfl⟩ := Mt.i64 h
  exact ⟨n, rfl⟩
abbrev decGrantSh : List Sh := [.int .i64, .int .i64, .int .i64, .int .i64, .int .i64, .str, .int .i64, .str, .int .i64]
abbrev decOpSh : List Sh := [.int .i64, .int .i64, .int .i64, .int .i64, .int .i64, .int .i64, .int .i64, .int .i64, .int .i64, .int .i64]
abbrev decHandSh : List Sh := [.int .i64, .int .i64, .int .i64, .bool, .sl decGrantSh, .sl decContSh, .sl decOpSh]
end Go.Proofs.Ytdnofpggdddimaa
