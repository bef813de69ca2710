import Derived.Test.YtfmnaigedgmhoaaGreatDoorXbg
import Derived.Deep.Slices
import Derived.OpenShut
import Derived.WalkKit
import Derived.ProofKit
import Derived.Test.YtfmnaigedgmhoaaGreatDoorRows
import Derived.LaidMore
import Derived.Stop.Joined
namespace Go.Proofs.YtfmnaigedgmhoaaGreatDoor
open Go.RowKit
set_option linter.unusedSimpArgs false
set_option linter.unusedVariables false
set_option maxRecDepth 100000
theorem reps_y {l : List Int} {i kk : Nat} {acc : List Report} (hi : i < 24) (h : gmod (rawV l kk) 6 = 5) : repsV l (24 - i) kk acc = repsV l (24 - (i + 1)) (rN l 3 kk) (acc ++ [⟨(i : Nat), decide (gmod (rawV l (rN l 1 kk)) 2 = 1), textV l (rN l 2 kk) rpT⟩]) := by
  obtain ⟨n, hn⟩ : ∃ n, n = 23 - i := ⟨_, rfl⟩
  rw [show 24 - i = n + 1 by omega, show 24 - (i + 1) = n by omega]
  show (if gmod (rawV l kk) 6 = 5 then _ else _) = _
  rw [if_pos h, show 23 - n = i by omega]
theorem reps_n {l : List Int} {i kk : Nat} {acc : List Report} (hi : i < 24) (h : ¬ gmod (rawV l kk) 6 = 5) : repsV l (24 - i) kk acc = repsV l (24 - (i + 1)) (rN l 1 kk) acc := by
  obtain ⟨n, hn⟩ : ∃ n, n = 23 - i := ⟨_, rfl⟩
  rw [show 24 - i = n + 1 by omega, show 24 - (i + 1) = n by omega]
  show (if gmod (rawV l kk) 6 = 5 then _ else _) = _
  rw [if_neg h]
theorem le_kr (x : Ev) : RL (Le2 Tryz.prog) [evC x (.v (.slice none 0 0)) (.v (.slice none 0 0))].flatten [evC x (.own 60 []) (.ro [])].flatten := by
  repeat (first | exact RL.nil | refine RL.cons Le2.same ?_ | refine RL.cons (Le2.nilo sz60) ?_ | refine RL.cons Le2.nil ?_)
theorem le_ko (x : Ev) : RL (Le2 Tryz.prog) [evC x (.v (.slice none 0 0)) (.v (.slice none 0 0))].flatten [evC x (.ro []) (.own 39 [])].flatten := by
  repeat (first | exact RL.nil | refine RL.cons Le2.same ?_ | refine RL.cons Le2.nil ?_ | refine RL.cons (Le2.nilo sz39) ?_)
theorem sv_flat (l : List ByteArray) : ∀ r ∈ l.map sv, ∀ c ∈ r, flatA c = true := fun r hr c hc => by
  obtain ⟨p, _, rfl⟩ := List.mem_map.1 hr
  obtain rfl : c = _ := by simpa using hc
  rfl
set_option maxHeartbeats 8000000 in
theorem C6 {l : List Int} {k : Nat} (hl : l.length ≤ 2000) : Fn Tryz.prog 6 [.own 53 [srcRow l k]] [.ptr 0 0 0 0] [.agg (evV l k).1.av] [.own 53 [srcRow l (evV l k).2]] := by
  have hg := gmod_bd (x := rawV l k) (n := 14) (by decide)
  have hg5 := gmod_bd (x := rawV l (rN l 1 k)) (n := 5) (by decide)
  have hg1 := gmod_bd (x := rawV l (rN l 1 k)) (n := 6) (by decide)
  have hg6 := gmod_bd (x := rawV l (rN l 2 k)) (n := 6) (by decide)
  refine Spec.body Tryz.func6 rfl Tryz.ntmps6 (by simp) rfl ?_; intro S0 own0 v0 w0 gl
  (refine AW.seq_k ?_; intro K hK)
  refine AW.region ?_
  refine awJ (op_alloc rfl ze42 rfl) ?_; (simp only [nA, Nat.reduceBEq, Nat.reduceEqDiff, ↓reduceIte])
  refine AWL.nil ?_
  (refine hK _ ?_; clear hK K; (try simp only [nA, Nat.reduceBEq, Nat.reduceEqDiff, ↓reduceIte, Nat.reduceAdd, Nat.reduceSub]))
  (refine AW.seq_k ?_; intro K hK)
  refine AW.region ?_
  refine awP (op_move rfl rfl) ?_; (simp only [nA, ↓reduceIte])
  refine awJ (op_call1 rfl en8 (C8 (k := k) (n := 14) hl (by decide)) (by exact rfl) (RL.cons .ptr (RL.cons (.base (by exact View.same rfl)) (RL.nil))) (by exact ⟨_, _, _, rfl, rfl, rfl⟩) (by exact rfl) (by exact rfl) (by exact rfl)) ?_; (try simp only [nA, Nat.reduceBEq, Nat.reduceEqDiff, ↓reduceIte, Nat.reduceAdd, Nat.reduceSub])
  refine awP (op_add (z := (evK l k)) rfl rfl rfl (by rw [IntKind.wrap_i64]; unfold evK; omega)) ?_; (try simp only [nA, Nat.reduceBEq, Nat.reduceEqDiff, ↓reduceIte, Nat.reduceAdd, Nat.reduceSub])
  refine awP (op_build2 (xs := [_, .v (.int .i64 0), .v (.string ⟨#[]⟩), .v (.int .i64 0), .v (.int .i64 0), .v (.int .i64 0), .v (.int .i64 0), .v (.int .i64 0), .v (.bool false), .v (.slice none 0 0), .v (.int .i64 0), .v (.int .i64 0), .v (.string ⟨#[]⟩), .v (.int .i64 0), .v (.string ⟨#[]⟩), .v (.int .i64 0), .v (.int .i64 0), .v (.int .i64 0), .v (.int .i64 0), .v (.int .i64 0), .v (.int .i64 0), .v (.int .i64 0), .v (.int .i64 0), .v (.int .i64 0), .v (.int .i64 0), .v (.int .i64 0), .v (.int .i64 0), .v (.slice none 0 0), .v (.string ⟨#[]⟩), .v (.int .i64 0), .v (.string ⟨#[]⟩), .v (.int .i64 0)]) rfl pl42 ze42 [(0, [_])] rfl rfl rfl) ?_; (simp only [nA])
  refine awJ (op_alloc rfl ze42 rfl) ?_; (simp only [nA, Nat.reduceBEq, Nat.reduceEqDiff, ↓reduceIte])
  refine awJ (op_store rfl rfl rfl rfl rfl rfl sz42 rfl (bl rfl) rfl) ?_; (simp only [nA, Nat.reduceBEq, Nat.reduceEqDiff, ↓reduceIte])
  refine AWL.nil ?_
  (refine hK _ ?_; clear hK K; (skip))
  refine AW.join (fun (q : Ev × Nat × Nat) => [(2, .ptr 1 1 0 0), (3, .ptr 2 2 0 0)]) (fun q => ⟨[(0, .own 53 [srcRow l q.2.1]), (1, .own 42 [evC (ev0 0) (.v (.slice none 0 0)) (.v (.slice none 0 0))]), (2, .own 42 [q.1.av])], q.2.2⟩) (fun q => (q.1, q.2.1) = evV l k) ?_ ?_
  ·
   (refine AW.seq_k ?_; intro K hK)
   refine AW.region ?_
   (refine awP (op_fa_ptr rfl rfl rfl fl42_0 (by exact sz3) (by decide) rfl) ?_); (try simp only [nA, Nat.reduceBEq, Nat.reduceEqDiff, ↓reduceIte, Nat.reduceAdd, Nat.reduceSub])
   (refine awR (op_load_ptr1 rfl rfl rfl rfl ag3 rfl rfl) ?_); (try simp only [nA, Nat.reduceBEq, Nat.reduceEqDiff, ↓reduceIte, Nat.reduceAdd, Nat.reduceSub])
   refine AWL.nil ?_
   (refine hK _ ?_; clear hK K; (try simp only [nA, Nat.reduceBEq, Nat.reduceEqDiff, ↓reduceIte, Nat.reduceAdd, Nat.reduceSub]))
   refine AW.block ?_
   (refine AW.seq_k ?_; intro K hK)
   refine AW.region ?_
   (refine awP (op_eql rfl rfl rfl) ?_); (try simp only [nA, Nat.reduceBEq, Nat.reduceEqDiff, ↓reduceIte, Nat.reduceAdd, Nat.reduceSub])
   refine awP (op_assign rfl rfl) ?_; (simp only [nA])
   refine AWL.nil ?_
   (refine hK _ ?_; clear hK K; (skip))
   refine AW.cond rfl rfl rfl (fun hc => ?_) (fun hc => ?_)
   ·
    have hc1 := hc; have hk := of_decide_eq_true hc1; refine AW.gh (Gh.slot (r := 2) (es' := [(ev0 (evK l k)).av]) rfl rfl (le_ev0s (evK l k))) ?_; (try simp only [nA, Nat.reduceBEq, Nat.reduceEqDiff, ↓reduceIte, Nat.reduceAdd, Nat.reduceSub])
    refine AW.region ?_
    refine awP (op_move rfl rfl) ?_; (simp only [nA, ↓reduceIte])
    refine awJ (OpJ.frz (op_buildSlice rfl [(0, sv ⟨#[]⟩), (1, sv ⟨#[65]⟩), (2, sv ⟨#[66, 83, 77, 10, 46, 86, 47, 49, 76, 67, 80, 72, 47, 49, 10, 69, 78, 68, 66, 83, 77, 10]⟩), (3, sv ⟨#[0, 255]⟩)] (evT.map sv) Tryz.underlying64 ze9 rfl (by decide) rfl (by simp) rfl (bl rfl) (by decide)) (sv_flat _) rfl) ?_; (try simp only [nA, Nat.reduceBEq, Nat.reduceEqDiff, ↓reduceIte, Nat.reduceAdd, Nat.reduceSub])
    refine awJ (op_call1 rfl en20 (C20 (k := rN l 1 k) (ss := evT) hl (by decide) (by decide)) (by exact rfl) (RL.cons .ptr (RL.cons (.base (by exact View.same rfl)) (RL.nil))) (by exact ⟨_, _, _, rfl, rfl, rfl⟩) (by exact rfl) (by exact rfl) (by exact rfl)) ?_; (try simp only [nA, Nat.reduceBEq, Nat.reduceEqDiff, ↓reduceIte, Nat.reduceAdd, Nat.reduceSub])
    (refine awP (op_fa_ptr rfl rfl rfl fl42_2 (by exact sz9) (by decide) rfl) ?_); (try simp only [nA, Nat.reduceBEq, Nat.reduceEqDiff, ↓reduceIte, Nat.reduceAdd, Nat.reduceSub])
    refine awJ (op_store rfl rfl rfl rfl rfl rfl sz9 rfl (bl rfl) rfl) ?_; (simp only [nA, ↓reduceIte])
    refine AWL.nil ?_
    (try simp only [thenE, inBlk, Nat.reduceEqDiff, ↓reduceIte])
    exact ⟨(_, _, _), (evV_1 hk).symm, ⟨rfl, rfl, trivial⟩, (by rfl), (by trivial)⟩
   have hc1 := hc
   refine AW.join (fun (b : Bool) => [(0, .ptr 0 0 0 0), (2, .ptr 1 1 0 0), (3, .ptr 2 2 0 0), (11, .v (.int .i64 (evK l k))), (18, .v (.bool b))]) (fun b => ⟨[(0, .own 53 [srcRow l (rN l 1 k)]), (1, .own 42 [evC (ev0 0) (.v (.slice none 0 0)) (.v (.slice none 0 0))]), (2, .own 42 [evC (ev0 (evK l k)) (.v (.slice none 0 0)) (.v (.slice none 0 0))])], 3⟩) (fun b => b = true ↔ (evK l k) = 2 ∨ (evK l k) = 10) ?_ ?_
   ·
    (refine AW.seq_k ?_; intro K hK)
    refine AW.region ?_
    (refine awP (op_eql rfl rfl rfl) ?_); (try simp only [nA, Nat.reduceBEq, Nat.reduceEqDiff, ↓reduceIte, Nat.reduceAdd, Nat.reduceSub])
    refine awP (op_assign rfl rfl) ?_; (simp only [nA])
    refine AWL.nil ?_
    (refine hK _ ?_; clear hK K; (try simp only [nA, Nat.reduceBEq, Nat.reduceEqDiff, ↓reduceIte, Nat.reduceAdd, Nat.reduceSub]))
    refine AW.cond rfl rfl rfl (fun hc => ?_) (fun hc => ?_)
    ·
     have hc2 := hc
     refine AW.skip ?_
     exact ⟨decide ((evK l k) = 2), ⟨fun h => .inl (of_decide_eq_true h), fun _ => hc2⟩, ⟨rfl, rfl, rfl, rfl, rfl, trivial⟩, (by rfl), (by rfl)⟩
    have hc2 := hc
    refine AW.region ?_
    (refine awP (op_eql rfl rfl rfl) ?_); (try simp only [nA, Nat.reduceBEq, Nat.reduceEqDiff, ↓reduceIte, Nat.reduceAdd, Nat.reduceSub])
    refine awP (op_assign rfl rfl) ?_; (simp only [nA])
    refine AWL.nil ?_
    exact ⟨decide ((evK l k) = 10), ⟨fun h => .inr (of_decide_eq_true h), fun h => h.elim (fun h => absurd h (of_decide_eq_false hc2)) decide_eq_true⟩, ⟨rfl, rfl, rfl, rfl, rfl, trivial⟩, (by rfl), (by rfl)⟩
   intro b2 ρ hb2; simp only [updL]
   refine AW.cond rfl rfl rfl (fun hc => ?_) (fun hc => ?_)
   ·
    have hc3 := hc; have hk := hb2.1 hc3; refine AW.gh (Gh.slot (r := 2) (es' := [(ev0 (evK l k)).av]) rfl rfl (le_ev0s (evK l k))) ?_; (try simp only [nA, Nat.reduceBEq, Nat.reduceEqDiff, ↓reduceIte, Nat.reduceAdd, Nat.reduceSub])
    refine AW.region ?_
    refine awP (op_move rfl rfl) ?_; (simp only [nA])
    refine awJ (op_call1 rfl en21 (C21 (k := rN l 1 k) (n := 1000) hl (by decide)) (by exact rfl) (RL.cons .ptr (RL.cons (.base (by exact View.same rfl)) (RL.nil))) (by exact ⟨_, _, _, rfl, rfl, rfl⟩) (by exact rfl) (by exact rfl) (by exact rfl)) ?_; (try simp only [nA, Nat.reduceBEq, Nat.reduceEqDiff, ↓reduceIte, Nat.reduceAdd, Nat.reduceSub])
    refine awP (op_move rfl rfl) ?_; (simp only [nA, ↓reduceIte])
    refine awJ (op_call1 rfl en8 (C8 (k := rN l 2 k) (n := 24) hl (by decide)) (by exact rfl) (RL.cons .ptr (RL.cons (.base (by exact View.same rfl)) (RL.nil))) (by exact ⟨_, _, _, rfl, rfl, rfl⟩) (by exact rfl) (by exact rfl) (by exact rfl)) ?_; (try simp only [nA, Nat.reduceBEq, Nat.reduceEqDiff, ↓reduceIte, Nat.reduceAdd, Nat.reduceSub])
    (refine awP (op_fa_ptr rfl rfl rfl fl42_3 (by exact sz30) (by decide) rfl) ?_); (try simp only [nA, Nat.reduceBEq, Nat.reduceEqDiff, ↓reduceIte, Nat.reduceAdd, Nat.reduceSub])
    refine awJ (op_store rfl rfl rfl rfl rfl rfl sz30 rfl (bl rfl) rfl) ?_; (try simp only [nA, Nat.reduceBEq, Nat.reduceEqDiff, ↓reduceIte, Nat.reduceAdd, Nat.reduceSub])
    (refine awP (op_fa_ptr rfl rfl rfl fl42_4 (by exact sz3) (by decide) rfl) ?_); (try simp only [nA, Nat.reduceBEq, Nat.reduceEqDiff, ↓reduceIte, Nat.reduceAdd, Nat.reduceSub])
    refine awJ (op_store rfl rfl rfl rfl rfl rfl sz3 rfl (bl rfl) rfl) ?_; (simp only [nA, ↓reduceIte])
    refine AWL.nil ?_
    (try simp only [thenE, inBlk, Nat.reduceEqDiff, ↓reduceIte])
    exact ⟨(_, _, _), (evV_2 hk).symm, ⟨rfl, rfl, trivial⟩, (by rfl), (by trivial)⟩
   have hc3 := hc
   (refine AW.seq_k ?_; intro K hK)
   refine AW.region ?_
   (refine awP (op_eql rfl rfl rfl) ?_); (try simp only [nA, Nat.reduceBEq, Nat.reduceEqDiff, ↓reduceIte, Nat.reduceAdd, Nat.reduceSub])
   refine awP (op_assign rfl rfl) ?_; (simp only [nA])
   refine AWL.nil ?_
   (refine hK _ ?_; clear hK K; (skip))
   refine AW.cond rfl rfl rfl (fun hc => ?_) (fun hc => ?_)
   ·
    have hc4 := hc; have hk := of_decide_eq_true hc4; refine AW.gh (Gh.slot2 (r := 2) (es' := [evC (ev0 (evK l k)) (.own 60 []) (.ro [])]) rfl rfl (le_kr _)) ?_; (try simp only [nA, Nat.reduceBEq, Nat.reduceEqDiff, ↓reduceIte, Nat.reduceAdd, Nat.reduceSub])
    (refine AW.seq_k ?_; intro K hK)
    refine AW.region ?_
    refine awP (op_move rfl rfl) ?_; (simp only [nA, ↓reduceIte])
    refine awJ (OpJ.frz (op_buildSlice rfl [(0, iv 0), (1, iv 1), (2, iv 300), (3, iv 1048576)] (([0, 1, 300, 1048576] : List Int).map iv) Tryz.underlying23 ze3 rfl (by simp) (fold_dense 1 (([0, 1, 300, 1048576] : List Int).map iv) (iv_len _)) (iv_len _) rfl (bl rfl) (by simp [maxLen])) (iv_flat tmL) rfl) ?_; (try simp only [nA, Nat.reduceBEq, Nat.reduceEqDiff, ↓reduceIte, Nat.reduceAdd, Nat.reduceSub])
    refine awJ (op_call1 rfl en22 (C22 (k := rN l 1 k) (xs := tmL) hl (by decide) (by decide)) (by exact rfl) (RL.cons .ptr (RL.cons (.base (by exact View.same rfl)) (RL.nil))) (by exact ⟨_, _, _, rfl, rfl, rfl⟩) (by exact rfl) (by exact rfl) (by exact rfl)) ?_; (try simp only [nA, Nat.reduceBEq, Nat.reduceEqDiff, ↓reduceIte, Nat.reduceAdd, Nat.reduceSub])
    (refine awP (op_fa_ptr rfl rfl rfl fl42_1 (by exact sz3) (by decide) rfl) ?_); (try simp only [nA, Nat.reduceBEq, Nat.reduceEqDiff, ↓reduceIte, Nat.reduceAdd, Nat.reduceSub])
    refine awJ (op_store rfl rfl rfl rfl rfl rfl sz3 rfl (bl rfl) rfl) ?_; (simp only [nA, ↓reduceIte])
    refine AWL.nil ?_
    (refine hK _ ?_; clear hK K; (skip))
    (refine AW.seq_k ?_; intro K hK)
    refine AW.region ?_
    refine awP (op_assign rfl rfl) ?_; (try simp only [nA, Nat.reduceBEq, Nat.reduceEqDiff, ↓reduceIte, Nat.reduceAdd, Nat.reduceSub])
    refine AWL.nil ?_
    (refine hK _ ?_; clear hK K; (skip))
    refine AW.block ?_
    refine AW.loopI (fun (q : Nat × Nat × List Report × Nat) => [(0, .ptr 0 0 0 0), (2, .ptr 1 1 0 0), (3, .ptr 2 2 0 0), (4, .v (.int .i64 (q.1 : Nat)))]) (fun q => ⟨[(0, .own 53 [srcRow l q.2.1]), (1, .own 42 [evC (ev0 0) (.v (.slice none 0 0)) (.v (.slice none 0 0))]), (2, .own 42 [evC ({ ev0 (evK l k) with time := pickV l (rN l 1 k) tmL } : Ev) (.own 60 (q.2.2.1.map Report.av)) (.ro [])])], q.2.2.2⟩) (fun q => q.1 ≤ 24 ∧ repsV l (24 - q.1) q.2.1 q.2.2.1 = repsV l 24 (rN l 2 k) [] ∧ q.2.2.1.length ≤ q.1) (fun q => 24 - q.1) (0, rN l 2 k, [], 3) ⟨by dsimp only; omega, rfl, by simp⟩ ⟨rfl, rfl, rfl, rfl, trivial⟩ rfl ?_; rintro ⟨i, kk, acc, ep⟩ ρ ⟨hi, hR, hA⟩; dsimp only at hi hR hA ⊢; simp only [updL]
    (refine AW.seq_k ?_; intro K hK)
    (refine AW.seq_k ?_; intro K hK)
    refine AW.region ?_
    refine awP (op_move rfl rfl) ?_; (simp only [nA, ↓reduceIte])
    refine awP (op_lss rfl rfl rfl) ?_; (try simp only [nA, Nat.reduceBEq, Nat.reduceEqDiff, ↓reduceIte, Nat.reduceAdd, Nat.reduceSub])
    refine AWL.nil ?_
    (refine hK _ ?_; clear hK K; (skip))
    refine AW.cond rfl rfl rfl (fun hc => ?_) (fun hc => ?_)
    ·
     have hc5 := hc; have hlt : i < 24 := (by have := of_decide_eq_true hc5; omega)
     refine AW.skip ?_
     (refine hK _ ?_; clear hK K; (skip))
     (refine AW.seq_k ?_; intro K hK)
     refine AW.block ?_
     (refine AW.seq_k ?_; intro K hK)
     refine AW.region ?_
     refine awP (op_move rfl rfl) ?_; (simp only [nA, ↓reduceIte])
     refine awJ (op_call1 rfl en8 (C8 (k := kk) (n := 6) hl (by decide)) (by exact rfl) (RL.cons .ptr (RL.cons (.base (by exact View.same rfl)) (RL.nil))) (by exact ⟨_, _, _, rfl, rfl, rfl⟩) (by exact rfl) (by exact rfl) (by exact rfl)) ?_; (try simp only [nA, Nat.reduceBEq, Nat.reduceEqDiff, ↓reduceIte, Nat.reduceAdd, Nat.reduceSub])
     (refine awP (op_eql rfl rfl rfl) ?_); (try simp only [nA, Nat.reduceBEq, Nat.reduceEqDiff, ↓reduceIte, Nat.reduceAdd, Nat.reduceSub])
     refine AWL.nil ?_
     (refine hK _ ?_; clear hK K; (skip))
     refine AW.cond rfl rfl rfl (fun hc => ?_) (fun hc => ?_)
     ·
      have hc6 := hc; have h5 := of_decide_eq_true hc6; rw [reps_y hlt h5] at hR
      refine AW.ghE (GhE.unnest (r := 2) (row := evC ({ ev0 (evK l k) with time := pickV l (rN l 1 k) tmL } : Ev) (.own 60 (acc.map Report.av)) (.ro [])) 0 9 rfl rfl rfl) ?_; intro u hu; (try simp only [nA, Nat.reduceBEq, Nat.reduceEqDiff, ↓reduceIte, Nat.reduceAdd, Nat.reduceSub])
      refine AW.aeo (fun T' => T'.slots[2]? = some (2, .own 42 [evC ({ ev0 (evK l k) with time := pickV l (rN l 1 k) tmL } : Ev) (.v u) (.ro [])])) mix rfl ?_
      refine aePo 0 rfl (fun T' ok => op_fa_ptr rfl rfl ok fl42_7 (by exact sz31) (by decide) rfl) rfl (by kernel_rfl) (by kernel_rfl) ?_; (simp only [nA, Nat.reduceBEq, Nat.reduceEqDiff, ↓reduceIte])
      refine aeRo 1 rfl (fun T' ok => op_load_ptr1 (row := evC ({ ev0 (evK l k) with time := pickV l (rN l 1 k) tmL } : Ev) (.v u) (.ro [])) rfl rfl ok rfl ag31 rfl rfl) rfl (by kernel_rfl) (by kernel_rfl) ?_; (try simp only [nA, Nat.reduceBEq, Nat.reduceEqDiff, ↓reduceIte, Nat.reduceAdd, Nat.reduceSub])
      refine aePo 2 rfl (fun T' ok => op_move rfl rfl) rfl (by kernel_rfl) (by kernel_rfl) ?_; (simp only [nA, ↓reduceIte])
      refine aePo 3 rfl (fun T' ok => op_move rfl rfl) rfl (by kernel_rfl) (by kernel_rfl) ?_; (simp only [nA, ↓reduceIte])
      refine aePo 6 rfl (fun T' ok => op_move rfl rfl) rfl (by kernel_rfl) (by kernel_rfl) ?_; (simp only [nA, ↓reduceIte])
      refine aeFo 7 rfl (fun T' ok => OpJ.frz (op_buildSlice rfl [(0, sv ⟨#[]⟩), (1, sv ⟨#[]⟩), (2, sv ⟨#[48, 49, 49, 55, 48, 48, 49, 48, 48, 48]⟩), (3, sv ⟨#[48, 49, 49, 55, 48, 48, 49, 48, 63, 48]⟩)] (rpT.map sv) Tryz.underlying64 ze9 rfl (by decide) rfl (by simp) rfl (bl rfl) (by decide)) (sv_flat _) rfl) rfl (by kernel_rfl) (by kernel_rfl) ?_; (try simp only [nA, Nat.reduceBEq, Nat.reduceEqDiff, ↓reduceIte, Nat.reduceAdd, Nat.reduceSub])
      refine aeJo 4 rfl (op_call1 rfl en8 (C8 (k := rN l 1 kk) (n := 2) hl (by decide)) (by exact rfl) (RL.cons .ptr (RL.cons (.base (by exact View.same rfl)) (RL.nil))) (by exact ⟨_, _, _, rfl, rfl, rfl⟩) (by exact rfl) (by exact rfl) (by exact rfl)) (by kernel_rfl) rfl ?_; (try simp only [nA, Nat.reduceBEq, Nat.reduceEqDiff, ↓reduceIte, Nat.reduceAdd, Nat.reduceSub])
      refine aePo 5 rfl (fun T' ok => op_eql rfl rfl rfl) rfl (by kernel_rfl) (by kernel_rfl) ?_; (try simp only [nA, Nat.reduceBEq, Nat.reduceEqDiff, ↓reduceIte, Nat.reduceAdd, Nat.reduceSub])
      refine aeJo 8 rfl (op_call1 rfl en20 (C20 (k := rN l 2 kk) (ss := rpT) hl (by decide) (by decide)) (by exact rfl) (RL.cons .ptr (RL.cons (.base (by exact View.same rfl)) (RL.nil))) (by exact ⟨_, _, _, rfl, rfl, rfl⟩) (by exact rfl) (by exact rfl) (by exact rfl)) (by kernel_rfl) rfl ?_; (try simp only [nA, Nat.reduceBEq, Nat.reduceEqDiff, ↓reduceIte, Nat.reduceAdd, Nat.reduceSub])
      refine aePo 9 rfl (fun T' ok => op_build2 (xs := [_, _, _]) rfl pl60 ze60 [(0, [_]), (1, [_]), (2, [_])] rfl rfl rfl) rfl (by kernel_rfl) (by kernel_rfl) ?_; (simp only [nA, ↓reduceIte])
      refine aeJo 10 rfl (OpJ.frz (op_buildSlice rfl [(0, (⟨(i : Nat), decide (gmod (rawV l (rN l 1 kk)) 2 = 1), textV l (rN l 2 kk) rpT⟩ : Report).av)] [(⟨(i : Nat), decide (gmod (rawV l (rN l 1 kk)) 2 = 1), textV l (rN l 2 kk) rpT⟩ : Report).av] Tryz.underlying31 ze60 rfl (by simp) rfl (by simp) rfl (bl rfl) (by simp [maxLen])) (rp_flat [(⟨(i : Nat), decide (gmod (rawV l (rN l 1 kk)) 2 = 1), textV l (rN l 2 kk) rpT⟩ : Report)]) rfl) (by kernel_rfl) rfl ?_; (try simp only [nA, Nat.reduceBEq, Nat.reduceEqDiff, ↓reduceIte, Nat.reduceAdd, Nat.reduceSub])
      refine aeJo 11 rfl (OpJ.nm (t := 41) (r := 3) rfl rfl (op_app (rows := [(⟨(i : Nat), decide (gmod (rawV l (rN l 1 kk)) 2 = 1), textV l (rN l 2 kk) rpT⟩ : Report).av]) rfl rfl rfl rfl (by simp) .ro Tryz.underlying31 ze60 (by decide) (by simp) (by simp; omega) (by decide) (es' := (acc ++ [(⟨(i : Nat), decide (gmod (rawV l (rN l 1 kk)) 2 = 1), textV l (rN l 2 kk) rpT⟩ : Report)]).map Report.av) (by simp) (n := (acc ++ [(⟨(i : Nat), decide (gmod (rawV l (rN l 1 kk)) 2 = 1), textV l (rN l 2 kk) rpT⟩ : Report)]).length) (by simp))) (by kernel_rfl) rfl ?_; (try simp only [nA, Nat.reduceBEq, Nat.reduceEqDiff, ↓reduceIte, Nat.reduceAdd, Nat.reduceSub])
      refine aePo 12 rfl (fun T' ok => op_fa_ptr rfl rfl ok fl42_7 (by exact sz31) (by decide) rfl) rfl (by kernel_rfl) (by kernel_rfl) ?_; (try simp only [nA, Nat.reduceBEq, Nat.reduceEqDiff, ↓reduceIte, Nat.reduceAdd, Nat.reduceSub])
      refine aeLo 13 rfl (op_store_nest (r := 2) (q := 3) rfl rfl rfl rfl (row := evC ({ ev0 (evK l k) with time := pickV l (rN l 1 k) tmL } : Ev) (.v u) (.ro [])) rfl sz31 rfl (by decide) (by simp) (by simp) (es2 := [evC ({ ev0 (evK l k) with time := pickV l (rN l 1 k) tmL } : Ev) (.own 60 ((acc ++ [(⟨(i : Nat), decide (gmod (rawV l (rN l 1 kk)) 2 = 1), textV l (rN l 2 kk) rpT⟩ : Report)]).map Report.av)) (.ro [])]) rfl) (by kernel_rfl) (by kernel_rfl) ?_; (try simp only [nA, Nat.reduceBEq, Nat.reduceEqDiff, ↓reduceIte, Nat.reduceAdd, Nat.reduceSub])
      refine aeDoneo (by kernel_rfl) ?_
      (try simp only [thenE, inBlk, Nat.reduceEqDiff, ↓reduceIte])
      (refine hK _ ?_; clear hK K; (skip))
      refine AW.region ?_
      refine awP (op_move rfl rfl) ?_; (simp only [nA, ↓reduceIte])
      (refine awP (op_addi rfl rfl rfl (by omega)) ?_); (try simp only [nA, Nat.reduceBEq, Nat.reduceEqDiff, ↓reduceIte, Nat.reduceAdd, Nat.reduceSub])
      refine awP (op_assign rfl rfl) ?_; (simp only [nA])
      refine AWL.gh (Gh.drop 3) ?_; (try simp only [nA, Nat.reduceBEq, Nat.reduceEqDiff, ↓reduceIte, Nat.reduceAdd, Nat.reduceSub])
      refine AWL.nil ?_
      refine ⟨(i + 1, rN l 3 kk, acc ++ [(⟨(i : Nat), decide (gmod (rawV l (rN l 1 kk)) 2 = 1), textV l (rN l 2 kk) rpT⟩ : Report)], _), ⟨by dsimp only; omega, hR, by dsimp only; rw [List.length_append]; simp only [List.length_cons, List.length_nil]; omega⟩, by dsimp only; omega, ⟨rfl, rfl, rfl, by dsimp only; exact congrArg (fun z => AV.v (.int .i64 z)) (by omega), trivial⟩, (by rfl), (by rfl)⟩
     have hc6 := hc; have h5 := of_decide_eq_false hc6; rw [reps_n hlt h5] at hR
     refine AW.skip ?_
     (try simp only [thenE, inBlk, Nat.reduceEqDiff, ↓reduceIte])
     (refine hK _ ?_; clear hK K; (skip))
     refine AW.region ?_
     refine awP (op_move rfl rfl) ?_; (simp only [nA, ↓reduceIte])
     (refine awP (op_addi rfl rfl rfl (by omega)) ?_); (try simp only [nA, Nat.reduceBEq, Nat.reduceEqDiff, ↓reduceIte, Nat.reduceAdd, Nat.reduceSub])
     refine awP (op_assign rfl rfl) ?_; (simp only [nA])
     refine AWL.gh (Gh.drop 3) ?_; (try simp only [nA, Nat.reduceBEq, Nat.reduceEqDiff, ↓reduceIte, Nat.reduceAdd, Nat.reduceSub])
     refine AWL.nil ?_
     refine ⟨(i + 1, rN l 1 kk, acc, _), ⟨by dsimp only; omega, hR, by dsimp only; omega⟩, by dsimp only; omega, ⟨rfl, rfl, rfl, by dsimp only; exact congrArg (fun z => AV.v (.int .i64 z)) (by omega), trivial⟩, (by rfl), (by rfl)⟩
    have hc5 := hc; have hi24 : i = 24 := (by have := of_decide_eq_false hc5; omega); subst hi24; rw [show repsV l (24 - 24) kk acc = (acc, kk) from rfl] at hR; refine AW.gh (Gh.freezeC (r := 2) 0 9 rfl rfl rfl (rp_flat _) rfl) ?_; (simp only [nA, Nat.reduceBEq, Nat.reduceEqDiff, ↓reduceIte, Nat.reduceAdd, Nat.reduceSub])
    refine AW.exit ?_; (try simp only [thenE, inBlk, Nat.reduceEqDiff, ↓reduceIte])
    clear hK K
    (try simp only [thenE, inBlk, Nat.reduceEqDiff, ↓reduceIte])
    exact ⟨(_, _, _), (by rw [evV_3 hk, ← hR]), ⟨rfl, rfl, trivial⟩, (by rfl), (by trivial)⟩
   have hc4 := hc
   (refine AW.seq_k ?_; intro K hK)
   refine AW.region ?_
   (refine awP (op_eql rfl rfl rfl) ?_); (try simp only [nA, Nat.reduceBEq, Nat.reduceEqDiff, ↓reduceIte, Nat.reduceAdd, Nat.reduceSub])
   refine awP (op_assign rfl rfl) ?_; (simp only [nA])
   refine AWL.nil ?_
   (refine hK _ ?_; clear hK K; (skip))
   refine AW.cond rfl rfl rfl (fun hc => ?_) (fun hc => ?_)
   ·
    have hc7 := hc; have hk := of_decide_eq_true hc7; refine AW.gh (Gh.slot (r := 2) (es' := [(ev0 (evK l k)).av]) rfl rfl (le_ev0s (evK l k))) ?_; (try simp only [nA, Nat.reduceBEq, Nat.reduceEqDiff, ↓reduceIte, Nat.reduceAdd, Nat.reduceSub])
    refine AW.region ?_
    refine awP (op_move rfl rfl) ?_; (simp only [nA, ↓reduceIte])
    refine awJ (op_call1 rfl en8 (C8 (k := rN l 1 k) (n := 1048577) hl (by decide)) (by exact rfl) (RL.cons .ptr (RL.cons (.base (by exact View.same rfl)) (RL.nil))) (by exact ⟨_, _, _, rfl, rfl, rfl⟩) (by exact rfl) (by exact rfl) (by exact rfl)) ?_; (try simp only [nA, Nat.reduceBEq, Nat.reduceEqDiff, ↓reduceIte, Nat.reduceAdd, Nat.reduceSub])
    refine awP (op_move rfl rfl) ?_; (simp only [nA, ↓reduceIte])
    refine awJ (op_call1 rfl en8 (C8 (k := rN l 2 k) (n := 2) hl (by decide)) (by exact rfl) (RL.cons .ptr (RL.cons (.base (by exact View.same rfl)) (RL.nil))) (by exact ⟨_, _, _, rfl, rfl, rfl⟩) (by exact rfl) (by exact rfl) (by exact rfl)) ?_; (try simp only [nA, Nat.reduceBEq, Nat.reduceEqDiff, ↓reduceIte, Nat.reduceAdd, Nat.reduceSub])
    (refine awP (op_eql rfl rfl rfl) ?_); (try simp only [nA, Nat.reduceBEq, Nat.reduceEqDiff, ↓reduceIte, Nat.reduceAdd, Nat.reduceSub])
    (refine awP (op_fa_ptr rfl rfl rfl fl42_5 (by exact sz3) (by decide) rfl) ?_); (try simp only [nA, Nat.reduceBEq, Nat.reduceEqDiff, ↓reduceIte, Nat.reduceAdd, Nat.reduceSub])
    refine awJ (op_store rfl rfl rfl rfl rfl rfl sz3 rfl (bl rfl) rfl) ?_; (simp only [nA, ↓reduceIte])
    (refine awP (op_fa_ptr rfl rfl rfl fl42_6 (by exact sz4) (by decide) rfl) ?_); (try simp only [nA, Nat.reduceBEq, Nat.reduceEqDiff, ↓reduceIte, Nat.reduceAdd, Nat.reduceSub])
    refine awJ (op_store rfl rfl rfl rfl rfl rfl sz4 rfl (bl rfl) rfl) ?_; (simp only [nA, ↓reduceIte])
    refine AWL.nil ?_
    (try simp only [thenE, inBlk, Nat.reduceEqDiff, ↓reduceIte])
    exact ⟨(_, _, _), (evV_4 hk).symm, ⟨rfl, rfl, trivial⟩, (by rfl), (by trivial)⟩
   have hc7 := hc
   (refine AW.seq_k ?_; intro K hK)
   refine AW.region ?_
   (refine awP (op_eql rfl rfl rfl) ?_); (try simp only [nA, Nat.reduceBEq, Nat.reduceEqDiff, ↓reduceIte, Nat.reduceAdd, Nat.reduceSub])
   refine awP (op_assign rfl rfl) ?_; (simp only [nA])
   refine AWL.nil ?_
   (refine hK _ ?_; clear hK K; (skip))
   refine AW.cond rfl rfl rfl (fun hc => ?_) (fun hc => ?_)
   ·
    have hc8 := hc; have hk := of_decide_eq_true hc8; refine AW.gh (Gh.slot (r := 2) (es' := [(ev0 (evK l k)).av]) rfl rfl (le_ev0s (evK l k))) ?_; (try simp only [nA, Nat.reduceBEq, Nat.reduceEqDiff, ↓reduceIte, Nat.reduceAdd, Nat.reduceSub])
    refine AW.region ?_
    refine awP (op_move rfl rfl) ?_; (simp only [nA, ↓reduceIte])
    refine awJ (op_call1 rfl en8 (C8 (k := rN l 1 k) (n := 5) hl (by decide)) (by exact rfl) (RL.cons .ptr (RL.cons (.base (by exact View.same rfl)) (RL.nil))) (by exact ⟨_, _, _, rfl, rfl, rfl⟩) (by exact rfl) (by exact rfl) (by exact rfl)) ?_; (try simp only [nA, Nat.reduceBEq, Nat.reduceEqDiff, ↓reduceIte, Nat.reduceAdd, Nat.reduceSub])
    (refine awP (op_addi rfl rfl rfl (by omega)) ?_); (try simp only [nA, Nat.reduceBEq, Nat.reduceEqDiff, ↓reduceIte, Nat.reduceAdd, Nat.reduceSub])
    refine awP (op_move rfl rfl) ?_; (simp only [nA, ↓reduceIte])
    refine awJ (op_call1 rfl en8 (C8 (k := rN l 2 k) (n := 1048577) hl (by decide)) (by exact rfl) (RL.cons .ptr (RL.cons (.base (by exact View.same rfl)) (RL.nil))) (by exact ⟨_, _, _, rfl, rfl, rfl⟩) (by exact rfl) (by exact rfl) (by exact rfl)) ?_; (try simp only [nA, Nat.reduceBEq, Nat.reduceEqDiff, ↓reduceIte, Nat.reduceAdd, Nat.reduceSub])
    refine awP (op_move rfl rfl) ?_; (simp only [nA, ↓reduceIte])
    refine awJ (op_call1 rfl en23 (C23 (k := rN l 3 k) hl) (by exact rfl) (RL.cons .ptr (RL.nil)) (by exact ⟨_, _, _, rfl, rfl, rfl⟩) (by exact rfl) (by exact rfl) (by exact rfl)) ?_; (try simp only [nA, Nat.reduceBEq, Nat.reduceEqDiff, ↓reduceIte, Nat.reduceAdd, Nat.reduceSub])
    refine awP (op_build2 (xs := [_, _, _, _, _, _]) rfl pl35 ze35 [(0, [_]), (1, [_]), (2, [_, _, _, _])] rfl rfl rfl) ?_; (simp only [nA, ↓reduceIte])
    (refine awP (op_fa_ptr rfl rfl rfl fl42_8 (by exact sz35) (by decide) rfl) ?_); (try simp only [nA, Nat.reduceBEq, Nat.reduceEqDiff, ↓reduceIte, Nat.reduceAdd, Nat.reduceSub])
    refine awJ (op_store rfl rfl rfl rfl rfl rfl sz35 rfl (bl rfl) rfl) ?_; (try simp only [nA, Nat.reduceBEq, Nat.reduceEqDiff, ↓reduceIte, Nat.reduceAdd, Nat.reduceSub])
    refine AWL.nil ?_
    (try simp only [thenE, inBlk, Nat.reduceEqDiff, ↓reduceIte])
    exact ⟨(_, _, _), (evV_5 hk).symm, ⟨rfl, rfl, trivial⟩, (by rfl), (by trivial)⟩
   have hc8 := hc
   refine AW.join (fun (b : Bool) => [(0, .ptr 0 0 0 0), (2, .ptr 1 1 0 0), (3, .ptr 2 2 0 0), (11, .v (.int .i64 (evK l k))), (73, .v (.bool b))]) (fun b => ⟨[(0, .own 53 [srcRow l (rN l 1 k)]), (1, .own 42 [evC (ev0 0) (.v (.slice none 0 0)) (.v (.slice none 0 0))]), (2, .own 42 [evC (ev0 (evK l k)) (.v (.slice none 0 0)) (.v (.slice none 0 0))])], 3⟩) (fun b => b = true ↔ (evK l k) = 6 ∨ (evK l k) = 7) ?_ ?_
   ·
    (refine AW.seq_k ?_; intro K hK)
    refine AW.region ?_
    (refine awP (op_eql rfl rfl rfl) ?_); (try simp only [nA, Nat.reduceBEq, Nat.reduceEqDiff, ↓reduceIte, Nat.reduceAdd, Nat.reduceSub])
    refine awP (op_assign rfl rfl) ?_; (simp only [nA])
    refine AWL.nil ?_
    (refine hK _ ?_; clear hK K; (try simp only [nA, Nat.reduceBEq, Nat.reduceEqDiff, ↓reduceIte, Nat.reduceAdd, Nat.reduceSub]))
    refine AW.cond rfl rfl rfl (fun hc => ?_) (fun hc => ?_)
    ·
     have hc9 := hc
     refine AW.skip ?_
     exact ⟨decide ((evK l k) = 6), ⟨fun h => .inl (of_decide_eq_true h), fun _ => hc9⟩, ⟨rfl, rfl, rfl, rfl, rfl, trivial⟩, (by rfl), (by rfl)⟩
    have hc9 := hc
    refine AW.region ?_
    (refine awP (op_eql rfl rfl rfl) ?_); (try simp only [nA, Nat.reduceBEq, Nat.reduceEqDiff, ↓reduceIte, Nat.reduceAdd, Nat.reduceSub])
    refine awP (op_assign rfl rfl) ?_; (simp only [nA])
    refine AWL.nil ?_
    exact ⟨decide ((evK l k) = 7), ⟨fun h => .inr (of_decide_eq_true h), fun h => h.elim (fun h => absurd h (of_decide_eq_false hc9)) decide_eq_true⟩, ⟨rfl, rfl, rfl, rfl, rfl, trivial⟩, (by rfl), (by rfl)⟩
   intro b6 ρ hb6; simp only [updL]
   refine AW.cond rfl rfl rfl (fun hc => ?_) (fun hc => ?_)
   ·
    have hc10 := hc; have hk := hb6.1 hc10; refine AW.gh (Gh.slot (r := 2) (es' := [(ev0 (evK l k)).av]) rfl rfl (le_ev0s (evK l k))) ?_; (try simp only [nA, Nat.reduceBEq, Nat.reduceEqDiff, ↓reduceIte, Nat.reduceAdd, Nat.reduceSub])
    refine AW.region ?_
    refine awP (op_move rfl rfl) ?_; (simp only [nA])
    refine awJ (op_call1 rfl en8 (C8 (k := rN l 1 k) (n := 24) hl (by decide)) (by exact rfl) (RL.cons .ptr (RL.cons (.base (by exact View.same rfl)) (RL.nil))) (by exact ⟨_, _, _, rfl, rfl, rfl⟩) (by exact rfl) (by exact rfl) (by exact rfl)) ?_; (try simp only [nA, Nat.reduceBEq, Nat.reduceEqDiff, ↓reduceIte, Nat.reduceAdd, Nat.reduceSub])
    (refine awP (op_fa_ptr rfl rfl rfl fl42_4 (by exact sz3) (by decide) rfl) ?_); (try simp only [nA, Nat.reduceBEq, Nat.reduceEqDiff, ↓reduceIte, Nat.reduceAdd, Nat.reduceSub])
    refine awJ (op_store rfl rfl rfl rfl rfl rfl sz3 rfl (bl rfl) rfl) ?_; (simp only [nA, ↓reduceIte])
    refine AWL.nil ?_
    (try simp only [thenE, inBlk, Nat.reduceEqDiff, ↓reduceIte])
    exact ⟨(_, _, _), (evV_6 hk).symm, ⟨rfl, rfl, trivial⟩, (by rfl), (by trivial)⟩
   have hc10 := hc
   refine AW.join (fun (b : Bool) => [(0, .ptr 0 0 0 0), (2, .ptr 1 1 0 0), (3, .ptr 2 2 0 0), (11, .v (.int .i64 (evK l k))), (79, .v (.bool b))]) (fun b => ⟨[(0, .own 53 [srcRow l (rN l 1 k)]), (1, .own 42 [evC (ev0 0) (.v (.slice none 0 0)) (.v (.slice none 0 0))]), (2, .own 42 [evC (ev0 (evK l k)) (.v (.slice none 0 0)) (.v (.slice none 0 0))])], 3⟩) (fun b => b = true ↔ (evK l k) = 8 ∨ (evK l k) = 9) ?_ ?_
   ·
    (refine AW.seq_k ?_; intro K hK)
    refine AW.region ?_
    (refine awP (op_eql rfl rfl rfl) ?_); (try simp only [nA, Nat.reduceBEq, Nat.reduceEqDiff, ↓reduceIte, Nat.reduceAdd, Nat.reduceSub])
    refine awP (op_assign rfl rfl) ?_; (simp only [nA])
    refine AWL.nil ?_
    (refine hK _ ?_; clear hK K; (try simp only [nA, Nat.reduceBEq, Nat.reduceEqDiff, ↓reduceIte, Nat.reduceAdd, Nat.reduceSub]))
    refine AW.cond rfl rfl rfl (fun hc => ?_) (fun hc => ?_)
    ·
     have hc11 := hc
     refine AW.skip ?_
     exact ⟨decide ((evK l k) = 8), ⟨fun h => .inl (of_decide_eq_true h), fun _ => hc11⟩, ⟨rfl, rfl, rfl, rfl, rfl, trivial⟩, (by rfl), (by rfl)⟩
    have hc11 := hc
    refine AW.region ?_
    (refine awP (op_eql rfl rfl rfl) ?_); (try simp only [nA, Nat.reduceBEq, Nat.reduceEqDiff, ↓reduceIte, Nat.reduceAdd, Nat.reduceSub])
    refine awP (op_assign rfl rfl) ?_; (simp only [nA])
    refine AWL.nil ?_
    exact ⟨decide ((evK l k) = 9), ⟨fun h => .inr (of_decide_eq_true h), fun h => h.elim (fun h => absurd h (of_decide_eq_false hc11)) decide_eq_true⟩, ⟨rfl, rfl, rfl, rfl, rfl, trivial⟩, (by rfl), (by rfl)⟩
   intro b8 ρ hb8; simp only [updL]
   refine AW.cond rfl rfl rfl (fun hc => ?_) (fun hc => ?_)
   ·
    have hc12 := hc; have hk := hb8.1 hc12; refine AW.gh (Gh.slot (r := 2) (es' := [(ev0 (evK l k)).av]) rfl rfl (le_ev0s (evK l k))) ?_; (try simp only [nA, Nat.reduceBEq, Nat.reduceEqDiff, ↓reduceIte, Nat.reduceAdd, Nat.reduceSub])
    (refine AW.seq_k ?_; intro K hK)
    refine AW.region ?_
    refine awP (op_move rfl rfl) ?_; (simp only [nA])
    refine awP (op_move rfl rfl) ?_; (simp only [nA, ↓reduceIte])
    refine awJ (op_call1 rfl en8 (C8 (k := rN l 1 k) (n := 6) hl (by decide)) (by exact rfl) (RL.cons .ptr (RL.cons (.base (by exact View.same rfl)) (RL.nil))) (by exact ⟨_, _, _, rfl, rfl, rfl⟩) (by exact rfl) (by exact rfl) (by exact rfl)) ?_; (try simp only [nA, Nat.reduceBEq, Nat.reduceEqDiff, ↓reduceIte, Nat.reduceAdd, Nat.reduceSub])
    refine awP (op_add (z := evD l k) rfl rfl rfl (by rw [IntKind.wrap_i64]; unfold evD; omega)) ?_; (try simp only [nA, Nat.reduceBEq, Nat.reduceEqDiff, ↓reduceIte, Nat.reduceAdd, Nat.reduceSub])
    refine awJ (op_call1 rfl en24 (C24 (k := rN l 2 k) (d := evD l k) hl) (by exact rfl) (RL.cons .ptr (RL.cons (.base (by exact View.same rfl)) (RL.nil))) (by exact ⟨_, _, _, rfl, rfl, rfl⟩) (by exact rfl) (by exact rfl) (by exact rfl)) ?_; (try simp only [nA, Nat.reduceBEq, Nat.reduceEqDiff, ↓reduceIte, Nat.reduceAdd, Nat.reduceSub])
    (refine awP (op_fa_ptr rfl rfl rfl fl42_10 (by exact sz39) (by decide) rfl) ?_); (try simp only [nA, Nat.reduceBEq, Nat.reduceEqDiff, ↓reduceIte, Nat.reduceAdd, Nat.reduceSub])
    refine awJ (op_store rfl rfl rfl rfl rfl rfl sz39 rfl (bl rfl) rfl) ?_; (try simp only [nA, Nat.reduceBEq, Nat.reduceEqDiff, ↓reduceIte, Nat.reduceAdd, Nat.reduceSub])
    refine AWL.nil ?_
    (refine hK _ ?_; clear hK K; (skip))
    (refine AW.seq_k ?_; intro K hK)
    refine AW.region ?_
    (refine awP (op_fa_ptr rfl rfl rfl fl42_10 (by exact sz39) (by decide) rfl) ?_); (try simp only [nA, Nat.reduceBEq, Nat.reduceEqDiff, ↓reduceIte, Nat.reduceAdd, Nat.reduceSub])
    (refine awP (op_fa_ptr rfl rfl rfl fl39_3 (by exact sz3) (by decide) rfl) ?_); (simp only [nA, Nat.reduceBEq, Nat.reduceEqDiff, ↓reduceIte])
    refine awJ (op_store rfl rfl rfl rfl rfl rfl sz3 rfl (bl rfl) rfl) ?_; (try simp only [nA, Nat.reduceBEq, Nat.reduceEqDiff, ↓reduceIte, Nat.reduceAdd, Nat.reduceSub])
    refine AWL.nil ?_
    (refine hK _ ?_; clear hK K; (skip))
    (refine AW.seq_k ?_; intro K hK)
    refine AW.region ?_
    (refine awP (op_fa_ptr rfl rfl rfl fl42_0 (by exact sz3) (by decide) rfl) ?_); (try simp only [nA, Nat.reduceBEq, Nat.reduceEqDiff, ↓reduceIte, Nat.reduceAdd, Nat.reduceSub])
    (refine awR (op_load_ptr1 rfl rfl rfl rfl ag3 rfl rfl) ?_); (try simp only [nA, Nat.reduceBEq, Nat.reduceEqDiff, ↓reduceIte, Nat.reduceAdd, Nat.reduceSub])
    (refine awP (op_eql rfl rfl rfl) ?_); (try simp only [nA, Nat.reduceBEq, Nat.reduceEqDiff, ↓reduceIte, Nat.reduceAdd, Nat.reduceSub])
    refine AWL.nil ?_
    (refine hK _ ?_; clear hK K; (skip))
    refine AW.cond rfl rfl rfl (fun hc => ?_) (fun hc => ?_)
    ·
     have hc13 := hc
     refine AW.region ?_
     (refine awP (op_fa_ptr rfl rfl rfl fl42_10 (by exact sz39) (by decide) rfl) ?_); (try simp only [nA, Nat.reduceBEq, Nat.reduceEqDiff, ↓reduceIte, Nat.reduceAdd, Nat.reduceSub])
     (refine awP (op_fa_ptr rfl rfl rfl fl39_3 (by exact sz3) (by decide) rfl) ?_); (simp only [nA, Nat.reduceBEq, Nat.reduceEqDiff, ↓reduceIte])
     refine awJ (op_store rfl rfl rfl rfl rfl rfl sz3 rfl (bl rfl) rfl) ?_; (try simp only [nA, Nat.reduceBEq, Nat.reduceEqDiff, ↓reduceIte, Nat.reduceAdd, Nat.reduceSub])
     refine AWL.nil ?_
     (try simp only [thenE, inBlk, Nat.reduceEqDiff, ↓reduceIte])
     exact ⟨(_, _, _), (evV_9 (of_decide_eq_true hc13)).symm, ⟨rfl, rfl, trivial⟩, (by rfl), (by trivial)⟩
    have hc13 := hc
    refine AW.region ?_
    refine awP (op_move rfl rfl) ?_; (simp only [nA, ↓reduceIte])
    refine awJ (op_call1 rfl en8 (C8 (k := rN l 9 k) (n := 24) hl (by decide)) (by exact rfl) (RL.cons .ptr (RL.cons (.base (by exact View.same rfl)) (RL.nil))) (by exact ⟨_, _, _, rfl, rfl, rfl⟩) (by exact rfl) (by exact rfl) (by exact rfl)) ?_; (try simp only [nA, Nat.reduceBEq, Nat.reduceEqDiff, ↓reduceIte, Nat.reduceAdd, Nat.reduceSub])
    (refine awP (op_fa_ptr rfl rfl rfl fl42_4 (by exact sz3) (by decide) rfl) ?_); (try simp only [nA, Nat.reduceBEq, Nat.reduceEqDiff, ↓reduceIte, Nat.reduceAdd, Nat.reduceSub])
    refine awJ (op_store rfl rfl rfl rfl rfl rfl sz3 rfl (bl rfl) rfl) ?_; (simp only [nA, ↓reduceIte])
    refine AWL.nil ?_
    (try simp only [thenE, inBlk, Nat.reduceEqDiff, ↓reduceIte])
    exact ⟨(_, _, _), (evV_8 (by have := of_decide_eq_false hc13; omega)).symm, ⟨rfl, rfl, trivial⟩, (by rfl), (by trivial)⟩
   have hc12 := hc
   (refine AW.seq_k ?_; intro K hK)
   refine AW.region ?_
   (refine awP (op_eql rfl rfl rfl) ?_); (try simp only [nA, Nat.reduceBEq, Nat.reduceEqDiff, ↓reduceIte, Nat.reduceAdd, Nat.reduceSub])
   refine awP (op_assign rfl rfl) ?_; (simp only [nA])
   refine AWL.nil ?_
   (refine hK _ ?_; clear hK K; (skip))
   refine AW.cond rfl rfl rfl (fun hc => ?_) (fun hc => ?_)
   ·
    have hc14 := hc; have hk := of_decide_eq_true hc14; refine AW.gh (Gh.slot (r := 2) (es' := [(ev0 (evK l k)).av]) rfl rfl (le_ev0s (evK l k))) ?_; (try simp only [nA, Nat.reduceBEq, Nat.reduceEqDiff, ↓reduceIte, Nat.reduceAdd, Nat.reduceSub])
    refine AW.region ?_
    refine awP (op_move rfl rfl) ?_; (simp only [nA, ↓reduceIte])
    refine awJ (op_call1 rfl en8 (C8 (k := rN l 1 k) (n := 6) hl (by decide)) (by exact rfl) (RL.cons .ptr (RL.cons (.base (by exact View.same rfl)) (RL.nil))) (by exact ⟨_, _, _, rfl, rfl, rfl⟩) (by exact rfl) (by exact rfl) (by exact rfl)) ?_; (try simp only [nA, Nat.reduceBEq, Nat.reduceEqDiff, ↓reduceIte, Nat.reduceAdd, Nat.reduceSub])
    refine awP (op_add (z := evD l k) rfl rfl rfl (by rw [IntKind.wrap_i64]; unfold evD; omega)) ?_; (try simp only [nA, Nat.reduceBEq, Nat.reduceEqDiff, ↓reduceIte, Nat.reduceAdd, Nat.reduceSub])
    (refine awP (op_fa_ptr rfl rfl rfl fl42_9 (by exact sz3) (by decide) rfl) ?_); (try simp only [nA, Nat.reduceBEq, Nat.reduceEqDiff, ↓reduceIte, Nat.reduceAdd, Nat.reduceSub])
    refine awJ (op_store rfl rfl rfl rfl rfl rfl sz3 rfl (bl rfl) rfl) ?_; (simp only [nA, ↓reduceIte])
    refine AWL.nil ?_
    (try simp only [thenE, inBlk, Nat.reduceEqDiff, ↓reduceIte])
    exact ⟨(_, _, _), (evV_11 hk).symm, ⟨rfl, rfl, trivial⟩, (by rfl), (by trivial)⟩
   have hc14 := hc
   (refine AW.seq_k ?_; intro K hK)
   refine AW.region ?_
   (refine awP (op_eql rfl rfl rfl) ?_); (try simp only [nA, Nat.reduceBEq, Nat.reduceEqDiff, ↓reduceIte, Nat.reduceAdd, Nat.reduceSub])
   refine awP (op_assign rfl rfl) ?_; (simp only [nA])
   refine AWL.nil ?_
   (refine hK _ ?_; clear hK K; (skip))
   refine AW.cond rfl rfl rfl (fun hc => ?_) (fun hc => ?_)
   ·
    have hc15 := hc; have hk := of_decide_eq_true hc15; refine AW.gh (Gh.slot2 (r := 2) (es' := [evC (ev0 (evK l k)) (.ro []) (.own 39 [])]) rfl rfl (le_ko _)) ?_; (try simp only [nA, Nat.reduceBEq, Nat.reduceEqDiff, ↓reduceIte, Nat.reduceAdd, Nat.reduceSub])
    (refine AW.seq_k ?_; intro K hK)
    refine AW.region ?_
    refine awP (op_move rfl rfl) ?_; (simp only [nA, ↓reduceIte])
    refine awJ (op_call1 rfl en8 (C8 (k := rN l 1 k) (n := 6) hl (by decide)) (by exact rfl) (RL.cons .ptr (RL.cons (.base (by exact View.same rfl)) (RL.nil))) (by exact ⟨_, _, _, rfl, rfl, rfl⟩) (by exact rfl) (by exact rfl) (by exact rfl)) ?_; (try simp only [nA, Nat.reduceBEq, Nat.reduceEqDiff, ↓reduceIte, Nat.reduceAdd, Nat.reduceSub])
    refine awP (op_add (z := evD l k) rfl rfl rfl (by rw [IntKind.wrap_i64]; unfold evD; omega)) ?_; (try simp only [nA, Nat.reduceBEq, Nat.reduceEqDiff, ↓reduceIte, Nat.reduceAdd, Nat.reduceSub])
    (refine awP (op_fa_ptr rfl rfl rfl fl42_9 (by exact sz3) (by decide) rfl) ?_); (try simp only [nA, Nat.reduceBEq, Nat.reduceEqDiff, ↓reduceIte, Nat.reduceAdd, Nat.reduceSub])
    refine awJ (op_store rfl rfl rfl rfl rfl rfl sz3 rfl (bl rfl) rfl) ?_; (simp only [nA, ↓reduceIte])
    refine AWL.nil ?_
    (refine hK _ ?_; clear hK K; (skip))
    (refine AW.seq_k ?_; intro K hK)
    refine AW.region ?_
    refine awP (op_move rfl rfl) ?_; (simp only [nA, ↓reduceIte])
    refine awJ (op_call1 rfl en8 (C8 (k := rN l 2 k) (n := 6) hl (by decide)) (by exact rfl) (RL.cons .ptr (RL.cons (.base (by exact View.same rfl)) (RL.nil))) (by exact ⟨_, _, _, rfl, rfl, rfl⟩) (by exact rfl) (by exact rfl) (by exact rfl)) ?_; (try simp only [nA, Nat.reduceBEq, Nat.reduceEqDiff, ↓reduceIte, Nat.reduceAdd, Nat.reduceSub])
    refine awP (op_assign rfl rfl) ?_; (simp only [nA])
    refine AWL.nil ?_
    (refine hK _ ?_; clear hK K; (skip))
    refine AW.block ?_
    refine AW.loopI (fun (q : Nat × Nat × List Op × Nat) => [(0, .ptr 0 0 0 0), (2, .ptr 1 1 0 0), (3, .ptr 2 2 0 0), (5, .v (.int .i64 (q.1 : Nat)))]) (fun q => ⟨[(0, .own 53 [srcRow l q.2.1]), (1, .own 42 [evC (ev0 0) (.v (.slice none 0 0)) (.v (.slice none 0 0))]), (2, .own 42 [evC ({ ev0 (evK l k) with device := evD l k } : Ev) (.ro []) (.own 39 (q.2.2.1.map Op.av))])], q.2.2.2⟩) (fun q => q.1 ≤ 6 ∧ opsV l (evD l k) q.1 q.2.1 q.2.2.1 = opsV l (evD l k) (gmod (rawV l (rN l 2 k)) 6).toNat (rN l 3 k) [] ∧ q.2.2.1.length + q.1 ≤ 6) (fun q => q.1) ((gmod (rawV l (rN l 2 k)) 6).toNat, rN l 3 k, [], 3) ⟨by dsimp only; omega, rfl, by simp; omega⟩ ⟨rfl, rfl, rfl, by dsimp only; rw [Int.toNat_of_nonneg hg6.1]; rfl, trivial⟩ rfl ?_; rintro ⟨i, kk, acc, ep⟩ ρ ⟨hi, hR, hA⟩; dsimp only at hi hR hA ⊢; simp only [updL]
    (refine AW.seq_k ?_; intro K hK)
    (refine AW.seq_k ?_; intro K hK)
    refine AW.region ?_
    refine awP (op_move rfl rfl) ?_; (simp only [nA, ↓reduceIte])
    refine awP (op_gtr rfl rfl rfl) ?_; (try simp only [nA, Nat.reduceBEq, Nat.reduceEqDiff, ↓reduceIte, Nat.reduceAdd, Nat.reduceSub])
    refine AWL.nil ?_
    (refine hK _ ?_; clear hK K; (skip))
    refine AW.cond rfl rfl rfl (fun hc => ?_) (fun hc => ?_)
    ·
     have hc16 := hc; have hlt : 0 < i := (by have := of_decide_eq_true hc16; omega); obtain ⟨i, rfl⟩ : ∃ j, i = j + 1 := ⟨i - 1, by omega⟩; rw [show opsV l (evD l k) (i + 1) kk acc = opsV l (evD l k) i (rN l 7 kk) (acc ++ [opV l kk (evD l k)]) from rfl] at hR
     refine AW.skip ?_
     (refine hK _ ?_; clear hK K; (skip))
     (refine AW.seq_k ?_; intro K hK)
     refine AW.block ?_
     refine AW.ghE (GhE.unnest (r := 2) (row := evC ({ ev0 (evK l k) with device := evD l k } : Ev) (.ro []) (.own 39 (acc.map Op.av))) 0 27 rfl rfl rfl) ?_; intro u hu; (try simp only [nA, Nat.reduceBEq, Nat.reduceEqDiff, ↓reduceIte, Nat.reduceAdd, Nat.reduceSub])
     refine AW.aeo (fun T' => T'.slots[2]? = some (2, .own 42 [evC ({ ev0 (evK l k) with device := evD l k } : Ev) (.ro []) (.v u)])) mix rfl ?_
     refine aePo 0 rfl (fun T' ok => op_fa_ptr rfl rfl ok fl42_11 (by exact sz40) (by decide) rfl) rfl (by kernel_rfl) (by kernel_rfl) ?_; (simp only [nA, Nat.reduceBEq, Nat.reduceEqDiff, ↓reduceIte])
     refine aeRo 1 rfl (fun T' ok => op_load_ptr1 (row := evC ({ ev0 (evK l k) with device := evD l k } : Ev) (.ro []) (.v u)) rfl rfl ok rfl ag40 rfl rfl) rfl (by kernel_rfl) (by kernel_rfl) ?_; (try simp only [nA, Nat.reduceBEq, Nat.reduceEqDiff, ↓reduceIte, Nat.reduceAdd, Nat.reduceSub])
     refine aePo 2 rfl (fun T' ok => op_move rfl rfl) rfl (by kernel_rfl) (by kernel_rfl) ?_; (simp only [nA, ↓reduceIte])
     refine aePo 3 rfl (fun T' ok => op_fa_ptr rfl rfl ok fl42_9 (by exact sz3) (by decide) rfl) rfl (by kernel_rfl) (by kernel_rfl) ?_; (try simp only [nA, Nat.reduceBEq, Nat.reduceEqDiff, ↓reduceIte, Nat.reduceAdd, Nat.reduceSub])
     refine aeRo 4 rfl (fun T' ok => op_load_ptr1 (row := evC ({ ev0 (evK l k) with device := evD l k } : Ev) (.ro []) (.v u)) rfl rfl ok rfl ag3 rfl rfl) rfl (by kernel_rfl) (by kernel_rfl) ?_; (try simp only [nA, Nat.reduceBEq, Nat.reduceEqDiff, ↓reduceIte, Nat.reduceAdd, Nat.reduceSub])
     refine aeJo 5 rfl (op_call1 rfl en24 (C24 (k := kk) (d := evD l k) hl) (by exact rfl) (RL.cons .ptr (RL.cons (.base (by exact View.same rfl)) (RL.nil))) (by exact ⟨_, _, _, rfl, rfl, rfl⟩) (by exact rfl) (by exact rfl) (by exact rfl)) (by kernel_rfl) rfl ?_; (try simp only [nA, Nat.reduceBEq, Nat.reduceEqDiff, ↓reduceIte, Nat.reduceAdd, Nat.reduceSub])
     refine aeJo 6 rfl (OpJ.frz (op_buildSlice rfl [(0, (opV l kk (evD l k)).av)] [(opV l kk (evD l k)).av] Tryz.underlying40 ze39 rfl (by simp) rfl (by simp) rfl (bl rfl) (by simp [maxLen])) (op_flat [(opV l kk (evD l k))]) rfl) (by kernel_rfl) rfl ?_; (try simp only [nA, Nat.reduceBEq, Nat.reduceEqDiff, ↓reduceIte, Nat.reduceAdd, Nat.reduceSub])
     refine aeJo 7 rfl (OpJ.nm (t := 117) (r := 3) rfl rfl (op_app (rows := [(opV l kk (evD l k)).av]) rfl rfl rfl rfl (by simp) .ro Tryz.underlying40 ze39 (by decide) (by simp) (by simp; omega) (by decide) (es' := (acc ++ [(opV l kk (evD l k))]).map Op.av) (by simp) (n := (acc ++ [(opV l kk (evD l k))]).length) (by simp))) (by kernel_rfl) rfl ?_; (try simp only [nA, Nat.reduceBEq, Nat.reduceEqDiff, ↓reduceIte, Nat.reduceAdd, Nat.reduceSub])
     refine aePo 8 rfl (fun T' ok => op_fa_ptr rfl rfl ok fl42_11 (by exact sz40) (by decide) rfl) rfl (by kernel_rfl) (by kernel_rfl) ?_; (try simp only [nA, Nat.reduceBEq, Nat.reduceEqDiff, ↓reduceIte, Nat.reduceAdd, Nat.reduceSub])
     refine aeLo 9 rfl (op_store_nest (r := 2) (q := 3) rfl rfl rfl rfl (row := evC ({ ev0 (evK l k) with device := evD l k } : Ev) (.ro []) (.v u)) rfl sz40 rfl (by decide) (by simp) (by simp) (es2 := [evC ({ ev0 (evK l k) with device := evD l k } : Ev) (.ro []) (.own 39 ((acc ++ [(opV l kk (evD l k))]).map Op.av))]) rfl) (by kernel_rfl) (by kernel_rfl) ?_; (try simp only [nA, Nat.reduceBEq, Nat.reduceEqDiff, ↓reduceIte, Nat.reduceAdd, Nat.reduceSub])
     refine aeDoneo (by kernel_rfl) ?_
     (try simp only [thenE, inBlk, Nat.reduceEqDiff, ↓reduceIte])
     (refine hK _ ?_; clear hK K; (skip))
     refine AW.region ?_
     refine awP (op_move rfl rfl) ?_; (simp only [nA, ↓reduceIte])
     (refine awP (op_subi rfl rfl rfl (by omega)) ?_); (try simp only [nA, Nat.reduceBEq, Nat.reduceEqDiff, ↓reduceIte, Nat.reduceAdd, Nat.reduceSub])
     refine awP (op_assign rfl rfl) ?_; (simp only [nA])
     refine AWL.gh (Gh.drop 3) ?_; (try simp only [nA, Nat.reduceBEq, Nat.reduceEqDiff, ↓reduceIte, Nat.reduceAdd, Nat.reduceSub])
     refine AWL.nil ?_
     refine ⟨(i, rN l 7 kk, acc ++ [(opV l kk (evD l k))], _), ⟨by dsimp only; omega, hR, by dsimp only; rw [List.length_append]; simp only [List.length_cons, List.length_nil]; omega⟩, by dsimp only; omega, ⟨rfl, rfl, rfl, by dsimp only; exact congrArg (fun z => AV.v (.int .i64 z)) (by omega), trivial⟩, (by rfl), (by rfl)⟩
    have hc16 := hc; have hi0 : i = 0 := (by have := of_decide_eq_false hc16; omega); subst hi0; rw [show opsV l (evD l k) 0 kk acc = (acc, kk) from rfl] at hR; refine AW.gh (Gh.freezeC (r := 2) 0 27 rfl rfl rfl (op_flat _) rfl) ?_; (try simp only [nA, Nat.reduceBEq, Nat.reduceEqDiff, ↓reduceIte, Nat.reduceAdd, Nat.reduceSub])
    refine AW.exit ?_; (try simp only [thenE, inBlk, Nat.reduceEqDiff, ↓reduceIte])
    clear hK K
    (try simp only [thenE, inBlk, Nat.reduceEqDiff, ↓reduceIte])
    exact ⟨(_, _, _), (by rw [evV_12 hk, ← hR]), ⟨rfl, rfl, trivial⟩, (by rfl), (by trivial)⟩
   have hc15 := hc
   (refine AW.seq_k ?_; intro K hK)
   refine AW.region ?_
   (refine awP (op_eql rfl rfl rfl) ?_); (try simp only [nA, Nat.reduceBEq, Nat.reduceEqDiff, ↓reduceIte, Nat.reduceAdd, Nat.reduceSub])
   refine awP (op_assign rfl rfl) ?_; (simp only [nA])
   refine AWL.nil ?_
   (refine hK _ ?_; clear hK K; (skip))
   refine AW.cond rfl rfl rfl (fun hc => ?_) (fun hc => ?_)
   ·
    have hc17 := hc; have hk := of_decide_eq_true hc17; refine AW.gh (Gh.slot (r := 2) (es' := [(ev0 (evK l k)).av]) rfl rfl (le_ev0s (evK l k))) ?_; (try simp only [nA, Nat.reduceBEq, Nat.reduceEqDiff, ↓reduceIte, Nat.reduceAdd, Nat.reduceSub])
    refine AW.region ?_
    refine awP (op_move rfl rfl) ?_; (simp only [nA, ↓reduceIte])
    refine awJ (op_call1 rfl en23 (C23 (k := rN l 1 k) hl) (by exact rfl) (RL.cons .ptr (RL.nil)) (by exact ⟨_, _, _, rfl, rfl, rfl⟩) (by exact rfl) (by exact rfl) (by exact rfl)) ?_; (try simp only [nA, Nat.reduceBEq, Nat.reduceEqDiff, ↓reduceIte, Nat.reduceAdd, Nat.reduceSub])
    (refine awP (op_fa_ptr rfl rfl rfl fl42_12 (by exact sz33) (by decide) rfl) ?_); (try simp only [nA, Nat.reduceBEq, Nat.reduceEqDiff, ↓reduceIte, Nat.reduceAdd, Nat.reduceSub])
    refine awJ (op_store rfl rfl rfl rfl rfl rfl sz33 rfl (bl rfl) rfl) ?_; (try simp only [nA, Nat.reduceBEq, Nat.reduceEqDiff, ↓reduceIte, Nat.reduceAdd, Nat.reduceSub])
    refine AWL.nil ?_
    (try simp only [thenE, inBlk, Nat.reduceEqDiff, ↓reduceIte])
    exact ⟨(_, _, _), (evV_13 hk).symm, ⟨rfl, rfl, trivial⟩, (by rfl), (by trivial)⟩
   have hc17 := hc; refine AW.gh (Gh.slot (r := 2) (es' := [(ev0 (evK l k)).av]) rfl rfl (le_ev0s (evK l k))) ?_; (try simp only [nA, Nat.reduceBEq, Nat.reduceEqDiff, ↓reduceIte, Nat.reduceAdd, Nat.reduceSub])
   refine AW.skip ?_
   (try simp only [thenE, inBlk, Nat.reduceEqDiff, ↓reduceIte])
   exact ⟨(_, _, _), (evV_0 (by have h2 : ¬ ((evK l k) = 2 ∨ (evK l k) = 10) := (fun h => by have := hb2.2 h; rw [this] at hc3; cases hc3); have h6 : ¬ ((evK l k) = 6 ∨ (evK l k) = 7) := (fun h => by have := hb6.2 h; rw [this] at hc10; cases hc10); have h8 : ¬ ((evK l k) = 8 ∨ (evK l k) = 9) := (fun h => by have := hb8.2 h; rw [this] at hc12; cases hc12); exact ⟨of_decide_eq_false hc1, h2, of_decide_eq_false hc4, of_decide_eq_false hc7, of_decide_eq_false hc8, h6, h8, of_decide_eq_false hc14, of_decide_eq_false hc15, of_decide_eq_false hc17⟩)).symm, ⟨rfl, rfl, trivial⟩, (by rfl), (by trivial)⟩
  rintro ⟨y, kk, ep⟩ ρ hy; dsimp only at hy ⊢; rw [← hy]; simp only [updL]
  (refine AW.seq_k ?_; intro K hK)
  refine AW.region ?_
  (refine awR (op_load_ptr rfl rfl rfl rfl ag42 sz42 (bl rfl) rfl) ?_); (try simp only [nA, Nat.reduceBEq, Nat.reduceEqDiff, ↓reduceIte, Nat.reduceAdd, Nat.reduceSub])
  refine awJ (op_store rfl rfl rfl rfl rfl rfl sz42 rfl (bl rfl) rfl) ?_; (try simp only [nA, Nat.reduceBEq, Nat.reduceEqDiff, ↓reduceIte, Nat.reduceAdd, Nat.reduceSub])
  refine AWL.nil ?_
  (refine hK _ ?_; clear hK K; (skip))
  skip
  refine AW.ret ?_; (try simp only [thenE, inBlk, Nat.reduceEqDiff, ↓reduceIte]); exact RQ.of (.inl rfl) rfl (.cell (bl rfl) rfl rfl rfl ag42 sz42 (bl rfl) rfl rfl .nil) (by simp) rfl (one_out rfl)
end Go.Proofs.YtfmnaigedgmhoaaGreatDoor
namespace Go.Proofs.YtfmnaigedgmhoaaGreatDoor
open Go.RowKit
set_option linter.unusedSimpArgs false
set_option linter.unusedVariables false
set_option maxRecDepth 100000
theorem textV_mem {l : List Int} {k : Nat} {ss : List ByteArray} (h : 1 ≤ ss.length) : textV l k ss ∈ ss := by
  have hg := gmod_bd (x := rawV l k) (n := (ss.length : Nat)) (by omega)
  unfold textV
  rw [List.getD_eq_getElem?_getD, List.getElem?_eq_getElem (by omega)]
  exact List.getElem_mem _
theorem plates_ok (i : Int) : plB (platesP i) = true := by
  have hg := gmod_bd (x := i) (n := 1000) (by decide)
  unfold plB platesP
  simp only [Bool.and_eq_true, decide_eq_true_eq]
  omega
theorem piece_ok (l : List Int) (k : Nat) : piB (pieceV l k 1000) = true := by
  have hg := gmod_bd (x := rawV l (rawN l k)) (n := 40) (by decide)
  have hc : ∀ c ∈ catsL, 0 ≤ c ∧ c ≤ 4 := by decide
  have h2 := hc _ (pickV_mem (l := l) (k := rawN l (rawN l k)) (xs := catsL) (by decide))
  unfold piB
  rw [show (pieceV l k 1000).plate = platesP (gmod (rawV l k) 1000) from rfl, plates_ok, Bool.true_and, Bool.and_eq_true, inB_iff, inB_iff]
  exact ⟨⟨by show (1 : Int) ≤ 1 + _; omega, by show 1 + _ ≤ (999 : Int); omega⟩, h2⟩
theorem op_ok (l : List Int) (k : Nat) {d : Int} (hd : 1 ≤ d ∧ d ≤ 6) (kd : Int) (hk : kd = 1 ∨ kd = 2) : opB { opV l k d with kind := kd } = true := by
  have h0 := gmod_bd (x := rawV l k) (n := 1048577) (by decide)
  have h1 := gmod_bd (x := rawV l (rN l 1 k)) (n := 99) (by decide)
  have h3 := gmod_bd (x := rawV l (rN l 3 k)) (n := 999) (by decide)
  have a1 : inB (gmod (rawV l k) 1048577) 0 1048576 = true := inB_iff.2 (by omega)
  have a2 : inB d 1 6 = true := inB_iff.2 hd
  have a3 : inB (1 + gmod (rawV l (rN l 1 k)) 99) 1 1048576 = true := inB_iff.2 (by omega)
  have a4 : inB (1 + gmod (rawV l (rN l 3 k)) 999) 1 999 = true := inB_iff.2 (by omega)
  unfold opB
  rw [if_neg (by show ¬ ((!inB (gmod (rawV l k) 1048577) 0 1048576 || !inB d 1 6) || !inB (1 + gmod (rawV l (rN l 1 k)) 99) 1 1048576) = true; rw [a1, a2, a3]; decide)]
  show (((decide (kd = 1) || decide (kd = 2)) && inB (1 + gmod (rawV l (rN l 3 k)) 999) 1 999) && piB (pieceV l (rN l 4 k) 1000)) = true
  rw [a4, piece_ok]
  rcases hk with rfl | rfl <;> rfl
theorem op_ok0 (l : List Int) (k : Nat) {d : Int} (hd : 1 ≤ d ∧ d ≤ 6) : opB (opV l k d) = true := by
  have h2 := gmod_bd (x := rawV l (rN l 2 k)) (n := 2) (by decide)
  exact op_ok l k hd (1 + gmod (rawV l (rN l 2 k)) 2) (by omega)
theorem fl_ok (l : List Int) (k : Nat) : flB (flS l k) = true := by
  have h1 := gmod_bd (x := rawV l (rawN l k)) (n := 3) (by decide)
  have h2 := gmod_bd (x := rawV l (rawN l (rawN l k))) (n := 3) (by decide)
  have hc : ∀ s ∈ carL, carB s = true := by decide
  have h3 := hc _ (textV_mem (l := l) (k := k) (ss := carL) (by decide))
  have h4 : lettersB (⟨#[]⟩ : ByteArray) 0 1 = true := by decide
  unfold flB
  rw [show (flS l k).carrier = textV l k carL from rfl, h3, show (flS l k).suffix = (⟨#[]⟩ : ByteArray) from rfl, h4]
  simp only [Bool.true_and, Bool.and_true, Bool.and_eq_true, decide_eq_true_eq]
  omega
structure RGood (n : Nat) (acc : List Report) : Prop where
  all : ∀ r ∈ acc, rpB r = true
  lt : ∀ r ∈ acc, r.device < (n : Int)
  asc : acc.Pairwise fun a b => a.device < b.device
  len : acc.length ≤ n
theorem reps_good (l : List Int) : ∀ (n k : Nat) (acc : List Report), n ≤ 24 → RGood (24 - n) acc → RGood 24 (repsV l n k acc).1
  | 0, _, _, _, h => h
  | n + 1, k, acc, hn, h => by
    have step : RGood (24 - n) acc := ⟨h.all, fun r hr => by have := h.lt r hr; omega, h.asc, by have := h.len; omega⟩
    show RGood 24 (if gmod (rawV l k) 6 = 5 then repsV l n (rN l 3 k) _ else repsV l n (rN l 1 k) acc).1
    split
    · refine reps_good l n _ _ (by omega) ⟨fun r hr => ?_, fun r hr => ?_, ?_, ?_⟩
      · rcases List.mem_append.1 hr with hr | hr
        · exact h.all r hr
        obtain rfl : r = _ := by simpa using hr
        have hc : ∀ s ∈ rpT, rdB s = true := by decide
        unfold rpB
        rw [hc _ (textV_mem (by decide)), Bool.and_true]
        exact inB_iff.2 (by dsimp only; omega)
      · rcases List.mem_append.1 hr with hr | hr
        · have := h.lt r hr; omega
        obtain rfl : r = _ := by simpa using hr
        dsimp only
        omega
      · rw [List.pairwise_append]
        refine ⟨h.asc, List.pairwise_singleton _ _, fun a ha b hb => ?_⟩
        obtain rfl : b = _ := by simpa using hb
        have := h.lt a ha
        dsimp only
        omega
      rw [List.length_append, List.length_singleton]
      have := h.len
      omega
    exact reps_good l n _ _ (by omega) step
theorem asc_of {l : List Report} (h : l.Pairwise fun a b => a.device < b.device) : ascR l = true := by
  refine asc_yes (i := l.length) (by omega) fun k h1 h2 => ?_
  rw [getD_of (by omega), getD_of h2]
  exact List.pairwise_iff_getElem.1 h (k - 1) k (by omega) h2 (by omega)
theorem opsV_good (l : List Int) {d : Int} (hd : 1 ≤ d ∧ d ≤ 6) : ∀ (n k : Nat) (acc : List Op), (∀ o ∈ acc, opB o = true ∧ o.device = d) → acc.length + n ≤ 6 → (∀ o ∈ (opsV l d n k acc).1, opB o = true ∧ o.device = d) ∧ (opsV l d n k acc).1.length ≤ 6
  | 0, _, _, h, hl => ⟨h, hl⟩
  | n + 1, k, acc, h, hl => by
    refine opsV_good l hd n (rN l 7 k) (acc ++ [opV l k d]) (fun o ho => ?_) (by rw [List.length_append, List.length_singleton]; omega)
    rcases List.mem_append.1 ho with ho | ho
    · exact h o ho
    obtain rfl : o = _ := by simpa using ho
    exact ⟨op_ok0 l k hd, rfl⟩
theorem mem1 {f : Nat → Bool} {p : Nat} (h : f p = true) : ∀ q ∈ [p], f q = true := fun q hq => by
  obtain rfl : q = p := by simpa using hq
  exact h
theorem mem2 {f : Nat → Bool} {p r : Nat} (h : f p = true) (h2 : f r = true) : ∀ q ∈ [p, r], f q = true := fun q hq => by
  simp only [List.mem_cons, List.not_mem_nil, or_false] at hq
  rcases hq with rfl | rfl
  · exact h
  exact h2
theorem z3 : (0 ≤ 2048) ∧ (0 ≤ 24) ∧ (0 ≤ 60) := by decide
theorem ev_good (l : List Int) (k : Nat) : Good (evV l k).1 := by
  have hK : 1 ≤ evK l k ∧ evK l k ≤ 14 := by
    have := gmod_bd (x := rawV l k) (n := 14) (by decide)
    unfold evK; omega
  have hD : 1 ≤ evD l k ∧ evD l k ≤ 6 := by
    have := gmod_bd (x := rawV l (rN l 1 k)) (n := 6) (by decide)
    unfold evD; omega
  have n24 : ∀ j, inB (gmod (rawV l j) 24) 0 23 = true := fun j => by
    have := gmod_bd (x := rawV l j) (n := 24) (by decide)
    exact inB_iff.2 (by omega)
  have nM : ∀ j, inB (gmod (rawV l j) 1048577) 0 1048576 = true := fun j => by
    have := gmod_bd (x := rawV l j) (n := 1048577) (by decide)
    exact inB_iff.2 (by omega)
  rcases kind_cases hK with h | h | h | h | h | h | h | h | h | h | h | h | h | h
  · rw [evV_1 h, h]
    have ht : ∀ s ∈ evT, s.size ≤ 2048 := by decide
    exact ⟨(by decide : (1 : Int) ≤ 1 ∧ (1 : Int) ≤ 14), rfl, ⟨ht _ (textV_mem (by decide)), Nat.zero_le _, Nat.zero_le _⟩, mem1 rfl, rfl⟩
  · rw [evV_2 (.inl h), h]
    exact ⟨(by decide : (1 : Int) ≤ 2 ∧ (2 : Int) ≤ 14), rfl, z3, mem2 (plates_ok _) (n24 _), rfl⟩
  · rw [evV_3 h, h]
    have hr := reps_good l 24 (rN l 2 k) [] (by decide) ⟨by simp, by simp, .nil, by simp⟩
    have ht : ∀ c ∈ tmL, inB c 0 1048576 = true := by decide
    exact ⟨(by decide : (1 : Int) ≤ 3 ∧ (3 : Int) ≤ 14), rfl, ⟨Nat.zero_le _, hr.len, Nat.zero_le _⟩, mem2 (ht _ (pickV_mem (by decide))) (List.all_eq_true.2 hr.all), asc_of hr.asc⟩
  · rw [evV_4 h, h]
    exact ⟨(by decide : (1 : Int) ≤ 4 ∧ (4 : Int) ≤ 14), rfl, z3, mem2 (nM _) rfl, rfl⟩
  · rw [evV_5 h, h]
    have hg := gmod_bd (x := rawV l (rN l 1 k)) (n := 5) (by decide)
    refine ⟨(by decide : (1 : Int) ≤ 5 ∧ (5 : Int) ≤ 14), rfl, z3, mem1 ?_, rfl⟩
    show ((inB (1 + gmod (rawV l (rN l 1 k)) 5) 1 5 && inB (gmod (rawV l (rN l 2 k)) 1048577) 0 1048576) && flB (flS l (rN l 3 k))) = true
    rw [nM, fl_ok, Bool.and_true, Bool.and_true]
    exact inB_iff.2 (by omega)
  · rw [evV_6 (.inl h), h]
    exact ⟨(by decide : (1 : Int) ≤ 6 ∧ (6 : Int) ≤ 14), rfl, z3, mem1 (n24 _), rfl⟩
  · rw [evV_6 (.inr h), h]
    exact ⟨(by decide : (1 : Int) ≤ 7 ∧ (7 : Int) ≤ 14), rfl, z3, mem1 (n24 _), rfl⟩
  · rw [evV_8 h, h]
    refine ⟨(by decide : (1 : Int) ≤ 8 ∧ (8 : Int) ≤ 14), rfl, z3, mem2 ?_ (n24 _), rfl⟩
    show (opB { opV l (rN l 2 k) (evD l k) with kind := 1 } && true) = true
    rw [op_ok l _ hD 1 (.inl rfl)]; rfl
  · rw [evV_9 h, h]
    refine ⟨(by decide : (1 : Int) ≤ 9 ∧ (9 : Int) ≤ 14), rfl, z3, mem1 ?_, rfl⟩
    show (opB { opV l (rN l 2 k) (evD l k) with kind := 2 } && true) = true
    rw [op_ok l _ hD 2 (.inr rfl)]; rfl
  · rw [evV_2 (.inr h), h]
    exact ⟨(by decide : (1 : Int) ≤ 10 ∧ (10 : Int) ≤ 14), rfl, z3, mem2 (plates_ok _) (n24 _), rfl⟩
  · rw [evV_11 h, h]
    exact ⟨(by decide : (1 : Int) ≤ 11 ∧ (11 : Int) ≤ 14), rfl, z3, mem1 (inB_iff.2 hD), rfl⟩
  · rw [evV_12 h, h]
    have hg := gmod_bd (x := rawV l (rN l 2 k)) (n := 6) (by decide)
    have ho := opsV_good l hD (gmod (rawV l (rN l 2 k)) 6).toNat (rN l 3 k) [] (by simp) (by simp; omega)
    refine ⟨(by decide : (1 : Int) ≤ 12 ∧ (12 : Int) ≤ 14), rfl, ⟨Nat.zero_le _, Nat.zero_le _, Nat.le_trans ho.2 (by decide)⟩, mem2 (inB_iff.2 hD) (List.all_eq_true.2 fun o hm => ?_), rfl⟩
    rw [(ho.1 o hm).1, Bool.true_and]
    exact decide_eq_true (ho.1 o hm).2
  · rw [evV_13 h, h]
    exact ⟨(by decide : (1 : Int) ≤ 13 ∧ (13 : Int) ≤ 14), rfl, z3, mem1 (fl_ok _ _), rfl⟩
  rw [evV_0 (by omega), h]
  exact ⟨(by decide : (1 : Int) ≤ 14 ∧ (14 : Int) ≤ 14), rfl, z3, (fun p hp => by cases hp), rfl⟩
theorem Good.sm {x : Ev} (h : Good x) : x.Sm := by
  have hl := h.lim
  refine ⟨by omega, by omega, by omega, fun r hr => ?_⟩
  by_cases h6 : 6 ∈ fieldsL x.kind
  · have := (rp_good (List.all_eq_true.1 (h.pr 6 h6) r hr)).2
    omega
  have h0 : x.reports = [] := by
    have := (only_lists (fieldsL x.kind) x (ev0 x.kind)).1 h6
    rw [show onlyP (fieldsL x.kind) x (ev0 x.kind) = x from h.only.symm] at this
    exact this
  rw [h0] at hr; cases hr
end Go.Proofs.YtfmnaigedgmhoaaGreatDoor
namespace Go.Proofs.YtfmnaigedgmhoaaGreatDoor
open Go.RowKit
set_option linter.unusedSimpArgs false
set_option linter.unusedVariables false
inductive Sh where
  | int (k : IntKind)
  | str
  | bool
  | sl (row : List Sh)
inductive Mt : AV → Sh → Prop
  | int {k : IntKind} {n : Int} (h : (Lit.int k n).wf = true) : Mt (.v (.int k n)) (.int k)
  | str {s : ByteArray} (h : s.size ≤ maxLen) : Mt (.v (.string s)) .str
  | bool {b : Bool} : Mt (.v (.bool b)) .bool
  | sl {row : List Sh} {es : List (List AV)} (hs : es.length ≤ maxLen) (h : ∀ e ∈ es, e.length = row.length) (hc : ∀ e ∈ es, ∀ (i : Nat) (x : AV) (s : Sh), e[i]? = some x → row[i]? = some s → Mt x s) : Mt (.ro es) (.sl row)
theorem Mt.rows {es : List (List AV)} {row : List Sh} (h : Mt (.ro es) (.sl row)) : ∀ e ∈ es, RL Mt e row := by
  cases h with
  | sl hs h hc => exact fun e he => ⟨h e he, hc e he⟩
theorem rows_of {α : Type} {f : α → List AV} : ∀ {es : List (List AV)}, (∀ e ∈ es, ∃ p, e = f p) → ∃ ps : List α, es = ps.map f
  | [], _ => ⟨[], rfl⟩
  | e :: es, h => by
    obtain ⟨p, rfl⟩ := h e (by simp)
    obtain ⟨ps, rfl⟩ := rows_of (es := es) fun e he => h e (by simp [he])
    exact ⟨p :: ps, rfl⟩
def fieldsSh (sh : TypeId → Option (List Sh)) (P : Program) : Nat → List Field → Option (List Sh)
  | _, [] => some []
  | o, f :: fs => if f.offset = o then (sh f.type).bind fun r => if r.length = P.cellsOf f.type then (fieldsSh sh P (o + r.length) fs).map (r ++ ·) else none else none
def copies (r : List Sh) : Nat → List Sh
  | 0 => []
  | n + 1 => r ++ copies r n
def shOf (P : Program) : Nat → TypeId → Option (List Sh)
  | 0, _ => none
  | n + 1, t => match P.underlying t with
    | some (.int k) => some [.int k]
    | some .string => some [.str]
    | some .bool => some [.bool]
    | some (.slice e) => (shOf P n e).map fun r => [.sl r]
    | some (.struct fs) => (fieldsSh (shOf P n) P 0 fs.toList).bind fun r => if r.length = P.cellsOf t then some r else none
    | some (.array k e) => (shOf P n e).bind fun r => if r.length = P.cellsOf e ∧ P.cellsOf t = k * P.cellsOf e then some (copies r k) else none
    | _ => none
theorem RL.cons' {α β : Type} {R : α → β → Prop} {us : List α} {xs : List β} {u : α} (h : RL R (u :: us) xs) : ∃ x xs', xs = x :: xs' ∧ R u x ∧ RL R us xs' := by
  cases xs with
  | nil => have := h.1; simp at this
  | cons x xs => exact ⟨x, xs, rfl, h.2 0 u x rfl rfl, by have := h.1; simpa using this, fun i a b ha hb => h.2 (i + 1) a b (by simpa using ha) (by simpa using hb)⟩
theorem take_split {α : Type} (l : List α) (o m n : Nat) : (l.drop o).take (m + n) = (l.drop o).take m ++ (l.drop (o + m)).take n := by
  rw [List.take_add, List.drop_drop]
theorem flat_idx {α : Type} {sz : Nat} : ∀ {es : List (List α)}, (∀ e ∈ es, e.length = sz) → ∀ {j : Nat}, j < es.flatten.length → ∃ e u, es[j / sz]? = some e ∧ e[j % sz]? = some u ∧ es.flatten[j]? = some u
  | [], _, j, h => by simp at h
  | e :: es, hs, j, h => by
    have he : e.length = sz := hs e (by simp)
    have hs' : ∀ e ∈ es, e.length = sz := fun e he => hs e (by simp [he])
    rw [List.flatten_cons] at h ⊢
    by_cases hj : j < sz
    · rw [List.getElem?_append_left (by omega), Nat.div_eq_of_lt hj, Nat.mod_eq_of_lt hj]
      exact ⟨e, e[j]'(by omega), rfl, List.getElem?_eq_getElem _, List.getElem?_eq_getElem _⟩
    rw [List.length_append] at h
    obtain ⟨e1, u, h1, h2, h3⟩ := flat_idx hs' (j := j - sz) (by omega)
    have h0 : 0 < sz := by
      rcases Nat.eq_zero_or_pos sz with h0 | h0
      · subst h0
        have : es.flatten = [] := List.flatten_eq_nil_iff.2 fun e he => List.eq_nil_of_length_eq_zero (hs' e he)
        rw [this] at h
        simp at h
        omega
      exact h0
    rw [List.getElem?_append_right (by omega), he, Nat.div_eq_sub_div h0 (by omega), Nat.mod_eq_sub_mod (by omega)]
    exact ⟨e1, u, by simpa using h1, h2, h3⟩
section
variable {H : Type} {enc : TypeId × Value → H} {P : Program} {w : World} {base : Nat} {spare : Nat → Bool} {held : Bool}
theorem fields_open {S : Nat → Prop} {sh : TypeId → Option (List Sh)} {n : Nat} {cs : List Value} (ih : ∀ t cs x r, sh t = some r → DataW.trod enc P w base spare held n t cs = some x → ∃ xs, RL (Rep P S w []) cs xs ∧ RL Mt xs r) :
    ∀ (fs : List Field) (o : Nat) (r : List Sh), fieldsSh sh P o fs = some r → (∀ f ∈ fs, ∃ y, DataW.trod enc P w base spare held n f.type ((cs.drop f.offset).take (P.cellsOf f.type)) = some y) →
      ∃ xs, RL (Rep P S w []) ((cs.drop o).take r.length) xs ∧ RL Mt xs r
  | [], o, r, h, _ => by
    simp only [fieldsSh, Option.some.injEq] at h
    subst h
    exact ⟨[], by simpa using RL.nil, RL.nil⟩
  | f :: fs, o, r, h, hf => by
    unfold fieldsSh at h
    split at h
    · rename_i ho
      obtain ⟨r1, h1, h2⟩ := Option.bind_eq_some_iff.1 h
      split at h2
      · rename_i hl
        obtain ⟨r2, h3, h4⟩ := Option.map_eq_some_iff.1 h2
        subst h4
        obtain ⟨y, hy⟩ := hf f (by simp)
        obtain ⟨xs1, a1, a2⟩ := ih _ _ _ _ h1 hy
        obtain ⟨xs2, b1, b2⟩ := fields_open ih fs (o + r1.length) r2 h3 fun f hf' => hf f (by simp [hf'])
        refine ⟨xs1 ++ xs2, ?_, a2.append b2⟩
        rw [List.length_append, take_split]
        rw [ho, ← hl] at a1
        exact a1.append b1
      cases h2
    cases h
theorem copies_open {S : Nat → Prop} {r : List Sh} {n c : Nat} {e : TypeId} {cs : List Value} (hr : r.length = c) (ih : ∀ cs x, DataW.trod enc P w base spare held n e cs = some x → ∃ xs, RL (Rep P S w []) cs xs ∧ RL Mt xs r) :
    ∀ (m o : Nat), (∀ i, i < m → ∃ y, DataW.trod enc P w base spare held n e ((cs.drop (o + i * c)).take c) = some y) → ∃ xs, RL (Rep P S w []) ((cs.drop o).take (m * c)) xs ∧ RL Mt xs (copies r m)
  | 0, o, _ => ⟨[], by simpa using RL.nil, RL.nil⟩
  | m + 1, o, h => by
    obtain ⟨y, hy⟩ := h 0 (by omega)
    rw [Nat.zero_mul, Nat.add_zero] at hy
    obtain ⟨xs1, a1, a2⟩ := ih _ _ hy
    obtain ⟨xs2, b1, b2⟩ := copies_open hr ih m (o + c) fun i hi => by
      have := h (i + 1) (by omega)
      rw [show o + (i + 1) * c = o + c + i * c by rw [Nat.succ_mul]; omega] at this
      exact this
    refine ⟨xs1 ++ xs2, ?_, a2.append b2⟩
    rw [Nat.succ_mul, Nat.add_comm (m * c) c, take_split]
    exact a1.append b1
theorem Rep.small {S : Nat → Prop} {A : Option Addr} {len c : Nat} {es : List (List AV)} (h : Rep P S w [] (.slice A len c) (.ro es)) : es.length ≤ maxLen := by
  obtain ⟨-, A', c', sz, us, e, h1, h2, -⟩ := h.ro_inv
  exact Nat.le_trans h1 h2
theorem open_sh : ∀ (m fuel : Nat) (t : TypeId) (cs : List Value) (x : DataW H × List MemPlace) (r : List Sh), shOf P m t = some r → DataW.trod enc P w base spare held fuel t cs = some x → ∃ xs, RL (Rep P (fun k => k < w.heap.size) w []) cs xs ∧ RL Mt xs r
  | 0, _, _, _, _, _, h, _ => by simp [shOf] at h
  | m + 1, fuel, t, cs, x, r, h, hx => by
    unfold shOf at h
    split at h
    · rename_i k ht
      injection h with h; subst h
      obtain ⟨n, rfl, _, hw⟩ := DataW.trod_int ht hx
      exact ⟨_, .cons (.v rfl) .nil, .cons (.int hw) .nil⟩
    · rename_i ht
      injection h with h; subst h
      obtain ⟨s, rfl, _, hw⟩ := DataW.trod_string ht hx
      exact ⟨_, .cons (.v rfl) .nil, .cons (.str hw) .nil⟩
    · rename_i ht
      injection h with h; subst h
      obtain ⟨b, rfl, _⟩ := DataW.trod_bool ht hx
      exact ⟨_, .cons (.v rfl) .nil, .cons .bool .nil⟩
    · rename_i e ht
      obtain ⟨row, h1, h2⟩ := Option.map_eq_some_iff.1 h
      subst h2
      rcases Go.Deep.open_slice ht hx with ⟨rfl, _⟩ | ⟨a, len, cap, mm, n, D, Pl, rfl, hb, hl, hm, hmm, _, hel⟩
      · exact ⟨_, .cons rep_ro_nil .nil, .cons (.sl (Nat.zero_le _) (by simp) (by simp)) .nil⟩
      have hlm : len ≤ mm := by rw [hmm]; split <;> omega
      have key : ∀ i, i < len → ∃ p : List Value × List AV, w.cells? base (a.add (i * P.cellsOf e)) (P.cellsOf e) = some p.1 ∧ RL (Rep P (fun k => k < w.heap.size) w []) p.1 p.2 ∧ RL Mt p.2 row := fun i hi => by
        obtain ⟨cs', c1, c2⟩ := hel i (by omega)
        obtain ⟨xs, c3, c4⟩ := open_sh m _ _ _ _ _ h1 c2
        exact ⟨(cs', xs), c1, c3, c4⟩
      obtain ⟨F, hF⟩ := Go.Deep.choose_lt key
      have lv : ∀ l ∈ (List.range len).map (fun i => (F i).1), l.length = P.cellsOf e := fun l hl' => by
        obtain ⟨i, hi, rfl⟩ := List.mem_map.1 hl'
        exact (World.cells?_some (hF i (List.mem_range.1 hi)).1).2.1
      have lx : ∀ l ∈ (List.range len).map (fun i => (F i).2), l.length = P.cellsOf e := fun l hl' => by
        obtain ⟨i, hi, rfl⟩ := List.mem_map.1 hl'
        rw [← (hF i (List.mem_range.1 hi)).2.1.1]
        exact (World.cells?_some (hF i (List.mem_range.1 hi)).1).2.1
      have hlen : ((List.range len).map fun i => (F i).2).length = len := by simp
      have hfl : ((List.range len).map fun i => (F i).1).flatten.length = ((List.range len).map fun i => (F i).2).flatten.length := by
        rw [List.length_flatten, List.length_flatten]
        congr 1
        rw [List.map_map, List.map_map]
        exact List.map_congr_left fun i hi => (hF i (List.mem_range.1 hi)).2.1.1
      have hrep : Rep P (fun k => k < w.heap.size) w [] (.slice (some a) ((List.range len).map fun i => (F i).2).length cap) (.ro ((List.range len).map fun i => (F i).2)) := by
        refine Rep.ro (sz := P.cellsOf e) (us := ((List.range len).map fun i => (F i).1).flatten) (by rw [hlen]; exact hl) hm lx (fun hn => ?_) hfl fun i u x hu hx' => ?_
        · have hget : ∀ j u, ((List.range len).map fun i => (F i).1).flatten[j]? = some u → w.cell? (a.add j) = some u := fun j u hu => by
            obtain ⟨l, u', q1, q2, q3⟩ := flat_idx lv (j := j) (List.getElem?_eq_some_iff.1 hu).1
            rw [q3] at hu
            injection hu with hu; subst hu
            rw [List.getElem?_map] at q1
            have hq : j / P.cellsOf e < len := by
              have := (List.getElem?_eq_some_iff.1 (show ((List.range len).map fun i => (F i).1)[j / P.cellsOf e]? = some l by rw [List.getElem?_map]; exact q1)).1
              simpa using this
            rw [List.getElem?_range hq] at q1
            injection q1 with q1; subst q1
            have hc := (World.cells?_some (hF _ hq).1)
            have hp : 0 < P.cellsOf e := by
              have := (List.getElem?_eq_some_iff.1 q2).1
              rw [hc.2.1] at this; omega
            have hcell := hc.2.2 (j % P.cellsOf e) (Nat.mod_lt _ hp)
            rw [q2, Go.Deep.add_add, Nat.mul_comm, Nat.div_add_mod] at hcell
            exact hcell
          have h0 := hget 0 _ (List.getElem?_eq_getElem hn)
          obtain ⟨g, o, sp⟩ := a
          have : sp = none := by simpa [Addr.add] using World.cell?_spot h0
          subst this
          refine ⟨g, o, rfl, World.block_lt_of_cell? w _ h0, fun j u hu => ?_⟩
          have := hget j u hu
          rw [add_off] at this
          exact this
        obtain ⟨l, u', q1, q2, q3⟩ := flat_idx lv (j := i) (List.getElem?_eq_some_iff.1 hu).1
        obtain ⟨l2, u2, p1, p2, p3⟩ := flat_idx lx (j := i) (List.getElem?_eq_some_iff.1 hx').1
        rw [q3] at hu
        injection hu with hu; subst hu
        rw [p3] at hx'
        injection hx' with hx'; subst hx'
        rw [List.getElem?_map] at q1 p1
        have hq : i / P.cellsOf e < len := by
          have := (List.getElem?_eq_some_iff.1 (show ((List.range len).map fun i => (F i).1)[i / P.cellsOf e]? = some l by rw [List.getElem?_map]; exact q1)).1
          simpa using this
        rw [List.getElem?_range hq] at q1 p1
        injection q1 with q1; subst q1
        injection p1 with p1; subst p1
        exact (hF _ hq).2.1.2 _ _ _ q2 p2
      rw [hlen] at hrep
      refine ⟨_, .cons hrep .nil, .cons (.sl hrep.small (fun l hl' => ?_) fun l hl' => ?_) .nil⟩
      · obtain ⟨i, hi, rfl⟩ := List.mem_map.1 hl'
        exact (hF i (List.mem_range.1 hi)).2.2.1
      obtain ⟨i, hi, rfl⟩ := List.mem_map.1 hl'
      exact (hF i (List.mem_range.1 hi)).2.2.2
    · rename_i fs ht
      obtain ⟨r1, h1, h2⟩ := Option.bind_eq_some_iff.1 h
      split at h2
      · rename_i hl
        injection h2 with h2; subst h2
        obtain ⟨ys, n, _, _, hcl, hyl, hf⟩ := DataW.trod_struct ht hx
        obtain ⟨xs, a1, a2⟩ := fields_open (fun t cs x r => open_sh m n t cs x r) fs.toList 0 r1 h1 (cs := cs) fun f hf' => by
          obtain ⟨i, hi, rfl⟩ := List.getElem_of_mem hf'
          have := hf i fs.toList[i] (by simp at hi; simp [hi])
          exact ⟨_, this.trans (List.getElem?_eq_getElem (by rw [hyl]; simpa using hi))⟩
        rw [List.drop_zero, hl, ← hcl, List.take_length] at a1
        exact ⟨xs, a1, a2⟩
      cases h2
    · rename_i k e ht
      obtain ⟨r1, h1, h2⟩ := Option.bind_eq_some_iff.1 h
      split at h2
      · rename_i hl
        injection h2 with h2; subst h2
        obtain ⟨ys, n, _, _, hcl, hyl, hf⟩ := DataW.trod_array ht hx
        obtain ⟨xs, a1, a2⟩ := copies_open (cs := cs) hl.1 (fun cs x hx => open_sh m n e cs x r1 h1 hx) k 0 fun i hi => by
          have := hf i hi
          rw [Nat.zero_add]
          exact ⟨_, this.trans (List.getElem?_eq_getElem (by omega))⟩
        rw [List.drop_zero, ← hl.2, ← hcl, List.take_length] at a1
        exact ⟨xs, a1, a2⟩
      cases h2
    cases h
/-- A datum of one cell. -/
theorem open_one {m : Nat} {t : TypeId} {v : Value} {s : Sh} {d : DataW H} {ps : List MemPlace} (hs : shOf P m t = some [s]) (hv : v.cells = #[v]) (h : DataW.Trod enc P w base spare held t v d ps) : ∃ x, AggOK P (fun k => k < w.heap.size) w (insT []) [] v x ∧ Mt x s := by
  obtain ⟨fuel, hf⟩ := h
  rw [hv] at hf
  obtain ⟨xs, a1, a2⟩ := open_sh m fuel t [v] _ [s] hs hf
  obtain ⟨x, xs', rfl, b1, b2⟩ := a1.cons'
  obtain ⟨x2, xs2, q, c1, -⟩ := a2.cons'
  injection q with q _
  subst q
  refine ⟨x, ?_, c1⟩
  have hr := b1.ref (T := insT []) (vals := [])
  cases c1 <;> exact hr
end
theorem Spec.small {P : Program} {f : FuncId} {ins xs : List AV} {Q : List AV → List AV → Prop} {es : List (List AV)} (k : Nat) (hk : xs[k]? = some (.ro es)) (h : es.length ≤ 9223372036854775807 → Spec P f ins xs Q) : Spec P f ins xs Q := fun w S vals bss vs c => by
  obtain ⟨u, hu, hr⟩ := c.args.at_ hk
  have hr : Rep P S w [] u (.ro es) := hr
  obtain ⟨-, A, cc, sz, us, e, h1, h2, -⟩ := hr.ro_inv
  exact h (Nat.le_trans (Nat.le_trans h1 h2) (by decide)) w S vals bss vs c
/-- What a cell may hold, taken apart. -/
theorem Mt.i64 {x : AV} (h : Mt x (.int .i64)) : ∃ n, x = .v (.int .i64 n) := by cases h; exact ⟨_, rfl⟩
theorem Mt.u8 {x : AV} (h : Mt x (.int .u8)) : ∃ n, x = .v (.int .u8 n) := by cases h; exact ⟨_, rfl⟩
theorem Mt.sl_ {x : AV} {r : List Sh} (h : Mt x (.sl r)) : ∃ es, x = .ro es := by cases h; exact ⟨_, rfl⟩
end Go.Proofs.YtfmnaigedgmhoaaGreatDoor
namespace Go.Proofs.YtfmnaigedgmhoaaGreatDoor
open Go.RowKit
set_option linter.unusedSimpArgs false
set_option linter.unusedVariables false
set_option maxRecDepth 100000
def rs100 (r : Report) : Bool := decide ((r.read.size : Int) ≤ 100)
def smallT (x : Ev) : Bool := (((((decide ((x.text.size : Int) ≤ 2100) && decide ((x.reports.length : Int) ≤ 40)) && decide ((x.ops.length : Int) ≤ 70)) && decide ((x.fl.carrier.size : Int) ≤ 100)) && decide ((x.fl.suffix.size : Int) ≤ 100)) && decide ((x.rev.fl.carrier.size : Int) ≤ 100)) && decide ((x.rev.fl.suffix.size : Int) ≤ 100)
def smallE (x : Ev) : Bool := x.reports.all rs100 && smallT x
abbrev aw1 : Ev := { ev0 6 with node := 3 }
abbrev aw2 : Ev := { ev0 1 with text := ⟨#[65]⟩ }
theorem aw1_good : Good aw1 := ⟨(by decide : (1 : Int) ≤ 6 ∧ (6 : Int) ≤ 14), rfl, z3, mem1 rfl, rfl⟩
theorem aw2_good : Good aw2 := ⟨(by decide : (1 : Int) ≤ 1 ∧ (1 : Int) ≤ 14), rfl, ⟨by decide, Nat.zero_le _, Nat.zero_le _⟩, mem1 rfl, rfl⟩
theorem aw1_enc : encB aw1 = [6, 0, 0, 0, 3] := by decide
theorem aw2_enc : encB aw2 = [1, 0, 0, 0, 1, 65] := by decide
theorem aw_bad : decV [4, 0, 0, 0, 7, 2] = (ev0 0, 3) := by
  have h : decB [4, 0, 0, 0, 7, 2] = none := rfl
  unfold decV
  dsimp only
  rw [if_neg (by decide), h]
theorem op_seqT {C : Cx} {o : Oper} {ev : Operand → AV} {T : Sl} {t yt : TypeId} {p q : Operand} {x : ByteArray} (ho : o.op = .binOp .eql t p q yt) (hp : ev p = .v (.string x)) (hq : ev q = .v (.string x)) : OpP C o ev T (.v (.bool true)) := by
  have h := op_seql (C := C) (T := T) ho hp hq
  rwa [beq_self_eq_true] at h
theorem le_aw1 : RL Le1 (evC aw1 (.v (.slice none 0 0)) (.v (.slice none 0 0))) aw1.av := by
  repeat (first | exact RL.nil | refine RL.cons Le1.same ?_ | refine RL.cons Le1.nil ?_)
theorem le_aw2 : RL Le1 (evC aw2 (.v (.slice none 0 0)) (.v (.slice none 0 0))) aw2.av := by
  repeat (first | exact RL.nil | refine RL.cons Le1.same ?_ | refine RL.cons Le1.nil ?_)
set_option maxHeartbeats 8000000 in
theorem C12 : Fn Tryz.prog 12 [] [] [.v (.bool true)] [] := by
  have c1 : Fn Tryz.prog 36 [] [.agg aw1.av] [.ro (([6, 0, 0, 0, 3] : BL).map bv), .v (.int .i64 0)] [] := by
    have h := C36 (x := aw1) aw1_good.sm
    rwa [enc_ok aw1_good, aw1_enc] at h
  have c2 : Fn Tryz.prog 36 [] [.agg aw2.av] [.ro (([1, 0, 0, 0, 1, 65] : BL).map bv), .v (.int .i64 0)] [] := by
    have h := C36 (x := aw2) aw2_good.sm
    rwa [enc_ok aw2_good, aw2_enc] at h
  have c3 : Fn Tryz.prog 9 [] [.ro (([6, 0, 0, 0, 3] : BL).map bv)] [.agg aw1.av, .v (.int .i64 0)] [] := by
    have h := C9 (b := [6, 0, 0, 0, 3]) (by decide)
    rwa [show decV [6, 0, 0, 0, 3] = (aw1, 0) by rw [← aw1_enc]; exact dec_enc aw1_good] at h
  have c4 : Fn Tryz.prog 9 [] [.ro (([4, 0, 0, 0, 7, 2] : BL).map bv)] [.agg (ev0 0).av, .v (.int .i64 3)] [] := by
    have h := C9 (b := [4, 0, 0, 0, 7, 2]) (by decide)
    rwa [aw_bad] at h
  refine Spec.body Tryz.func12 rfl Tryz.ntmps12 (by simp) rfl ?_; intro S0 own0 v0 w0 gl
  (refine AW.seq_k ?_; intro K hK)
  refine AW.region ?_
  refine awP (op_assign rfl rfl) ?_
  refine AWL.nil ?_
  (refine hK _ ?_; clear hK K; (try simp only [nA, Nat.reduceBEq, Nat.reduceEqDiff, ↓reduceIte, Nat.reduceAdd, Nat.reduceSub]))
  (refine AW.seq_k ?_; intro K hK)
  refine AW.region ?_
  refine awP (op_build2 (xs := [_, .v (.int .i64 0), .v (.string ⟨#[]⟩), .v (.int .i64 0), .v (.int .i64 0), .v (.int .i64 0), _, .v (.int .i64 0), .v (.bool false), .v (.slice none 0 0), .v (.int .i64 0), .v (.int .i64 0), .v (.string ⟨#[]⟩), .v (.int .i64 0), .v (.string ⟨#[]⟩), .v (.int .i64 0), .v (.int .i64 0), .v (.int .i64 0), .v (.int .i64 0), .v (.int .i64 0), .v (.int .i64 0), .v (.int .i64 0), .v (.int .i64 0), .v (.int .i64 0), .v (.int .i64 0), .v (.int .i64 0), .v (.int .i64 0), .v (.slice none 0 0), .v (.string ⟨#[]⟩), .v (.int .i64 0), .v (.string ⟨#[]⟩), .v (.int .i64 0)]) rfl pl42 ze42 [(0, [_]), (4, [_])] rfl rfl rfl) ?_
  refine AWL.gh (Gh.tmp 10 (cs' := aw1.av) (bl rfl) rfl le_aw1) ?_; (try simp only [nA, Nat.reduceBEq, Nat.reduceEqDiff, ↓reduceIte, Nat.reduceAdd, Nat.reduceSub]); refine awJ (op_call (b := false) rfl en36 c1 (RL.cons (by exact View.same rfl) (RL.nil)) rfl (fun h => by cases h) rfl rfl) ?_; (try simp only [nA, Nat.reduceBEq, Nat.reduceEqDiff, ↓reduceIte, Nat.reduceAdd, Nat.reduceSub])
  refine awP (op_move rfl rfl) ?_
  refine awP (op_extract rfl rfl rfl) ?_
  refine awP (op_extract rfl rfl rfl) ?_
  refine awP (op_assign rfl rfl) ?_
  refine awP (op_assign rfl rfl) ?_
  refine AWL.nil ?_
  (refine hK _ ?_; clear hK K; (simp only [nA, ↓reduceIte]))
  (refine AW.seq_k ?_; intro K hK)
  refine AW.region ?_
  refine awP (op_build2 (xs := [_, .v (.int .i64 0), _, .v (.int .i64 0), .v (.int .i64 0), .v (.int .i64 0), .v (.int .i64 0), .v (.int .i64 0), .v (.bool false), .v (.slice none 0 0), .v (.int .i64 0), .v (.int .i64 0), .v (.string ⟨#[]⟩), .v (.int .i64 0), .v (.string ⟨#[]⟩), .v (.int .i64 0), .v (.int .i64 0), .v (.int .i64 0), .v (.int .i64 0), .v (.int .i64 0), .v (.int .i64 0), .v (.int .i64 0), .v (.int .i64 0), .v (.int .i64 0), .v (.int .i64 0), .v (.int .i64 0), .v (.int .i64 0), .v (.slice none 0 0), .v (.string ⟨#[]⟩), .v (.int .i64 0), .v (.string ⟨#[]⟩), .v (.int .i64 0)]) rfl pl42 ze42 [(0, [_]), (2, [_])] rfl rfl rfl) ?_
  refine AWL.gh (Gh.tmp 15 (cs' := aw2.av) (bl rfl) rfl le_aw2) ?_; (try simp only [nA, Nat.reduceBEq, Nat.reduceEqDiff, ↓reduceIte, Nat.reduceAdd, Nat.reduceSub]); refine awJ (op_call (b := false) rfl en36 c2 (RL.cons (by exact View.same rfl) (RL.nil)) rfl (fun h => by cases h) rfl rfl) ?_; (try simp only [nA, Nat.reduceBEq, Nat.reduceEqDiff, ↓reduceIte, Nat.reduceAdd, Nat.reduceSub])
  refine awP (op_move rfl rfl) ?_
  refine awP (op_extract rfl rfl rfl) ?_
  refine awP (op_extract rfl rfl rfl) ?_
  refine awP (op_assign rfl rfl) ?_
  refine awP (op_assign rfl rfl) ?_
  refine AWL.nil ?_
  (refine hK _ ?_; clear hK K; (simp only [nA, ↓reduceIte]))
  (refine AW.seq_k ?_; intro K hK)
  refine AW.region ?_
  refine awJ (OpJ.frz (op_buildSlice rfl [(0, bv 6), (1, bv 0), (2, bv 0), (3, bv 0), (4, bv 3)] (([6, 0, 0, 0, 3] : BL).map bv) Tryz.underlying22 ze5 rfl (by decide) rfl (bv_len _) rfl (bl rfl) (by decide)) (bv_flat _) rfl) ?_; (try simp only [nA, Nat.reduceBEq, Nat.reduceEqDiff, ↓reduceIte, Nat.reduceAdd, Nat.reduceSub])
  refine awJ (op_call (b := false) rfl en9 (c3) (RL.cons (by exact View.same rfl) (RL.nil)) rfl (fun h => by cases h) rfl rfl) ?_; (try simp only [nA, Nat.reduceBEq, Nat.reduceEqDiff, ↓reduceIte, Nat.reduceAdd, Nat.reduceSub])
  refine awP (op_move rfl rfl) ?_
  refine awP (op_extract rfl rfl rfl) ?_
  refine awP (op_extract rfl rfl rfl) ?_
  refine awJ (op_alloc rfl ze42 rfl) ?_; (simp only [nA, Nat.reduceBEq, Nat.reduceEqDiff, ↓reduceIte])
  refine awJ (op_store rfl rfl rfl rfl rfl rfl sz42 rfl (bl rfl) rfl) ?_; (simp only [nA, Nat.reduceBEq, Nat.reduceEqDiff, ↓reduceIte])
  refine awP (op_assign rfl rfl) ?_
  refine AWL.nil ?_
  (refine hK _ ?_; clear hK K; (simp only [nA, ↓reduceIte]))
  (refine AW.seq_k ?_; intro K hK)
  refine AW.region ?_
  refine awJ (OpJ.frz (op_buildSlice rfl [(0, bv 4), (1, bv 0), (2, bv 0), (3, bv 0), (4, bv 7), (5, bv 2)] (([4, 0, 0, 0, 7, 2] : BL).map bv) Tryz.underlying22 ze5 rfl (by decide) rfl (bv_len _) rfl (bl rfl) (by decide)) (bv_flat _) rfl) ?_; (try simp only [nA, Nat.reduceBEq, Nat.reduceEqDiff, ↓reduceIte, Nat.reduceAdd, Nat.reduceSub])
  refine awJ (op_call (b := false) rfl en9 (c4) (RL.cons (by exact View.same rfl) (RL.nil)) rfl (fun h => by cases h) rfl rfl) ?_; (try simp only [nA, Nat.reduceBEq, Nat.reduceEqDiff, ↓reduceIte, Nat.reduceAdd, Nat.reduceSub])
  refine awP (op_move rfl rfl) ?_
  refine awP (op_extract rfl rfl rfl) ?_
  refine awP (op_extract rfl rfl rfl) ?_
  refine awJ (op_alloc rfl ze42 rfl) ?_; (simp only [nA, Nat.reduceBEq, Nat.reduceEqDiff, ↓reduceIte])
  refine awJ (op_store rfl rfl rfl rfl rfl rfl sz42 rfl (bl rfl) rfl) ?_; (simp only [nA, Nat.reduceBEq, Nat.reduceEqDiff, ↓reduceIte])
  refine awP (op_assign rfl rfl) ?_
  refine AWL.nil ?_
  (refine hK _ ?_; clear hK K; (simp only [nA, ↓reduceIte]))
  (refine AW.seq_k ?_; intro K hK)
  refine AW.region (AWL.quiet ?_)
  refine aqP (op_move rfl rfl) ?_
  (refine aqP (op_eql rfl rfl rfl) ?_)
  refine aqP (op_move rfl rfl) ?_
  refine' aqAnd' [_, _, _] [32,33,34] rfl rfl rfl rfl rfl rfl rfl rfl rfl rfl rfl rfl (fun hb => ?_) ?_; rotate_left
  ·
   (try simp only [hcS] at hb)
   refine aqP (op_move rfl rfl) ?_
   refine aqR (op_b2sR (l := [6, 0, 0, 0, 3]) rfl rfl Tryz.underlying22 Tryz.underlying5 Tryz.underlying9 rfl) ?_
   refine aqP (op_seqT (x := ⟨#[6, 0, 0, 0, 3]⟩) rfl rfl rfl) ?_
   (refine aqSeg rfl rfl rfl ?_; repeat (first | exact fun _ _ => rfl | refine upd_out rfl ?_))
  simp only [nA, ↓reduceIte]
  refine aqP (op_move rfl rfl) ?_
  refine' aqAnd' [_, _] [37,38] rfl rfl rfl rfl rfl rfl rfl rfl rfl rfl rfl rfl (fun hb => ?_) ?_; rotate_left
  ·
   (try simp only [hcS] at hb)
   refine aqP (op_move rfl rfl) ?_
   (refine aqP (op_eql rfl rfl rfl) ?_)
   (refine aqSeg rfl rfl rfl ?_; repeat (first | exact fun _ _ => rfl | refine upd_out rfl ?_))
  simp only [nA]
  refine aqP (op_move rfl rfl) ?_
  refine' aqAnd' [_, _, _] [41,42,43] rfl rfl rfl rfl rfl rfl rfl rfl rfl rfl rfl rfl (fun hb => ?_) ?_; rotate_left
  ·
   (try simp only [hcS] at hb)
   refine aqP (op_move rfl rfl) ?_
   refine aqR (op_b2sR (l := [1, 0, 0, 0, 1, 65]) rfl rfl Tryz.underlying22 Tryz.underlying5 Tryz.underlying9 rfl) ?_
   refine aqP (op_seqT (x := ⟨#[1, 0, 0, 0, 1, 65]⟩) rfl rfl rfl) ?_
   (refine aqSeg rfl rfl rfl ?_; repeat (first | exact fun _ _ => rfl | refine upd_out rfl ?_))
  simp only [nA]
  refine aqP (op_move rfl rfl) ?_
  refine' aqAnd' [_, _] [46,47] rfl rfl rfl rfl rfl rfl rfl rfl rfl rfl rfl rfl (fun hb => ?_) ?_; rotate_left
  ·
   (try simp only [hcS] at hb)
   refine aqP (op_move rfl rfl) ?_
   (refine aqP (op_eql rfl rfl rfl) ?_)
   (refine aqSeg rfl rfl rfl ?_; repeat (first | exact fun _ _ => rfl | refine upd_out rfl ?_))
  simp only [nA]
  refine aqP (op_move rfl rfl) ?_
  refine' aqAnd' [_, _, _] [50,51,52] rfl rfl rfl rfl rfl rfl rfl rfl rfl rfl rfl rfl (fun hb => ?_) ?_; rotate_left
  ·
   (try simp only [hcS] at hb)
   (refine aqP (op_fa_ptr rfl rfl rfl fl42_0 (by exact sz3) (by decide) rfl) ?_)
   (refine aqR (op_load_ptr1 rfl rfl rfl rfl ag3 rfl rfl) ?_)
   (refine aqP (op_eql rfl rfl rfl) ?_)
   (refine aqSeg rfl rfl rfl ?_; repeat (first | exact fun _ _ => rfl | refine upd_out rfl ?_))
  simp only [nA]
  refine aqP (op_move rfl rfl) ?_
  refine' aqAnd' [_, _, _] [55,56,57] rfl rfl rfl rfl rfl rfl rfl rfl rfl rfl rfl rfl (fun hb => ?_) ?_; rotate_left
  ·
   (try simp only [hcS] at hb)
   (refine aqP (op_fa_ptr rfl rfl rfl fl42_4 (by exact sz3) (by decide) rfl) ?_)
   (refine aqR (op_load_ptr1 rfl rfl rfl rfl ag3 rfl rfl) ?_)
   (refine aqP (op_eql rfl rfl rfl) ?_)
   (refine aqSeg rfl rfl rfl ?_; repeat (first | exact fun _ _ => rfl | refine upd_out rfl ?_))
  simp only [nA]
  refine aqP (op_move rfl rfl) ?_
  refine' aqAnd' [_, _] [60,61] rfl rfl rfl rfl rfl rfl rfl rfl rfl rfl rfl rfl (fun hb => ?_) ?_; rotate_left
  ·
   (try simp only [hcS] at hb)
   refine aqP (op_move rfl rfl) ?_
   (refine aqP (op_eql rfl rfl rfl) ?_)
   (refine aqSeg rfl rfl rfl ?_; repeat (first | exact fun _ _ => rfl | refine upd_out rfl ?_))
  simp only [nA]
  refine aqP (op_assign rfl rfl) ?_
  refine AQ.nil ?_
  (refine hK _ ?_; clear hK K; (simp only [nA]))
  skip
  refine AW.ret ?_; (try simp only [thenE, inBlk, Nat.reduceEqDiff, ↓reduceIte]); exact RQ.of0 rfl (.tmp (bl rfl) rfl rfl .nil)
end Go.Proofs.YtfmnaigedgmhoaaGreatDoor
namespace Go.Proofs.YtfmnaigedgmhoaaGreatDoor
open Go.RowKit
set_option linter.unusedSimpArgs false
set_option linter.unusedVariables false
set_option maxRecDepth 100000
theorem hl20 (l : List Int) : (l.take 2000).length ≤ 2000 := by rw [List.length_take]; omega
end Go.Proofs.YtfmnaigedgmhoaaGreatDoor
namespace Go.Proofs.YtfmnaigedgmhoaaGreatDoor
open Go.RowKit
set_option linter.unusedSimpArgs false
set_option linter.unusedVariables false
set_option maxRecDepth 100000
theorem pl82 : plIs Tryz.prog 82 [(0, 1), (1, 1), (2, 1)] := ⟨_, Tryz.underlying82, by kernel_rfl⟩
abbrev s0r (r : BL) : RS := ⟨r, false⟩
noncomputable def rdR (R : Rdr) (a : UInt8) (r : BL) : Ev × RS := decM R (fieldsL (a.toNat : Int)) (ev0 (a.toNat : Int)) ⟨r, false⟩
theorem decB_rdR {R : Rdr} (hR : R.Ok) (a : UInt8) (r : BL) : decB (a :: r) = if (rdR R a r).2.bad = true ∨ (rdR R a r).2.b ≠ [] then none else some (rdR R a r).1 := (runD_eq hR (a :: r)).symm
theorem rdR_sm {R : Rdr} (hR : R.Ok) {a : UInt8} {r : BL} (hl : r.length ≤ 1000000) (hk : inB (a.toNat : Int) 1 14 = true) (h1 : (rdR R a r).2.bad = false) (h2 : (rdR R a r).2.b = []) : (rdR R a r).1.Sm := by
  have hd : decB (a :: r) = some (rdR R a r).1 := by rw [decB_rdR hR, if_neg (fun h => h.elim (fun h => by rw [h1] at h; cases h) fun h => h h2)]
  have he := decB_rd a r
  rw [hd] at he
  by_cases hc : (rdD a r).2.bad = true ∨ (rdD a r).2.b ≠ []
  · rw [if_pos hc] at he; cases he
  rw [if_neg hc] at he
  injection he with he
  rw [he]
  refine rd_sm hl hk (by cases h : (rdD a r).2.bad with | true => exact absurd (.inl h) hc | false => rfl) (by by_cases h : (rdD a r).2.b = []; exact h; exact absurd (.inr h) hc)
abbrev badK (b : BL) : Bool := (decide ((b.length : Int) = 0) || decide (((b.getD 0 default).toNat : Int) < 1)) || decide (((b.getD 0 default).toNat : Int) > 14)
theorem badK_iff (b : BL) : badK b = (decide ((b.length : Int) = 0) || !inB ((b.getD 0 default).toNat : Int) 1 14) := by
  unfold badK inB
  rw [Bool.or_assoc]
  congr 1
  rw [Bool.not_and]
  congr 1
  · rw [← decide_not]; exact decide_eq_decide.2 (by omega)
  rw [← decide_not]; exact decide_eq_decide.2 (by omega)
theorem dec_kR {b : BL} (h : badK b = true) : decV b = (ev0 0, 4) := dec_k (by rw [← badK_iff]; exact h)
theorem decR_yes {R : Rdr} (hR : R.Ok) {a : UInt8} {r : BL} (hk : inB (a.toNat : Int) 1 14 = true) (h1 : (rdR R a r).2.bad = false) (h2 : (rdR R a r).2.b = []) (h3 : valV (rdR R a r).1 = 0) : decV (a :: r) = ((rdR R a r).1, 0) := by
  unfold decV
  dsimp only
  rw [if_neg (by rw [hk]; decide), decB_rdR hR, if_neg (fun h => h.elim (fun h => by rw [h1] at h; cases h) fun h => h h2)]
  dsimp only
  rw [if_pos h3]
theorem decR_no {R : Rdr} (hR : R.Ok) {a : UInt8} {r : BL} (hk : inB (a.toNat : Int) 1 14 = true) (h : (rdR R a r).2.bad = true ∨ (rdR R a r).2.b ≠ [] ∨ valV (rdR R a r).1 ≠ 0) : decV (a :: r) = (ev0 0, 3) := by
  unfold decV
  dsimp only
  rw [if_neg (by rw [hk]; decide), decB_rdR hR]
  by_cases h1 : (rdR R a r).2.bad = true ∨ (rdR R a r).2.b ≠ []
  · rw [if_pos h1]
  rw [if_neg h1]
  dsimp only
  rw [if_neg]
  rcases h with h | h | h
  · exact absurd (.inl h) h1
  · exact absurd (.inr h) h1
  exact h
theorem rr_start (a : UInt8) (r : BL) : ([.ro ((a :: r).map bv), .v (.int .i64 1), .v (.bool false)] : List AV) = rrC (a :: r) ⟨r, false⟩ := by
  unfold rrC
  rw [List.length_cons, Nat.add_sub_cancel_left]; rfl
section
variable (R : Rdr) (y : Ev) (s : RS)
theorem dm1 : decM R [1] y s = ({ y with text := (R.wd s).1 }, (R.wd s).2) := rfl
theorem dm23 : decM R [2, 3] y s = ({ y with plate := (plM R s).1, node := (R.num (plM R s).2).1 }, (R.num (plM R s).2).2) := rfl
theorem dm45 : decM R [4, 5] y s = ({ y with image := (R.num s).1, clear := (R.tr (R.num s).2).1 }, (R.tr (R.num s).2).2) := rfl
theorem dm7 : decM R [7] y s = ({ y with rev := ⟨(R.num s).1, (R.num (R.num s).2).1, (flM R (R.num (R.num s).2).2).1⟩ }, (flM R (R.num (R.num s).2).2).2) := rfl
theorem dm3 : decM R [3] y s = ({ y with node := (R.num s).1 }, (R.num s).2) := rfl
theorem dm93 : decM R [9, 3] y s = ({ y with op := (opM R s).1, node := (R.num (opM R s).2).1 }, (R.num (opM R s).2).2) := rfl
theorem dm9 : decM R [9] y s = ({ y with op := (opM R s).1 }, (opM R s).2) := rfl
theorem dm8 : decM R [8] y s = ({ y with device := (R.num s).1 }, (R.num s).2) := rfl
theorem dm11 : decM R [11] y s = ({ y with fl := (flM R s).1 }, (flM R s).2) := rfl
theorem dm0 : decM R [] y s = (y, s) := rfl
theorem rpM_eq : rpM R s = (⟨(R.num s).1, (R.tr (R.num s).2).1, (R.wd (R.tr (R.num s).2).2).1⟩, (R.wd (R.tr (R.num s).2).2).2) := rfl
end
theorem dm06e (R : Rdr) (k : Int) (s : RS) : decM R [0, 6] (ev0 k) s = ({ ev0 k with time := (R.num s).1, reports := (repM (rpM R) (R.num (R.num s).2).1.toNat [] (R.num (R.num s).2).2).1 }, (repM (rpM R) (R.num (R.num s).2).1.toNat [] (R.num (R.num s).2).2).2) := rfl
theorem dm810e (R : Rdr) (k : Int) (s : RS) : decM R [8, 10] (ev0 k) s = ({ ev0 k with device := (R.num s).1, ops := (repM (opM R) (R.num (R.num s).2).1.toNat [] (R.num (R.num s).2).2).1 }, (repM (opM R) (R.num (R.num s).2).1.toNat [] (R.num (R.num s).2).2).2) := rfl
theorem rdR_k {R : Rdr} {a : UInt8} {r : BL} {l : List Nat} {z : Ev × RS} (hf : fieldsL (a.toNat : Int) = l) (hz : decM R l (ev0 (a.toNat : Int)) (s0r r) = z) : z = rdR R a r := by subst hf; exact hz.symm
theorem rdR_3 {R : Rdr} {a : UInt8} {r : BL} {acc : List Report} {t : RS} (hf : fieldsL (a.toNat : Int) = [0, 6]) (hR : (acc, t) = repM (rpM R) (R.num (R.num (s0r r)).2).1.toNat [] (R.num (R.num (s0r r)).2).2) :
    (({ ev0 (a.toNat : Int) with time := (R.num (s0r r)).1, reports := acc } : Ev), t) = rdR R a r := by
  rw [← rdR_k hf (dm06e R (a.toNat : Int) (s0r r)), ← hR]
theorem rdR_12 {R : Rdr} {a : UInt8} {r : BL} {acc : List Op} {t : RS} (hf : fieldsL (a.toNat : Int) = [8, 10]) (hR : (acc, t) = repM (opM R) (R.num (R.num (s0r r)).2).1.toNat [] (R.num (R.num (s0r r)).2).2) :
    (({ ev0 (a.toNat : Int) with device := (R.num (s0r r)).1, ops := acc } : Ev), t) = rdR R a r := by
  rw [← rdR_k hf (dm810e R (a.toNat : Int) (s0r r)), ← hR]
theorem suf_nil {B b : BL} (h : b <:+ B) (h1 : ((B.length - b.length : Nat) : Int) = (B.length : Int)) (h0 : 0 < B.length) : b = [] := by
  have := h.length_le
  exact List.eq_nil_of_length_eq_zero (by omega)
theorem smR {R : Rdr} (hR : R.Ok) {a : UInt8} {r : BL} {x : Ev} {t : RS} (hy : (x, t) = rdR R a r) (hst : t.b <:+ a :: r) (hl : r.length ≤ 1000000) (hk : inB (a.toNat : Int) 1 14 = true) (hb : t.bad = false ∧ (((a :: r).length - t.b.length : Nat) : Int) = ((a :: r).length : Int)) : x.Sm := by
  have h2 := suf_nil hst hb.2 (Nat.zero_lt_succ _)
  have e1 : (rdR R a r).1 = x := by rw [← hy]
  have e2 : (rdR R a r).2 = t := by rw [← hy]
  rw [← e1]
  exact rdR_sm hR hl hk (by rw [e2]; exact hb.1) (by rw [e2]; exact h2)
noncomputable abbrev endB (B : BL) (t : RS) (x : Ev) : Bool := (t.bad || !decide (((B.length - t.b.length : Nat) : Int) = (B.length : Int))) || !decide (valV x = 0)
theorem fin_no {R : Rdr} (hR : R.Ok) {a : UInt8} {r : BL} {x : Ev} {t : RS} (hy : (x, t) = rdR R a r) (hk : inB (a.toNat : Int) 1 14 = true) (h : endB (a :: r) t x = true) : decV (a :: r) = (ev0 0, 3) := by
  have e1 : (rdR R a r).1 = x := by rw [← hy]
  have e2 : (rdR R a r).2 = t := by rw [← hy]
  refine decR_no hR hk ?_
  rw [e1, e2]
  unfold endB at h
  rw [Bool.or_eq_true, Bool.or_eq_true, Bool.not_eq_true', Bool.not_eq_true', decide_eq_false_iff_not, decide_eq_false_iff_not] at h
  rcases h with (h | h) | h
  · exact .inl h
  · exact .inr (.inl (fun hb => h (by rw [hb]; rfl)))
  exact .inr (.inr h)
theorem fin_yes {R : Rdr} (hR : R.Ok) {a : UInt8} {r : BL} {x : Ev} {t : RS} (hy : (x, t) = rdR R a r) (hst : t.b <:+ a :: r) (hk : inB (a.toNat : Int) 1 14 = true) (h : endB (a :: r) t x = false) : decV (a :: r) = (x, 0) := by
  have e1 : (rdR R a r).1 = x := by rw [← hy]
  have e2 : (rdR R a r).2 = t := by rw [← hy]
  unfold endB at h
  rw [Bool.or_eq_false_iff, Bool.or_eq_false_iff, Bool.not_eq_false', Bool.not_eq_false', decide_eq_true_eq, decide_eq_true_eq] at h
  have h2 := suf_nil hst h.1.2 (Nat.zero_lt_succ _)
  have := decR_yes hR hk (by rw [e2]; exact h.1.1) (by rw [e2]; exact h2) (by rw [e1]; exact h.2)
  rw [this, e1]
set_option maxHeartbeats 800000 in
theorem C10v {R : Rdr} (hR : R.Ok) (HR : ∀ {B : BL}, B.length ≤ 1000000 → RdOk R B) {b : BL} (hl : b.length ≤ 1000000) : Fn Tryz.prog 10 [] [.ro (b.map bv)] [.agg (decV b).1.av, .v (.int .i64 (decV b).2)] [] := by
  refine Spec.body Tryz.func10 rfl Tryz.ntmps10 (by simp) rfl ?_; intro S0 own0 v0 w0 gl
  (refine AW.seq_k ?_; intro K hK)
  refine AW.region ?_
  refine awJ (op_alloc rfl ze42 rfl) ?_; (simp only [nA, Nat.reduceBEq, Nat.reduceEqDiff, ↓reduceIte])
  refine awP (op_assign rfl rfl) ?_; (try simp only [nA, Nat.reduceBEq, Nat.reduceEqDiff, ↓reduceIte, Nat.reduceAdd, Nat.reduceSub])
  refine AWL.nil ?_
  (refine hK _ ?_; clear hK K; (try simp only [nA, Nat.reduceBEq, Nat.reduceEqDiff, ↓reduceIte, Nat.reduceAdd, Nat.reduceSub]))
  (refine AW.seq_k ?_; intro K hK)
  (refine AW.seq_k ?_; intro K hK)
  refine AW.region (AWL.quiet ?_)
  refine aqP (op_move rfl rfl) ?_; (simp only [nA, ↓reduceIte])
  refine aqP (op_len_ro (n := b.length) rfl rfl Tryz.underlying22 (.inr (.inl ⟨_, rfl, by simp⟩))) ?_; (try simp only [nA, Nat.reduceBEq, Nat.reduceEqDiff, ↓reduceIte, Nat.reduceAdd, Nat.reduceSub])
  (refine aqP (op_eql rfl rfl rfl) ?_); (try simp only [nA, Nat.reduceBEq, Nat.reduceEqDiff, ↓reduceIte, Nat.reduceAdd, Nat.reduceSub])
  refine aqP (op_move rfl rfl) ?_; (simp only [nA])
  refine' aqOr' [_, _, _, _] [14,15,16,17] rfl rfl rfl rfl rfl rfl rfl rfl rfl rfl rfl rfl (fun hb => ?_) ?_; rotate_left
  ·
   (try simp only [hcS] at hb)
   refine aqP (op_move rfl rfl) ?_; (simp only [nA, ↓reduceIte])
   refine aqP (op_ia_ro 0 rfl (.inl rfl) rfl Tryz.underlying22 rfl (get_mapD (f := bv) (xs := b) (by omega)) (by exact sz5) (bl rfl)) ?_; (try simp only [nA, Nat.reduceBEq, Nat.reduceEqDiff, ↓reduceIte, Nat.reduceAdd, Nat.reduceSub])
   (refine aqR (op_load_rop1 rfl rfl ag5) ?_); (try simp only [nA, Nat.reduceBEq, Nat.reduceEqDiff, ↓reduceIte, Nat.reduceAdd, Nat.reduceSub])
   refine aqP (op_lss rfl rfl rfl) ?_; (try simp only [nA, Nat.reduceBEq, Nat.reduceEqDiff, ↓reduceIte, Nat.reduceAdd, Nat.reduceSub])
   (refine aqSeg rfl rfl rfl ?_; repeat (first | exact fun _ _ => rfl | refine upd_out rfl ?_))
  refine aqP (op_move rfl rfl) ?_; (simp only [nA])
  refine' aqOr' [_, _, _, _, _] [20,21,22,23,24] rfl rfl rfl rfl rfl rfl rfl rfl rfl rfl rfl rfl (fun hb => ?_) ?_; rotate_left
  ·
   (try simp only [hcS] at hb)
   refine aqP (op_move rfl rfl) ?_; (simp only [nA, Nat.reduceEqDiff, ↓reduceIte])
   refine aqP (op_ia_ro 0 rfl (.inl rfl) rfl Tryz.underlying22 rfl (get_mapD (f := bv) (xs := b) (by omega)) (by exact sz5) (bl rfl)) ?_; (try simp only [nA, Nat.reduceBEq, Nat.reduceEqDiff, ↓reduceIte, Nat.reduceAdd, Nat.reduceSub])
   (refine aqR (op_load_rop1 rfl rfl ag5) ?_); (try simp only [nA, Nat.reduceBEq, Nat.reduceEqDiff, ↓reduceIte, Nat.reduceAdd, Nat.reduceSub])
   refine aqP (op_conv rfl rfl Tryz.underlying5 Tryz.underlying3 (wrapB _)) ?_; (try simp only [nA, Nat.reduceBEq, Nat.reduceEqDiff, ↓reduceIte, Nat.reduceAdd, Nat.reduceSub])
   refine aqP (op_gtr rfl rfl rfl) ?_; (try simp only [nA, Nat.reduceBEq, Nat.reduceEqDiff, ↓reduceIte, Nat.reduceAdd, Nat.reduceSub])
   (refine aqSeg rfl rfl rfl ?_; repeat (first | exact fun _ _ => rfl | refine upd_out rfl ?_))
  refine AQ.nil ?_
  (refine hK _ ?_; clear hK K; (skip))
  refine AW.cond rfl rfl rfl (fun hc => ?_) (fun hc => ?_)
  ·
   have hc1 := hc
   (refine AW.seq_k ?_; intro K hK)
   refine AW.region ?_
   refine awP (op_build2 (xs := [.v (.int .i64 0), .v (.int .i64 0), .v (.string ⟨#[]⟩), .v (.int .i64 0), .v (.int .i64 0), .v (.int .i64 0), .v (.int .i64 0), .v (.int .i64 0), .v (.bool false), .v (.slice none 0 0), .v (.int .i64 0), .v (.int .i64 0), .v (.string ⟨#[]⟩), .v (.int .i64 0), .v (.string ⟨#[]⟩), .v (.int .i64 0), .v (.int .i64 0), .v (.int .i64 0), .v (.int .i64 0), .v (.int .i64 0), .v (.int .i64 0), .v (.int .i64 0), .v (.int .i64 0), .v (.int .i64 0), .v (.int .i64 0), .v (.int .i64 0), .v (.int .i64 0), .v (.slice none 0 0), .v (.string ⟨#[]⟩), .v (.int .i64 0), .v (.string ⟨#[]⟩), .v (.int .i64 0)]) rfl pl42 ze42 [] rfl rfl rfl) ?_; (try simp only [nA, Nat.reduceBEq, Nat.reduceEqDiff, ↓reduceIte, Nat.reduceAdd, Nat.reduceSub])
   refine awJ (op_store rfl rfl rfl rfl rfl rfl sz42 rfl (bl rfl) rfl) ?_; (simp only [nA, Nat.reduceBEq, Nat.reduceEqDiff, ↓reduceIte])
   refine awP (op_assign rfl rfl) ?_; (try simp only [nA, Nat.reduceBEq, Nat.reduceEqDiff, ↓reduceIte, Nat.reduceAdd, Nat.reduceSub])
   refine AWL.nil ?_
   (refine hK _ ?_; clear hK K; (skip))
   refine AW.gh (Gh.slot (r := 0) (es' := [(ev0 0).av]) rfl rfl (le_ev0s 0)) ?_; (try simp only [nA, Nat.reduceBEq, Nat.reduceEqDiff, ↓reduceIte, Nat.reduceAdd, Nat.reduceSub])
   refine AW.ret ?_; (try simp only [thenE, inBlk, Nat.reduceEqDiff, ↓reduceIte]); rw [dec_kR hc1]; exact RQ.of0 rfl (.cell (bl rfl) rfl rfl rfl ag42 sz42 (bl rfl) rfl rfl (.tmp (bl rfl) rfl rfl .nil))
  have hc1 := hc; have hbk : badK b = false := hc1; obtain ⟨a, r, rfl⟩ : ∃ a r, b = a :: r := (by match b, hc1 with | [], h => (simp at h) | a :: r, _ => exact ⟨a, r, rfl⟩); have hk0 : inB ((a.toNat : Nat) : Int) 1 14 = true := (by rw [badK_iff] at hbk; have h := (Bool.or_eq_false_iff.1 hbk).2; simpa using h); have hk := inB_iff.1 hk0; have hrl : r.length ≤ 1000000 := (by simp at hl; omega); have hB : (a :: r).length ≤ 1000000 := hl; have hs : (s0r r).b <:+ (a :: r) := List.suffix_cons a r; have H := HR hB
  refine AW.skip ?_
  (refine hK _ ?_; clear hK K; (try simp only [nA, Nat.reduceBEq, Nat.reduceEqDiff, ↓reduceIte, Nat.reduceAdd, Nat.reduceSub]))
  (refine AW.seq_k ?_; intro K hK)
  refine AW.region ?_
  refine awP (op_move rfl rfl) ?_; (simp only [nA, Nat.reduceEqDiff, ↓reduceIte])
  refine awP (op_build2 (xs := [_, _, .v (.bool false)]) rfl pl82 ze82 [(0, [_]), (1, [_])] rfl rfl rfl) ?_; (simp only [nA])
  refine awJ (op_box (row := rrC (a :: r) (s0r r)) rfl rfl (by rw [← rr_start a r]; rfl) sz82 rfl) ?_; (simp only [nA, Nat.reduceBEq, Nat.reduceEqDiff, ↓reduceIte])
  refine awP (op_assign rfl rfl) ?_; (simp only [nA])
  refine AWL.nil ?_
  (refine hK _ ?_; clear hK K; (skip))
  (refine AW.seq_k ?_; intro K hK)
  refine AW.region ?_
  refine awP (op_move rfl rfl) ?_; (simp only [nA, Nat.reduceEqDiff, ↓reduceIte])
  refine awP (op_ia_ro 0 rfl (.inl rfl) rfl Tryz.underlying22 rfl rfl (by exact sz5) (bl rfl)) ?_; (try simp only [nA, Nat.reduceBEq, Nat.reduceEqDiff, ↓reduceIte, Nat.reduceAdd, Nat.reduceSub])
  (refine awR (op_load_rop1 rfl rfl ag5) ?_); (try simp only [nA, Nat.reduceBEq, Nat.reduceEqDiff, ↓reduceIte, Nat.reduceAdd, Nat.reduceSub])
  refine awP (op_conv rfl rfl Tryz.underlying5 Tryz.underlying3 (wrapB _)) ?_; (try simp only [nA, Nat.reduceBEq, Nat.reduceEqDiff, ↓reduceIte, Nat.reduceAdd, Nat.reduceSub])
  refine awP (op_build2 (xs := [_, .v (.int .i64 0), .v (.string ⟨#[]⟩), .v (.int .i64 0), .v (.int .i64 0), .v (.int .i64 0), .v (.int .i64 0), .v (.int .i64 0), .v (.bool false), .v (.slice none 0 0), .v (.int .i64 0), .v (.int .i64 0), .v (.string ⟨#[]⟩), .v (.int .i64 0), .v (.string ⟨#[]⟩), .v (.int .i64 0), .v (.int .i64 0), .v (.int .i64 0), .v (.int .i64 0), .v (.int .i64 0), .v (.int .i64 0), .v (.int .i64 0), .v (.int .i64 0), .v (.int .i64 0), .v (.int .i64 0), .v (.int .i64 0), .v (.int .i64 0), .v (.slice none 0 0), .v (.string ⟨#[]⟩), .v (.int .i64 0), .v (.string ⟨#[]⟩), .v (.int .i64 0)]) rfl pl42 ze42 [(0, [_])] rfl rfl rfl) ?_; (simp only [nA])
  refine awJ (op_alloc rfl ze42 rfl) ?_; (simp only [nA, Nat.reduceBEq, Nat.reduceEqDiff, ↓reduceIte])
  refine awJ (op_store rfl rfl rfl rfl rfl rfl sz42 rfl (bl rfl) rfl) ?_; (simp only [nA, Nat.reduceBEq, Nat.reduceEqDiff, ↓reduceIte])
  refine AWL.nil ?_
  (refine hK _ ?_; clear hK K; (skip))
  refine AW.join (fun (q : Ev × RS × Nat) => [(0, .ro ((a :: r).map bv)), (2, .ptr 0 1 0 0), (4, .ptr 1 2 0 0), (5, .ptr 2 3 0 0)]) (fun q => ⟨[(1, .own 42 [evC (ev0 0) (.v (.slice none 0 0)) (.v (.slice none 0 0))]), (2, .own 82 [rrC (a :: r) q.2.1]), (3, .own 42 [q.1.av])], q.2.2⟩) (fun q => (q.1, q.2.1) = rdR R a r ∧ q.2.1.b <:+ (a :: r)) ?_ ?_
  ·
   (refine AW.seq_k ?_; intro K hK)
   refine AW.region ?_
   (refine awP (op_fa_ptr rfl rfl rfl fl42_0 (by exact sz3) (by decide) rfl) ?_); (try simp only [nA, Nat.reduceBEq, Nat.reduceEqDiff, ↓reduceIte, Nat.reduceAdd, Nat.reduceSub])
   (refine awR (op_load_ptr1 rfl rfl rfl rfl ag3 rfl rfl) ?_); (try simp only [nA, Nat.reduceBEq, Nat.reduceEqDiff, ↓reduceIte, Nat.reduceAdd, Nat.reduceSub])
   refine AWL.nil ?_
   (refine hK _ ?_; clear hK K; (try simp only [nA, Nat.reduceBEq, Nat.reduceEqDiff, ↓reduceIte, Nat.reduceAdd, Nat.reduceSub]))
   refine AW.block ?_
   (refine AW.seq_k ?_; intro K hK)
   refine AW.region ?_
   (refine awP (op_eql rfl rfl rfl) ?_); (try simp only [nA, Nat.reduceBEq, Nat.reduceEqDiff, ↓reduceIte, Nat.reduceAdd, Nat.reduceSub])
   refine awP (op_assign rfl rfl) ?_; (simp only [nA])
   refine AWL.nil ?_
   (refine hK _ ?_; clear hK K; (skip))
   refine AW.cond rfl rfl rfl (fun hc => ?_) (fun hc => ?_)
   ·
    have hc2 := hc; have hf : fieldsL ((a.toNat : Nat) : Int) = [1] := (by rw [of_decide_eq_true hc2]; rfl); refine AW.gh (Gh.slot (r := 2) (es' := [(ev0 ((a.toNat : Nat) : Int)).av]) rfl rfl (le_ev0s ((a.toNat : Nat) : Int))) ?_; (try simp only [nA, Nat.reduceBEq, Nat.reduceEqDiff, ↓reduceIte, Nat.reduceAdd, Nat.reduceSub])
    refine AW.region ?_
    refine awP (op_move rfl rfl) ?_; (simp only [nA, ↓reduceIte])
    refine awJ (op_call1 rfl en29 (D29 H hs) (by exact rfl) (RL.cons .ptr (RL.nil)) (by exact ⟨_, _, _, rfl, rfl, rfl⟩) (by exact rfl) (by exact rfl) (by exact rfl)) ?_; (try simp only [nA, Nat.reduceBEq, Nat.reduceEqDiff, ↓reduceIte, Nat.reduceAdd, Nat.reduceSub])
    (refine awP (op_fa_ptr rfl rfl rfl fl42_2 (by exact sz9) (by decide) rfl) ?_); (try simp only [nA, Nat.reduceBEq, Nat.reduceEqDiff, ↓reduceIte, Nat.reduceAdd, Nat.reduceSub])
    refine awJ (op_store rfl rfl rfl rfl rfl rfl sz9 rfl (bl rfl) rfl) ?_; (simp only [nA, ↓reduceIte])
    refine AWL.nil ?_
    (try simp only [thenE, inBlk, Nat.reduceEqDiff, ↓reduceIte])
    exact ⟨(_, _, _), ⟨rdR_k hf (dm1 R (ev0 ((a.toNat : Nat) : Int)) (s0r r)), suW H hs⟩, ⟨rfl, rfl, rfl, rfl, trivial⟩, (by rfl), (by trivial)⟩
   have hc2 := hc
   refine AW.join (fun (b : Bool) => [(0, .ro ((a :: r).map bv)), (2, .ptr 0 1 0 0), (4, .ptr 1 2 0 0), (5, .ptr 2 3 0 0), (36, .v (.int .i64 ((a.toNat : Nat) : Int))), (42, .v (.bool b))]) (fun b => ⟨[(1, .own 42 [evC (ev0 0) (.v (.slice none 0 0)) (.v (.slice none 0 0))]), (2, .own 82 [rrC (a :: r) (s0r r)]), (3, .own 42 [evC (ev0 ((a.toNat : Nat) : Int)) (.v (.slice none 0 0)) (.v (.slice none 0 0))])], 4⟩) (fun b => b = true ↔ ((a.toNat : Nat) : Int) = 2 ∨ ((a.toNat : Nat) : Int) = 10) ?_ ?_
   ·
    (refine AW.seq_k ?_; intro K hK)
    refine AW.region ?_
    (refine awP (op_eql rfl rfl rfl) ?_); (try simp only [nA, Nat.reduceBEq, Nat.reduceEqDiff, ↓reduceIte, Nat.reduceAdd, Nat.reduceSub])
    refine awP (op_assign rfl rfl) ?_; (simp only [nA])
    refine AWL.nil ?_
    (refine hK _ ?_; clear hK K; (try simp only [nA, Nat.reduceBEq, Nat.reduceEqDiff, ↓reduceIte, Nat.reduceAdd, Nat.reduceSub]))
    refine AW.cond rfl rfl rfl (fun hc => ?_) (fun hc => ?_)
    ·
     have hc3 := hc
     refine AW.skip ?_
     exact ⟨decide (((a.toNat : Nat) : Int) = 2), ⟨fun h => .inl (of_decide_eq_true h), fun _ => hc3⟩, ⟨rfl, rfl, rfl, rfl, rfl, rfl, trivial⟩, (by rfl), (by rfl)⟩
    have hc3 := hc
    refine AW.region ?_
    (refine awP (op_eql rfl rfl rfl) ?_); (try simp only [nA, Nat.reduceBEq, Nat.reduceEqDiff, ↓reduceIte, Nat.reduceAdd, Nat.reduceSub])
    refine awP (op_assign rfl rfl) ?_; (simp only [nA])
    refine AWL.nil ?_
    exact ⟨decide (((a.toNat : Nat) : Int) = 10), ⟨fun h => .inr (of_decide_eq_true h), fun h => h.elim (fun h => absurd h (of_decide_eq_false hc3)) decide_eq_true⟩, ⟨rfl, rfl, rfl, rfl, rfl, rfl, trivial⟩, (by rfl), (by rfl)⟩
   intro b3 ρ hb3; simp only [updL]; (try simp only [nA, Nat.reduceBEq, Nat.reduceEqDiff, ↓reduceIte, Nat.reduceAdd, Nat.reduceSub])
   refine AW.cond rfl rfl rfl (fun hc => ?_) (fun hc => ?_)
   ·
    have hc4 := hc; have hf : fieldsL ((a.toNat : Nat) : Int) = [2, 3] := (by rcases hb3.1 hc4 with h | h <;> rw [h] <;> rfl); have gP := D30 H hs; have sP := suP H hs; have eP := dm23 R (ev0 ((a.toNat : Nat) : Int)) (s0r r); generalize plM R (s0r r) = pP at gP sP eP; refine AW.gh (Gh.slot (r := 2) (es' := [(ev0 ((a.toNat : Nat) : Int)).av]) rfl rfl (le_ev0s ((a.toNat : Nat) : Int))) ?_; (try simp only [nA, Nat.reduceBEq, Nat.reduceEqDiff, ↓reduceIte, Nat.reduceAdd, Nat.reduceSub])
    (refine AW.seq_k ?_; intro K hK)
    refine AW.region ?_
    refine awP (op_move rfl rfl) ?_; (simp only [nA, ↓reduceIte])
    refine awJ (op_call1 rfl en30 gP (by exact rfl) (RL.cons .ptr (RL.nil)) (by exact ⟨_, _, _, rfl, rfl, rfl⟩) (by exact rfl) (by exact rfl) (by exact rfl)) ?_; (try simp only [nA, Nat.reduceBEq, Nat.reduceEqDiff, ↓reduceIte, Nat.reduceAdd, Nat.reduceSub])
    (refine awP (op_fa_ptr rfl rfl rfl fl42_3 (by exact sz30) (by decide) rfl) ?_); (try simp only [nA, Nat.reduceBEq, Nat.reduceEqDiff, ↓reduceIte, Nat.reduceAdd, Nat.reduceSub])
    refine awJ (op_store rfl rfl rfl rfl rfl rfl sz30 rfl (bl rfl) rfl) ?_; (try simp only [nA, Nat.reduceBEq, Nat.reduceEqDiff, ↓reduceIte, Nat.reduceAdd, Nat.reduceSub])
    refine AWL.nil ?_
    (refine hK _ ?_; clear hK K; (skip))
    refine AW.region ?_
    refine awP (op_move rfl rfl) ?_; (simp only [nA, ↓reduceIte])
    refine awJ (op_call1 rfl en31 (D31 H sP) (by exact rfl) (RL.cons .ptr (RL.nil)) (by exact ⟨_, _, _, rfl, rfl, rfl⟩) (by exact rfl) (by exact rfl) (by exact rfl)) ?_; (try simp only [nA, Nat.reduceBEq, Nat.reduceEqDiff, ↓reduceIte, Nat.reduceAdd, Nat.reduceSub])
    (refine awP (op_fa_ptr rfl rfl rfl fl42_4 (by exact sz3) (by decide) rfl) ?_); (try simp only [nA, Nat.reduceBEq, Nat.reduceEqDiff, ↓reduceIte, Nat.reduceAdd, Nat.reduceSub])
    refine awJ (op_store rfl rfl rfl rfl rfl rfl sz3 rfl (bl rfl) rfl) ?_; (simp only [nA, ↓reduceIte])
    refine AWL.nil ?_
    (try simp only [thenE, inBlk, Nat.reduceEqDiff, ↓reduceIte])
    exact ⟨(_, _, _), ⟨rdR_k hf eP, suN H sP⟩, ⟨rfl, rfl, rfl, rfl, trivial⟩, (by rfl), (by trivial)⟩
   have hc4 := hc
   (refine AW.seq_k ?_; intro K hK)
   refine AW.region ?_
   (refine awP (op_eql rfl rfl rfl) ?_); (try simp only [nA, Nat.reduceBEq, Nat.reduceEqDiff, ↓reduceIte, Nat.reduceAdd, Nat.reduceSub])
   refine awP (op_assign rfl rfl) ?_; (simp only [nA])
   refine AWL.nil ?_
   (refine hK _ ?_; clear hK K; (skip))
   refine AW.cond rfl rfl rfl (fun hc => ?_) (fun hc => ?_)
   ·
    have hc5 := hc; have hf : fieldsL ((a.toNat : Nat) : Int) = [0, 6] := (by rw [of_decide_eq_true hc5]; rfl); refine AW.gh (Gh.slot2 (r := 2) (es' := [evC (ev0 ((a.toNat : Nat) : Int)) (.own 60 []) (.ro [])]) rfl rfl (le_kr _)) ?_; (try simp only [nA, Nat.reduceBEq, Nat.reduceEqDiff, ↓reduceIte, Nat.reduceAdd, Nat.reduceSub])
    (refine AW.seq_k ?_; intro K hK)
    refine AW.region ?_
    refine awP (op_move rfl rfl) ?_; (simp only [nA, ↓reduceIte])
    refine awJ (op_call1 rfl en31 (D31 H hs) (by exact rfl) (RL.cons .ptr (RL.nil)) (by exact ⟨_, _, _, rfl, rfl, rfl⟩) (by exact rfl) (by exact rfl) (by exact rfl)) ?_; (try simp only [nA, Nat.reduceBEq, Nat.reduceEqDiff, ↓reduceIte, Nat.reduceAdd, Nat.reduceSub])
    (refine awP (op_fa_ptr rfl rfl rfl fl42_1 (by exact sz3) (by decide) rfl) ?_); (try simp only [nA, Nat.reduceBEq, Nat.reduceEqDiff, ↓reduceIte, Nat.reduceAdd, Nat.reduceSub])
    refine awJ (op_store rfl rfl rfl rfl rfl rfl sz3 rfl (bl rfl) rfl) ?_; (simp only [nA, ↓reduceIte])
    refine AWL.nil ?_
    (refine hK _ ?_; clear hK K; (skip))
    (refine AW.seq_k ?_; intro K hK)
    refine AW.region ?_
    refine awP (op_move rfl rfl) ?_; (simp only [nA, ↓reduceIte])
    refine awJ (op_call1 rfl en31 (D31 H (suN H hs)) (by exact rfl) (RL.cons .ptr (RL.nil)) (by exact ⟨_, _, _, rfl, rfl, rfl⟩) (by exact rfl) (by exact rfl) (by exact rfl)) ?_; (try simp only [nA, Nat.reduceBEq, Nat.reduceEqDiff, ↓reduceIte, Nat.reduceAdd, Nat.reduceSub])
    refine awP (op_assign rfl rfl) ?_; (simp only [nA])
    refine AWL.nil ?_
    (refine hK _ ?_; clear hK K; (skip))
    refine AW.block ?_
    have hnn := H.nn (R.num (s0r r)).2; refine AW.loopI (fun (q : Nat × List Report × RS × Nat) => [(0, .ro ((a :: r).map bv)), (2, .ptr 0 1 0 0), (4, .ptr 1 2 0 0), (5, .ptr 2 3 0 0), (6, .v (.int .i64 (q.1 : Nat)))]) (fun q => ⟨[(1, .own 42 [evC (ev0 0) (.v (.slice none 0 0)) (.v (.slice none 0 0))]), (2, .own 82 [rrC (a :: r) q.2.2.1]), (3, .own 42 [evC ({ ev0 ((a.toNat : Nat) : Int) with time := (R.num (s0r r)).1 } : Ev) (.own 60 (q.2.1.map Report.av)) (.ro [])])], q.2.2.2⟩) (fun q => repM (rpM R) q.1 q.2.1 q.2.2.1 = repM (rpM R) (R.num (R.num (s0r r)).2).1.toNat [] (R.num (R.num (s0r r)).2).2 ∧ q.2.2.1.b <:+ (a :: r) ∧ q.2.1.length + q.1 ≤ 4294967296) (fun q => q.1) ((R.num (R.num (s0r r)).2).1.toNat, [], (R.num (R.num (s0r r)).2).2, _) ⟨rfl, suN H (suN H hs), by have := H.top (R.num (s0r r)).2; dsimp only; simp only [List.length_nil]; omega⟩ ⟨rfl, rfl, rfl, rfl, by dsimp only; rw [Int.toNat_of_nonneg hnn]; rfl, trivial⟩ rfl ?_; rintro ⟨k, acc, t, ep⟩ ρ ⟨hR, hst, hka⟩; dsimp only at hR hst hka ⊢; simp only [updL]; (try simp only [nA, Nat.reduceBEq, Nat.reduceEqDiff, ↓reduceIte, Nat.reduceAdd, Nat.reduceSub])
    (refine AW.seq_k ?_; intro K hK)
    (refine AW.seq_k ?_; intro K hK)
    refine AW.region (AWL.quiet ?_)
    refine aqP (op_move rfl rfl) ?_; (simp only [nA, ↓reduceIte])
    refine aqP (op_gtr rfl rfl rfl) ?_; (try simp only [nA, Nat.reduceBEq, Nat.reduceEqDiff, ↓reduceIte, Nat.reduceAdd, Nat.reduceSub])
    refine aqP (op_move rfl rfl) ?_; (simp only [nA])
    refine' aqAnd' [_, _, _, _, _] [61,62,63,64,65] rfl rfl rfl rfl rfl rfl rfl rfl rfl rfl rfl rfl (fun hb => ?_) ?_; rotate_left
    ·
     (try simp only [hcS] at hb)
     refine aqP (op_move rfl rfl) ?_; (simp only [nA, ↓reduceIte])
     (refine aqP (op_nil_slot rfl rfl rfl) ?_); (try simp only [nA, Nat.reduceBEq, Nat.reduceEqDiff, ↓reduceIte, Nat.reduceAdd, Nat.reduceSub])
     (refine aqP (op_fa_ptr rfl rfl rfl fl82_2 (by exact sz4) (by decide) rfl) ?_); (try simp only [nA, Nat.reduceBEq, Nat.reduceEqDiff, ↓reduceIte, Nat.reduceAdd, Nat.reduceSub])
     (refine aqR (op_load_ptr1 rfl rfl rfl rfl ag4 rfl rfl) ?_); (try simp only [nA, Nat.reduceBEq, Nat.reduceEqDiff, ↓reduceIte, Nat.reduceAdd, Nat.reduceSub])
     refine aqP (op_not rfl rfl rfl) ?_; (try simp only [nA, Nat.reduceBEq, Nat.reduceEqDiff, ↓reduceIte, Nat.reduceAdd, Nat.reduceSub])
     (refine aqSeg rfl rfl rfl ?_; repeat (first | exact fun _ _ => rfl | refine upd_out rfl ?_))
    refine AQ.nil ?_
    (refine hK _ ?_; clear hK K; (skip))
    refine AW.cond rfl rfl rfl (fun hc => ?_) (fun hc => ?_)
    ·
     have hc6 := hc; obtain ⟨hkp, hb0⟩ : 0 < k ∧ t.bad = false := (by cases hbb : t.bad <;> rw [hbb] at hc6 <;> simp at hc6 <;> exact ⟨by omega, rfl⟩); obtain ⟨k, rfl⟩ : ∃ k', k = k' + 1 := ⟨k - 1, by omega⟩; rw [rep_step hb0] at hR; have g0 := D31 H hst; have g1 := D32 H (suN H hst); have g2 := D29 H (suT H (suN H hst)); have hs3 := suW H (suT H (suN H hst)); have hr := rpM_eq R t; generalize R.num t = p1 at g0 g1 g2 hr hs3; generalize R.tr p1.2 = p2 at g1 g2 hr hs3; generalize R.wd p2.2 = p3 at g2 hr hs3; rw [hr] at hR
     refine AW.skip ?_
     (refine hK _ ?_; clear hK K; (skip))
     (refine AW.seq_k ?_; intro K hK)
     refine AW.block ?_
     (refine AW.seq_k ?_; intro K hK)
     refine AW.region ?_
     refine awP (op_move rfl rfl) ?_; (simp only [nA, Nat.reduceEqDiff, ↓reduceIte])
     refine awJ (op_call1 rfl en31 g0 (by exact rfl) (RL.cons .ptr (RL.nil)) (by exact ⟨_, _, _, rfl, rfl, rfl⟩) (by exact rfl) (by exact rfl) (by exact rfl)) ?_; (try simp only [nA, Nat.reduceBEq, Nat.reduceEqDiff, ↓reduceIte, Nat.reduceAdd, Nat.reduceSub])
     refine awP (op_assign rfl rfl) ?_; (simp only [nA])
     refine AWL.nil ?_
     (refine hK _ ?_; clear hK K; (skip))
     (refine AW.seq_k ?_; intro K hK)
     refine AW.region ?_
     refine awP (op_move rfl rfl) ?_; (simp only [nA, Nat.reduceEqDiff, ↓reduceIte])
     refine awJ (op_call1 rfl en32 g1 (by exact rfl) (RL.cons .ptr (RL.nil)) (by exact ⟨_, _, _, rfl, rfl, rfl⟩) (by exact rfl) (by exact rfl) (by exact rfl)) ?_; (try simp only [nA, Nat.reduceBEq, Nat.reduceEqDiff, ↓reduceIte, Nat.reduceAdd, Nat.reduceSub])
     refine awP (op_assign rfl rfl) ?_; (simp only [nA])
     refine AWL.nil ?_
     (refine hK _ ?_; clear hK K; (skip))
     refine AW.ghE (GhE.unnest (r := 2) (row := evC ({ ev0 ((a.toNat : Nat) : Int) with time := (R.num (s0r r)).1 } : Ev) (.own 60 (acc.map Report.av)) (.ro [])) 0 9 rfl rfl rfl) ?_; intro u hu; (try simp only [nA, Nat.reduceBEq, Nat.reduceEqDiff, ↓reduceIte, Nat.reduceAdd, Nat.reduceSub])
     refine AW.aeo (fun T' => T'.slots[2]? = some (3, .own 42 [evC ({ ev0 ((a.toNat : Nat) : Int) with time := (R.num (s0r r)).1 } : Ev) (.v u) (.ro [])])) mix rfl ?_
     refine aePo 0 rfl (fun T' ok => op_fa_ptr rfl rfl ok fl42_7 (by exact sz31) (by decide) rfl) rfl (by kernel_rfl) (by kernel_rfl) ?_; (simp only [nA, Nat.reduceBEq, Nat.reduceEqDiff, ↓reduceIte])
     refine aeRo 1 rfl (fun T' ok => op_load_ptr1 (row := evC ({ ev0 ((a.toNat : Nat) : Int) with time := (R.num (s0r r)).1 } : Ev) (.v u) (.ro [])) rfl rfl ok rfl ag31 rfl rfl) rfl (by kernel_rfl) (by kernel_rfl) ?_; (try simp only [nA, Nat.reduceBEq, Nat.reduceEqDiff, ↓reduceIte, Nat.reduceAdd, Nat.reduceSub])
     refine aePo 2 rfl (fun T' ok => op_move rfl rfl) rfl (by kernel_rfl) (by kernel_rfl) ?_; (simp only [nA, ↓reduceIte])
     refine aePo 3 rfl (fun T' ok => op_move rfl rfl) rfl (by kernel_rfl) (by kernel_rfl) ?_; (simp only [nA, ↓reduceIte])
     refine aePo 4 rfl (fun T' ok => op_move rfl rfl) rfl (by kernel_rfl) (by kernel_rfl) ?_; (simp only [nA, Nat.reduceEqDiff, ↓reduceIte])
     refine aeJo 5 rfl (op_call1 rfl en29 g2 (by exact rfl) (RL.cons .ptr (RL.nil)) (by exact ⟨_, _, _, rfl, rfl, rfl⟩) (by exact rfl) (by exact rfl) (by exact rfl)) (by kernel_rfl) rfl ?_; (try simp only [nA, Nat.reduceBEq, Nat.reduceEqDiff, ↓reduceIte, Nat.reduceAdd, Nat.reduceSub])
     refine aePo 6 rfl (fun T' ok => op_build2 (xs := [_, _, _]) rfl pl60 ze60 [(0, [_]), (1, [_]), (2, [_])] rfl rfl rfl) rfl (by kernel_rfl) (by kernel_rfl) ?_; (simp only [nA, ↓reduceIte])
     refine aeJo 7 rfl (OpJ.frz (op_buildSlice rfl [(0, (⟨p1.1, p2.1, p3.1⟩ : Report).av)] [(⟨p1.1, p2.1, p3.1⟩ : Report).av] Tryz.underlying31 ze60 rfl (by simp) rfl (by simp) rfl (bl rfl) (by simp [maxLen])) (rp_flat [(⟨p1.1, p2.1, p3.1⟩ : Report)]) rfl) (by kernel_rfl) rfl ?_; (try simp only [nA, Nat.reduceBEq, Nat.reduceEqDiff, ↓reduceIte, Nat.reduceAdd, Nat.reduceSub])
     refine aeJo 8 rfl (OpJ.nm (t := 74) (r := 3) rfl rfl (op_app (rows := [(⟨p1.1, p2.1, p3.1⟩ : Report).av]) rfl rfl rfl rfl (by simp) .ro Tryz.underlying31 ze60 (by decide) (by simp) (by simp; omega) (by decide) (es' := (acc ++ [(⟨p1.1, p2.1, p3.1⟩ : Report)]).map Report.av) (by simp) (n := (acc ++ [(⟨p1.1, p2.1, p3.1⟩ : Report)]).length) (by simp))) (by kernel_rfl) rfl ?_; (try simp only [nA, Nat.reduceBEq, Nat.reduceEqDiff, ↓reduceIte, Nat.reduceAdd, Nat.reduceSub])
     refine aePo 9 rfl (fun T' ok => op_fa_ptr rfl rfl ok fl42_7 (by exact sz31) (by decide) rfl) rfl (by kernel_rfl) (by kernel_rfl) ?_; (try simp only [nA, Nat.reduceBEq, Nat.reduceEqDiff, ↓reduceIte, Nat.reduceAdd, Nat.reduceSub])
     refine aeLo 10 rfl (op_store_nest (r := 2) (q := 3) rfl rfl rfl rfl (row := evC ({ ev0 ((a.toNat : Nat) : Int) with time := (R.num (s0r r)).1 } : Ev) (.v u) (.ro [])) rfl sz31 rfl (by decide) (by simp) (by simp) (es2 := [evC ({ ev0 ((a.toNat : Nat) : Int) with time := (R.num (s0r r)).1 } : Ev) (.own 60 ((acc ++ [(⟨p1.1, p2.1, p3.1⟩ : Report)]).map Report.av)) (.ro [])]) rfl) (by kernel_rfl) (by kernel_rfl) ?_; (try simp only [nA, Nat.reduceBEq, Nat.reduceEqDiff, ↓reduceIte, Nat.reduceAdd, Nat.reduceSub])
     refine aeDoneo (by kernel_rfl) ?_
     (try simp only [thenE, inBlk, Nat.reduceEqDiff, ↓reduceIte])
     (refine hK _ ?_; clear hK K; (skip))
     refine AW.region ?_
     refine awP (op_move rfl rfl) ?_; (simp only [nA, Nat.reduceEqDiff, ↓reduceIte])
     (refine awP (op_subi rfl rfl rfl (by omega)) ?_); (try simp only [nA, Nat.reduceBEq, Nat.reduceEqDiff, ↓reduceIte, Nat.reduceAdd, Nat.reduceSub])
     refine awP (op_assign rfl rfl) ?_; (simp only [nA])
     refine AWL.gh (Gh.drop 3) ?_; (try simp only [nA, Nat.reduceBEq, Nat.reduceEqDiff, ↓reduceIte, Nat.reduceAdd, Nat.reduceSub])
     refine AWL.nil ?_
     refine ⟨(k, acc ++ [(⟨p1.1, p2.1, p3.1⟩ : Report)], p3.2, _), ⟨hR, hs3, by dsimp only; rw [List.length_append, List.length_singleton]; omega⟩, by dsimp only; omega, ⟨rfl, rfl, rfl, rfl, by dsimp only; exact congrArg (fun z => AV.v (.int .i64 z)) (by omega), trivial⟩, (by rfl), (by rfl)⟩
    have hc6 := hc; have hE : repM (rpM R) k acc t = (acc, t) := (by cases hbb : t.bad with | true => exact rep_bad hbb | false => (have h0 : k = 0 := (by rw [hbb] at hc6; simp at hc6; omega); subst h0; rfl)); rw [hE] at hR; refine AW.gh (Gh.freezeC (r := 2) 0 9 rfl rfl rfl (rp_flat _) rfl) ?_; (try simp only [nA, Nat.reduceBEq, Nat.reduceEqDiff, ↓reduceIte, Nat.reduceAdd, Nat.reduceSub])
    refine AW.exit ?_; (try simp only [thenE, inBlk, Nat.reduceEqDiff, ↓reduceIte])
    clear hK K
    (try simp only [thenE, inBlk, Nat.reduceEqDiff, ↓reduceIte])
    exact ⟨({ ev0 ((a.toNat : Nat) : Int) with time := (R.num (s0r r)).1, reports := acc }, t, _), ⟨rdR_3 hf hR, hst⟩, ⟨rfl, rfl, rfl, rfl, trivial⟩, (by rfl), (by trivial)⟩
   have hc5 := hc
   (refine AW.seq_k ?_; intro K hK)
   refine AW.region ?_
   (refine awP (op_eql rfl rfl rfl) ?_); (try simp only [nA, Nat.reduceBEq, Nat.reduceEqDiff, ↓reduceIte, Nat.reduceAdd, Nat.reduceSub])
   refine awP (op_assign rfl rfl) ?_; (simp only [nA])
   refine AWL.nil ?_
   (refine hK _ ?_; clear hK K; (skip))
   refine AW.cond rfl rfl rfl (fun hc => ?_) (fun hc => ?_)
   ·
    have hc7 := hc; have hf : fieldsL ((a.toNat : Nat) : Int) = [4, 5] := (by rw [of_decide_eq_true hc7]; rfl); refine AW.gh (Gh.slot (r := 2) (es' := [(ev0 ((a.toNat : Nat) : Int)).av]) rfl rfl (le_ev0s ((a.toNat : Nat) : Int))) ?_; (try simp only [nA, Nat.reduceBEq, Nat.reduceEqDiff, ↓reduceIte, Nat.reduceAdd, Nat.reduceSub])
    (refine AW.seq_k ?_; intro K hK)
    refine AW.region ?_
    refine awP (op_move rfl rfl) ?_; (simp only [nA, ↓reduceIte])
    refine awJ (op_call1 rfl en31 (D31 H hs) (by exact rfl) (RL.cons .ptr (RL.nil)) (by exact ⟨_, _, _, rfl, rfl, rfl⟩) (by exact rfl) (by exact rfl) (by exact rfl)) ?_; (try simp only [nA, Nat.reduceBEq, Nat.reduceEqDiff, ↓reduceIte, Nat.reduceAdd, Nat.reduceSub])
    (refine awP (op_fa_ptr rfl rfl rfl fl42_5 (by exact sz3) (by decide) rfl) ?_); (try simp only [nA, Nat.reduceBEq, Nat.reduceEqDiff, ↓reduceIte, Nat.reduceAdd, Nat.reduceSub])
    refine awJ (op_store rfl rfl rfl rfl rfl rfl sz3 rfl (bl rfl) rfl) ?_; (simp only [nA, ↓reduceIte])
    refine AWL.nil ?_
    (refine hK _ ?_; clear hK K; (skip))
    refine AW.region ?_
    refine awP (op_move rfl rfl) ?_; (simp only [nA, ↓reduceIte])
    refine awJ (op_call1 rfl en32 (D32 H (suN H hs)) (by exact rfl) (RL.cons .ptr (RL.nil)) (by exact ⟨_, _, _, rfl, rfl, rfl⟩) (by exact rfl) (by exact rfl) (by exact rfl)) ?_; (try simp only [nA, Nat.reduceBEq, Nat.reduceEqDiff, ↓reduceIte, Nat.reduceAdd, Nat.reduceSub])
    (refine awP (op_fa_ptr rfl rfl rfl fl42_6 (by exact sz4) (by decide) rfl) ?_); (try simp only [nA, Nat.reduceBEq, Nat.reduceEqDiff, ↓reduceIte, Nat.reduceAdd, Nat.reduceSub])
    refine awJ (op_store rfl rfl rfl rfl rfl rfl sz4 rfl (bl rfl) rfl) ?_; (simp only [nA, ↓reduceIte])
    refine AWL.nil ?_
    (try simp only [thenE, inBlk, Nat.reduceEqDiff, ↓reduceIte])
    exact ⟨(_, _, _), ⟨rdR_k hf (dm45 R (ev0 ((a.toNat : Nat) : Int)) (s0r r)), suT H (suN H hs)⟩, ⟨rfl, rfl, rfl, rfl, trivial⟩, (by rfl), (by trivial)⟩
   have hc7 := hc
   (refine AW.seq_k ?_; intro K hK)
   refine AW.region ?_
   (refine awP (op_eql rfl rfl rfl) ?_); (try simp only [nA, Nat.reduceBEq, Nat.reduceEqDiff, ↓reduceIte, Nat.reduceAdd, Nat.reduceSub])
   refine awP (op_assign rfl rfl) ?_; (simp only [nA])
   refine AWL.nil ?_
   (refine hK _ ?_; clear hK K; (skip))
   refine AW.cond rfl rfl rfl (fun hc => ?_) (fun hc => ?_)
   ·
    have hc8 := hc; have hf : fieldsL ((a.toNat : Nat) : Int) = [7] := (by rw [of_decide_eq_true hc8]; rfl); have gF := D33 H (suN H (suN H hs)); have sF := suF H (suN H (suN H hs)); have eF := dm7 R (ev0 ((a.toNat : Nat) : Int)) (s0r r); generalize flM R (R.num (R.num (s0r r)).2).2 = pF at gF sF eF; refine AW.gh (Gh.slot (r := 2) (es' := [(ev0 ((a.toNat : Nat) : Int)).av]) rfl rfl (le_ev0s ((a.toNat : Nat) : Int))) ?_; (try simp only [nA, Nat.reduceBEq, Nat.reduceEqDiff, ↓reduceIte, Nat.reduceAdd, Nat.reduceSub])
    (refine AW.seq_k ?_; intro K hK)
    refine AW.region ?_
    refine awP (op_move rfl rfl) ?_; (simp only [nA, ↓reduceIte])
    refine awJ (op_call1 rfl en31 (D31 H hs) (by exact rfl) (RL.cons .ptr (RL.nil)) (by exact ⟨_, _, _, rfl, rfl, rfl⟩) (by exact rfl) (by exact rfl) (by exact rfl)) ?_; (try simp only [nA, Nat.reduceBEq, Nat.reduceEqDiff, ↓reduceIte, Nat.reduceAdd, Nat.reduceSub])
    (refine awP (op_fa_ptr rfl rfl rfl fl42_8 (by exact sz35) (by decide) rfl) ?_); (try simp only [nA, Nat.reduceBEq, Nat.reduceEqDiff, ↓reduceIte, Nat.reduceAdd, Nat.reduceSub])
    (refine awP (op_fa_ptr rfl rfl rfl fl35_0 (by exact sz3) (by decide) rfl) ?_); (simp only [nA, Nat.reduceBEq, Nat.reduceEqDiff, ↓reduceIte])
    refine awJ (op_store rfl rfl rfl rfl rfl rfl sz3 rfl (bl rfl) rfl) ?_; (simp only [nA, ↓reduceIte])
    refine AWL.nil ?_
    (refine hK _ ?_; clear hK K; (skip))
    (refine AW.seq_k ?_; intro K hK)
    refine AW.region ?_
    refine awP (op_move rfl rfl) ?_; (simp only [nA, ↓reduceIte])
    refine awJ (op_call1 rfl en31 (D31 H (suN H hs)) (by exact rfl) (RL.cons .ptr (RL.nil)) (by exact ⟨_, _, _, rfl, rfl, rfl⟩) (by exact rfl) (by exact rfl) (by exact rfl)) ?_; (try simp only [nA, Nat.reduceBEq, Nat.reduceEqDiff, ↓reduceIte, Nat.reduceAdd, Nat.reduceSub])
    (refine awP (op_fa_ptr rfl rfl rfl fl42_8 (by exact sz35) (by decide) rfl) ?_); (try simp only [nA, Nat.reduceBEq, Nat.reduceEqDiff, ↓reduceIte, Nat.reduceAdd, Nat.reduceSub])
    (refine awP (op_fa_ptr rfl rfl rfl fl35_1 (by exact sz3) (by decide) rfl) ?_); (simp only [nA, Nat.reduceBEq, Nat.reduceEqDiff, ↓reduceIte])
    refine awJ (op_store rfl rfl rfl rfl rfl rfl sz3 rfl (bl rfl) rfl) ?_; (simp only [nA, ↓reduceIte])
    refine AWL.nil ?_
    (refine hK _ ?_; clear hK K; (skip))
    refine AW.region ?_
    refine awP (op_move rfl rfl) ?_; (simp only [nA, ↓reduceIte])
    refine awJ (op_call1 rfl en33 gF (by exact rfl) (RL.cons .ptr (RL.nil)) (by exact ⟨_, _, _, rfl, rfl, rfl⟩) (by exact rfl) (by exact rfl) (by exact rfl)) ?_; (try simp only [nA, Nat.reduceBEq, Nat.reduceEqDiff, ↓reduceIte, Nat.reduceAdd, Nat.reduceSub])
    (refine awP (op_fa_ptr rfl rfl rfl fl42_8 (by exact sz35) (by decide) rfl) ?_); (try simp only [nA, Nat.reduceBEq, Nat.reduceEqDiff, ↓reduceIte, Nat.reduceAdd, Nat.reduceSub])
    (refine awP (op_fa_ptr rfl rfl rfl fl35_2 (by exact sz33) (by decide) rfl) ?_); (simp only [nA, Nat.reduceBEq, Nat.reduceEqDiff, ↓reduceIte])
    refine awJ (op_store rfl rfl rfl rfl rfl rfl sz33 rfl (bl rfl) rfl) ?_; (try simp only [nA, Nat.reduceBEq, Nat.reduceEqDiff, ↓reduceIte, Nat.reduceAdd, Nat.reduceSub])
    refine AWL.nil ?_
    (try simp only [thenE, inBlk, Nat.reduceEqDiff, ↓reduceIte])
    exact ⟨(_, _, _), ⟨rdR_k hf eF, sF⟩, ⟨rfl, rfl, rfl, rfl, trivial⟩, (by rfl), (by trivial)⟩
   have hc8 := hc
   refine AW.join (fun (b : Bool) => [(0, .ro ((a :: r).map bv)), (2, .ptr 0 1 0 0), (4, .ptr 1 2 0 0), (5, .ptr 2 3 0 0), (36, .v (.int .i64 ((a.toNat : Nat) : Int))), (105, .v (.bool b))]) (fun b => ⟨[(1, .own 42 [evC (ev0 0) (.v (.slice none 0 0)) (.v (.slice none 0 0))]), (2, .own 82 [rrC (a :: r) (s0r r)]), (3, .own 42 [evC (ev0 ((a.toNat : Nat) : Int)) (.v (.slice none 0 0)) (.v (.slice none 0 0))])], 4⟩) (fun b => b = true ↔ ((a.toNat : Nat) : Int) = 6 ∨ ((a.toNat : Nat) : Int) = 7) ?_ ?_
   ·
    (refine AW.seq_k ?_; intro K hK)
    refine AW.region ?_
    (refine awP (op_eql rfl rfl rfl) ?_); (try simp only [nA, Nat.reduceBEq, Nat.reduceEqDiff, ↓reduceIte, Nat.reduceAdd, Nat.reduceSub])
    refine awP (op_assign rfl rfl) ?_; (simp only [nA])
    refine AWL.nil ?_
    (refine hK _ ?_; clear hK K; (try simp only [nA, Nat.reduceBEq, Nat.reduceEqDiff, ↓reduceIte, Nat.reduceAdd, Nat.reduceSub]))
    refine AW.cond rfl rfl rfl (fun hc => ?_) (fun hc => ?_)
    ·
     have hc9 := hc
     refine AW.skip ?_
     exact ⟨decide (((a.toNat : Nat) : Int) = 6), ⟨fun h => .inl (of_decide_eq_true h), fun _ => hc9⟩, ⟨rfl, rfl, rfl, rfl, rfl, rfl, trivial⟩, (by rfl), (by rfl)⟩
    have hc9 := hc
    refine AW.region ?_
    (refine awP (op_eql rfl rfl rfl) ?_); (try simp only [nA, Nat.reduceBEq, Nat.reduceEqDiff, ↓reduceIte, Nat.reduceAdd, Nat.reduceSub])
    refine awP (op_assign rfl rfl) ?_; (simp only [nA])
    refine AWL.nil ?_
    exact ⟨decide (((a.toNat : Nat) : Int) = 7), ⟨fun h => .inr (of_decide_eq_true h), fun h => h.elim (fun h => absurd h (of_decide_eq_false hc9)) decide_eq_true⟩, ⟨rfl, rfl, rfl, rfl, rfl, rfl, trivial⟩, (by rfl), (by rfl)⟩
   intro b9 ρ hb9; simp only [updL]; (try simp only [nA, Nat.reduceBEq, Nat.reduceEqDiff, ↓reduceIte, Nat.reduceAdd, Nat.reduceSub])
   refine AW.cond rfl rfl rfl (fun hc => ?_) (fun hc => ?_)
   ·
    have hc10 := hc; have hf : fieldsL ((a.toNat : Nat) : Int) = [3] := (by rcases hb9.1 hc10 with h | h <;> rw [h] <;> rfl); refine AW.gh (Gh.slot (r := 2) (es' := [(ev0 ((a.toNat : Nat) : Int)).av]) rfl rfl (le_ev0s ((a.toNat : Nat) : Int))) ?_; (try simp only [nA, Nat.reduceBEq, Nat.reduceEqDiff, ↓reduceIte, Nat.reduceAdd, Nat.reduceSub])
    refine AW.region ?_
    refine awP (op_move rfl rfl) ?_; (simp only [nA, ↓reduceIte])
    refine awJ (op_call1 rfl en31 (D31 H hs) (by exact rfl) (RL.cons .ptr (RL.nil)) (by exact ⟨_, _, _, rfl, rfl, rfl⟩) (by exact rfl) (by exact rfl) (by exact rfl)) ?_; (try simp only [nA, Nat.reduceBEq, Nat.reduceEqDiff, ↓reduceIte, Nat.reduceAdd, Nat.reduceSub])
    (refine awP (op_fa_ptr rfl rfl rfl fl42_4 (by exact sz3) (by decide) rfl) ?_); (try simp only [nA, Nat.reduceBEq, Nat.reduceEqDiff, ↓reduceIte, Nat.reduceAdd, Nat.reduceSub])
    refine awJ (op_store rfl rfl rfl rfl rfl rfl sz3 rfl (bl rfl) rfl) ?_; (simp only [nA, ↓reduceIte])
    refine AWL.nil ?_
    (try simp only [thenE, inBlk, Nat.reduceEqDiff, ↓reduceIte])
    exact ⟨(_, _, _), ⟨rdR_k hf (dm3 R (ev0 ((a.toNat : Nat) : Int)) (s0r r)), suN H hs⟩, ⟨rfl, rfl, rfl, rfl, trivial⟩, (by rfl), (by trivial)⟩
   have hc10 := hc
   (refine AW.seq_k ?_; intro K hK)
   refine AW.region ?_
   (refine awP (op_eql rfl rfl rfl) ?_); (try simp only [nA, Nat.reduceBEq, Nat.reduceEqDiff, ↓reduceIte, Nat.reduceAdd, Nat.reduceSub])
   refine awP (op_assign rfl rfl) ?_; (simp only [nA])
   refine AWL.nil ?_
   (refine hK _ ?_; clear hK K; (skip))
   refine AW.cond rfl rfl rfl (fun hc => ?_) (fun hc => ?_)
   ·
    have hc11 := hc; have hf : fieldsL ((a.toNat : Nat) : Int) = [9, 3] := (by rw [of_decide_eq_true hc11]; rfl); have gO := D34 H hs; have sO := suO H hs; have eO := dm93 R (ev0 ((a.toNat : Nat) : Int)) (s0r r); generalize opM R (s0r r) = pO at gO sO eO; refine AW.gh (Gh.slot (r := 2) (es' := [(ev0 ((a.toNat : Nat) : Int)).av]) rfl rfl (le_ev0s ((a.toNat : Nat) : Int))) ?_; (try simp only [nA, Nat.reduceBEq, Nat.reduceEqDiff, ↓reduceIte, Nat.reduceAdd, Nat.reduceSub])
    (refine AW.seq_k ?_; intro K hK)
    refine AW.region ?_
    refine awP (op_move rfl rfl) ?_; (simp only [nA, ↓reduceIte])
    refine awJ (op_call1 rfl en34 gO (by exact rfl) (RL.cons .ptr (RL.nil)) (by exact ⟨_, _, _, rfl, rfl, rfl⟩) (by exact rfl) (by exact rfl) (by exact rfl)) ?_; (try simp only [nA, Nat.reduceBEq, Nat.reduceEqDiff, ↓reduceIte, Nat.reduceAdd, Nat.reduceSub])
    (refine awP (op_fa_ptr rfl rfl rfl fl42_10 (by exact sz39) (by decide) rfl) ?_); (try simp only [nA, Nat.reduceBEq, Nat.reduceEqDiff, ↓reduceIte, Nat.reduceAdd, Nat.reduceSub])
    refine awJ (op_store rfl rfl rfl rfl rfl rfl sz39 rfl (bl rfl) rfl) ?_; (try simp only [nA, Nat.reduceBEq, Nat.reduceEqDiff, ↓reduceIte, Nat.reduceAdd, Nat.reduceSub])
    refine AWL.nil ?_
    (refine hK _ ?_; clear hK K; (skip))
    refine AW.region ?_
    refine awP (op_move rfl rfl) ?_; (simp only [nA, ↓reduceIte])
    refine awJ (op_call1 rfl en31 (D31 H sO) (by exact rfl) (RL.cons .ptr (RL.nil)) (by exact ⟨_, _, _, rfl, rfl, rfl⟩) (by exact rfl) (by exact rfl) (by exact rfl)) ?_; (try simp only [nA, Nat.reduceBEq, Nat.reduceEqDiff, ↓reduceIte, Nat.reduceAdd, Nat.reduceSub])
    (refine awP (op_fa_ptr rfl rfl rfl fl42_4 (by exact sz3) (by decide) rfl) ?_); (try simp only [nA, Nat.reduceBEq, Nat.reduceEqDiff, ↓reduceIte, Nat.reduceAdd, Nat.reduceSub])
    refine awJ (op_store rfl rfl rfl rfl rfl rfl sz3 rfl (bl rfl) rfl) ?_; (simp only [nA, ↓reduceIte])
    refine AWL.nil ?_
    (try simp only [thenE, inBlk, Nat.reduceEqDiff, ↓reduceIte])
    exact ⟨(_, _, _), ⟨rdR_k hf eO, suN H sO⟩, ⟨rfl, rfl, rfl, rfl, trivial⟩, (by rfl), (by trivial)⟩
   have hc11 := hc
   (refine AW.seq_k ?_; intro K hK)
   refine AW.region ?_
   (refine awP (op_eql rfl rfl rfl) ?_); (try simp only [nA, Nat.reduceBEq, Nat.reduceEqDiff, ↓reduceIte, Nat.reduceAdd, Nat.reduceSub])
   refine awP (op_assign rfl rfl) ?_; (simp only [nA])
   refine AWL.nil ?_
   (refine hK _ ?_; clear hK K; (skip))
   refine AW.cond rfl rfl rfl (fun hc => ?_) (fun hc => ?_)
   ·
    have hc12 := hc; have hf : fieldsL ((a.toNat : Nat) : Int) = [9] := (by rw [of_decide_eq_true hc12]; rfl); have gO := D34 H hs; have sO := suO H hs; have eO := dm9 R (ev0 ((a.toNat : Nat) : Int)) (s0r r); generalize opM R (s0r r) = pO at gO sO eO; refine AW.gh (Gh.slot (r := 2) (es' := [(ev0 ((a.toNat : Nat) : Int)).av]) rfl rfl (le_ev0s ((a.toNat : Nat) : Int))) ?_; (try simp only [nA, Nat.reduceBEq, Nat.reduceEqDiff, ↓reduceIte, Nat.reduceAdd, Nat.reduceSub])
    refine AW.region ?_
    refine awP (op_move rfl rfl) ?_; (simp only [nA, ↓reduceIte])
    refine awJ (op_call1 rfl en34 gO (by exact rfl) (RL.cons .ptr (RL.nil)) (by exact ⟨_, _, _, rfl, rfl, rfl⟩) (by exact rfl) (by exact rfl) (by exact rfl)) ?_; (try simp only [nA, Nat.reduceBEq, Nat.reduceEqDiff, ↓reduceIte, Nat.reduceAdd, Nat.reduceSub])
    (refine awP (op_fa_ptr rfl rfl rfl fl42_10 (by exact sz39) (by decide) rfl) ?_); (try simp only [nA, Nat.reduceBEq, Nat.reduceEqDiff, ↓reduceIte, Nat.reduceAdd, Nat.reduceSub])
    refine awJ (op_store rfl rfl rfl rfl rfl rfl sz39 rfl (bl rfl) rfl) ?_; (try simp only [nA, Nat.reduceBEq, Nat.reduceEqDiff, ↓reduceIte, Nat.reduceAdd, Nat.reduceSub])
    refine AWL.nil ?_
    (try simp only [thenE, inBlk, Nat.reduceEqDiff, ↓reduceIte])
    exact ⟨(_, _, _), ⟨rdR_k hf eO, sO⟩, ⟨rfl, rfl, rfl, rfl, trivial⟩, (by rfl), (by trivial)⟩
   have hc12 := hc
   (refine AW.seq_k ?_; intro K hK)
   refine AW.region ?_
   (refine awP (op_eql rfl rfl rfl) ?_); (try simp only [nA, Nat.reduceBEq, Nat.reduceEqDiff, ↓reduceIte, Nat.reduceAdd, Nat.reduceSub])
   refine awP (op_assign rfl rfl) ?_; (simp only [nA])
   refine AWL.nil ?_
   (refine hK _ ?_; clear hK K; (skip))
   refine AW.cond rfl rfl rfl (fun hc => ?_) (fun hc => ?_)
   ·
    have hc13 := hc; have hf : fieldsL ((a.toNat : Nat) : Int) = [8] := (by rw [of_decide_eq_true hc13]; rfl); refine AW.gh (Gh.slot (r := 2) (es' := [(ev0 ((a.toNat : Nat) : Int)).av]) rfl rfl (le_ev0s ((a.toNat : Nat) : Int))) ?_; (try simp only [nA, Nat.reduceBEq, Nat.reduceEqDiff, ↓reduceIte, Nat.reduceAdd, Nat.reduceSub])
    refine AW.region ?_
    refine awP (op_move rfl rfl) ?_; (simp only [nA, ↓reduceIte])
    refine awJ (op_call1 rfl en31 (D31 H hs) (by exact rfl) (RL.cons .ptr (RL.nil)) (by exact ⟨_, _, _, rfl, rfl, rfl⟩) (by exact rfl) (by exact rfl) (by exact rfl)) ?_; (try simp only [nA, Nat.reduceBEq, Nat.reduceEqDiff, ↓reduceIte, Nat.reduceAdd, Nat.reduceSub])
    (refine awP (op_fa_ptr rfl rfl rfl fl42_9 (by exact sz3) (by decide) rfl) ?_); (try simp only [nA, Nat.reduceBEq, Nat.reduceEqDiff, ↓reduceIte, Nat.reduceAdd, Nat.reduceSub])
    refine awJ (op_store rfl rfl rfl rfl rfl rfl sz3 rfl (bl rfl) rfl) ?_; (simp only [nA, ↓reduceIte])
    refine AWL.nil ?_
    (try simp only [thenE, inBlk, Nat.reduceEqDiff, ↓reduceIte])
    exact ⟨(_, _, _), ⟨rdR_k hf (dm8 R (ev0 ((a.toNat : Nat) : Int)) (s0r r)), suN H hs⟩, ⟨rfl, rfl, rfl, rfl, trivial⟩, (by rfl), (by trivial)⟩
   have hc13 := hc
   (refine AW.seq_k ?_; intro K hK)
   refine AW.region ?_
   (refine awP (op_eql rfl rfl rfl) ?_); (try simp only [nA, Nat.reduceBEq, Nat.reduceEqDiff, ↓reduceIte, Nat.reduceAdd, Nat.reduceSub])
   refine awP (op_assign rfl rfl) ?_; (simp only [nA])
   refine AWL.nil ?_
   (refine hK _ ?_; clear hK K; (skip))
   refine AW.cond rfl rfl rfl (fun hc => ?_) (fun hc => ?_)
   ·
    have hc14 := hc; have hf : fieldsL ((a.toNat : Nat) : Int) = [8, 10] := (by rw [of_decide_eq_true hc14]; rfl); refine AW.gh (Gh.slot2 (r := 2) (es' := [evC (ev0 ((a.toNat : Nat) : Int)) (.ro []) (.own 39 [])]) rfl rfl (le_ko _)) ?_; (try simp only [nA, Nat.reduceBEq, Nat.reduceEqDiff, ↓reduceIte, Nat.reduceAdd, Nat.reduceSub])
    (refine AW.seq_k ?_; intro K hK)
    refine AW.region ?_
    refine awP (op_move rfl rfl) ?_; (simp only [nA, ↓reduceIte])
    refine awJ (op_call1 rfl en31 (D31 H hs) (by exact rfl) (RL.cons .ptr (RL.nil)) (by exact ⟨_, _, _, rfl, rfl, rfl⟩) (by exact rfl) (by exact rfl) (by exact rfl)) ?_; (try simp only [nA, Nat.reduceBEq, Nat.reduceEqDiff, ↓reduceIte, Nat.reduceAdd, Nat.reduceSub])
    (refine awP (op_fa_ptr rfl rfl rfl fl42_9 (by exact sz3) (by decide) rfl) ?_); (try simp only [nA, Nat.reduceBEq, Nat.reduceEqDiff, ↓reduceIte, Nat.reduceAdd, Nat.reduceSub])
    refine awJ (op_store rfl rfl rfl rfl rfl rfl sz3 rfl (bl rfl) rfl) ?_; (simp only [nA, ↓reduceIte])
    refine AWL.nil ?_
    (refine hK _ ?_; clear hK K; (skip))
    (refine AW.seq_k ?_; intro K hK)
    refine AW.region ?_
    refine awP (op_move rfl rfl) ?_; (simp only [nA, ↓reduceIte])
    refine awJ (op_call1 rfl en31 (D31 H (suN H hs)) (by exact rfl) (RL.cons .ptr (RL.nil)) (by exact ⟨_, _, _, rfl, rfl, rfl⟩) (by exact rfl) (by exact rfl) (by exact rfl)) ?_; (try simp only [nA, Nat.reduceBEq, Nat.reduceEqDiff, ↓reduceIte, Nat.reduceAdd, Nat.reduceSub])
    refine awP (op_assign rfl rfl) ?_; (simp only [nA])
    refine AWL.nil ?_
    (refine hK _ ?_; clear hK K; (skip))
    refine AW.block ?_
    have hnn := H.nn (R.num (s0r r)).2; refine AW.loopI (fun (q : Nat × List Op × RS × Nat) => [(0, .ro ((a :: r).map bv)), (2, .ptr 0 1 0 0), (4, .ptr 1 2 0 0), (5, .ptr 2 3 0 0), (9, .v (.int .i64 (q.1 : Nat)))]) (fun q => ⟨[(1, .own 42 [evC (ev0 0) (.v (.slice none 0 0)) (.v (.slice none 0 0))]), (2, .own 82 [rrC (a :: r) q.2.2.1]), (3, .own 42 [evC ({ ev0 ((a.toNat : Nat) : Int) with device := (R.num (s0r r)).1 } : Ev) (.ro []) (.own 39 (q.2.1.map Op.av))])], q.2.2.2⟩) (fun q => repM (opM R) q.1 q.2.1 q.2.2.1 = repM (opM R) (R.num (R.num (s0r r)).2).1.toNat [] (R.num (R.num (s0r r)).2).2 ∧ q.2.2.1.b <:+ (a :: r) ∧ q.2.1.length + q.1 ≤ 4294967296) (fun q => q.1) ((R.num (R.num (s0r r)).2).1.toNat, [], (R.num (R.num (s0r r)).2).2, _) ⟨rfl, suN H (suN H hs), by have := H.top (R.num (s0r r)).2; dsimp only; simp only [List.length_nil]; omega⟩ ⟨rfl, rfl, rfl, rfl, by dsimp only; rw [Int.toNat_of_nonneg hnn]; rfl, trivial⟩ rfl ?_; rintro ⟨k, acc, t, ep⟩ ρ ⟨hR, hst, hka⟩; dsimp only at hR hst hka ⊢; simp only [updL]; (try simp only [nA, Nat.reduceBEq, Nat.reduceEqDiff, ↓reduceIte, Nat.reduceAdd, Nat.reduceSub])
    (refine AW.seq_k ?_; intro K hK)
    (refine AW.seq_k ?_; intro K hK)
    refine AW.region (AWL.quiet ?_)
    refine aqP (op_move rfl rfl) ?_; (simp only [nA, ↓reduceIte])
    refine aqP (op_gtr rfl rfl rfl) ?_; (try simp only [nA, Nat.reduceBEq, Nat.reduceEqDiff, ↓reduceIte, Nat.reduceAdd, Nat.reduceSub])
    refine aqP (op_move rfl rfl) ?_; (simp only [nA])
    refine' aqAnd' [_, _, _, _, _] [139,140,141,142,143] rfl rfl rfl rfl rfl rfl rfl rfl rfl rfl rfl rfl (fun hb => ?_) ?_; rotate_left
    ·
     (try simp only [hcS] at hb)
     refine aqP (op_move rfl rfl) ?_; (simp only [nA, ↓reduceIte])
     (refine aqP (op_nil_slot rfl rfl rfl) ?_); (try simp only [nA, Nat.reduceBEq, Nat.reduceEqDiff, ↓reduceIte, Nat.reduceAdd, Nat.reduceSub])
     (refine aqP (op_fa_ptr rfl rfl rfl fl82_2 (by exact sz4) (by decide) rfl) ?_); (try simp only [nA, Nat.reduceBEq, Nat.reduceEqDiff, ↓reduceIte, Nat.reduceAdd, Nat.reduceSub])
     (refine aqR (op_load_ptr1 rfl rfl rfl rfl ag4 rfl rfl) ?_); (try simp only [nA, Nat.reduceBEq, Nat.reduceEqDiff, ↓reduceIte, Nat.reduceAdd, Nat.reduceSub])
     refine aqP (op_not rfl rfl rfl) ?_; (try simp only [nA, Nat.reduceBEq, Nat.reduceEqDiff, ↓reduceIte, Nat.reduceAdd, Nat.reduceSub])
     (refine aqSeg rfl rfl rfl ?_; repeat (first | exact fun _ _ => rfl | refine upd_out rfl ?_))
    refine AQ.nil ?_
    (refine hK _ ?_; clear hK K; (skip))
    refine AW.cond rfl rfl rfl (fun hc => ?_) (fun hc => ?_)
    ·
     have hc15 := hc; obtain ⟨hkp, hb0⟩ : 0 < k ∧ t.bad = false := (by cases hbb : t.bad <;> rw [hbb] at hc15 <;> simp at hc15 <;> exact ⟨by omega, rfl⟩); obtain ⟨k, rfl⟩ : ∃ k', k = k' + 1 := ⟨k - 1, by omega⟩; rw [rep_step hb0] at hR; have g0 := D34 H hst; have hs3 := suO H hst; generalize opM R t = p1 at g0 hR hs3; obtain ⟨o1, t1⟩ := p1; dsimp only at g0 hR hs3
     refine AW.skip ?_
     (refine hK _ ?_; clear hK K; (skip))
     (refine AW.seq_k ?_; intro K hK)
     refine AW.block ?_
     refine AW.ghE (GhE.unnest (r := 2) (row := evC ({ ev0 ((a.toNat : Nat) : Int) with device := (R.num (s0r r)).1 } : Ev) (.ro []) (.own 39 (acc.map Op.av))) 0 27 rfl rfl rfl) ?_; intro u hu; (try simp only [nA, Nat.reduceBEq, Nat.reduceEqDiff, ↓reduceIte, Nat.reduceAdd, Nat.reduceSub])
     refine AW.aeo (fun T' => T'.slots[2]? = some (3, .own 42 [evC ({ ev0 ((a.toNat : Nat) : Int) with device := (R.num (s0r r)).1 } : Ev) (.ro []) (.v u)])) mix rfl ?_
     refine aePo 0 rfl (fun T' ok => op_fa_ptr rfl rfl ok fl42_11 (by exact sz40) (by decide) rfl) rfl (by kernel_rfl) (by kernel_rfl) ?_; (simp only [nA, Nat.reduceBEq, Nat.reduceEqDiff, ↓reduceIte])
     refine aeRo 1 rfl (fun T' ok => op_load_ptr1 (row := evC ({ ev0 ((a.toNat : Nat) : Int) with device := (R.num (s0r r)).1 } : Ev) (.ro []) (.v u)) rfl rfl ok rfl ag40 rfl rfl) rfl (by kernel_rfl) (by kernel_rfl) ?_; (try simp only [nA, Nat.reduceBEq, Nat.reduceEqDiff, ↓reduceIte, Nat.reduceAdd, Nat.reduceSub])
     refine aePo 2 rfl (fun T' ok => op_move rfl rfl) rfl (by kernel_rfl) (by kernel_rfl) ?_; (simp only [nA, Nat.reduceEqDiff, ↓reduceIte])
     refine aeJo 3 rfl (op_call1 rfl en34 g0 (by exact rfl) (RL.cons .ptr (RL.nil)) (by exact ⟨_, _, _, rfl, rfl, rfl⟩) (by exact rfl) (by exact rfl) (by exact rfl)) (by kernel_rfl) rfl ?_; (try simp only [nA, Nat.reduceBEq, Nat.reduceEqDiff, ↓reduceIte, Nat.reduceAdd, Nat.reduceSub])
     refine aeJo 4 rfl (OpJ.frz (op_buildSlice rfl [(0, Op.av o1)] [Op.av o1] Tryz.underlying40 ze39 rfl (by simp) rfl (by simp) rfl (bl rfl) (by simp [maxLen])) (op_flat [o1]) rfl) (by kernel_rfl) rfl ?_; (try simp only [nA, Nat.reduceBEq, Nat.reduceEqDiff, ↓reduceIte, Nat.reduceAdd, Nat.reduceSub])
     refine aeJo 5 rfl (OpJ.nm (t := 148) (r := 3) rfl rfl (op_app (rows := [Op.av o1]) rfl rfl rfl rfl (by simp) .ro Tryz.underlying40 ze39 (by decide) (by simp) (by simp; omega) (by decide) (es' := (acc ++ [o1]).map Op.av) (by simp) (n := (acc ++ [o1]).length) (by simp))) (by kernel_rfl) rfl ?_; (try simp only [nA, Nat.reduceBEq, Nat.reduceEqDiff, ↓reduceIte, Nat.reduceAdd, Nat.reduceSub])
     refine aePo 6 rfl (fun T' ok => op_fa_ptr rfl rfl ok fl42_11 (by exact sz40) (by decide) rfl) rfl (by kernel_rfl) (by kernel_rfl) ?_; (try simp only [nA, Nat.reduceBEq, Nat.reduceEqDiff, ↓reduceIte, Nat.reduceAdd, Nat.reduceSub])
     refine aeLo 7 rfl (op_store_nest (r := 2) (q := 3) rfl rfl rfl rfl (row := evC ({ ev0 ((a.toNat : Nat) : Int) with device := (R.num (s0r r)).1 } : Ev) (.ro []) (.v u)) rfl sz40 rfl (by decide) (by simp) (by simp) (es2 := [evC ({ ev0 ((a.toNat : Nat) : Int) with device := (R.num (s0r r)).1 } : Ev) (.ro []) (.own 39 ((acc ++ [o1]).map Op.av))]) rfl) (by kernel_rfl) (by kernel_rfl) ?_; (try simp only [nA, Nat.reduceBEq, Nat.reduceEqDiff, ↓reduceIte, Nat.reduceAdd, Nat.reduceSub])
     refine aeDoneo (by kernel_rfl) ?_
     (try simp only [thenE, inBlk, Nat.reduceEqDiff, ↓reduceIte])
     (refine hK _ ?_; clear hK K; (skip))
     refine AW.region ?_
     refine awP (op_move rfl rfl) ?_; (simp only [nA, Nat.reduceEqDiff, ↓reduceIte])
     (refine awP (op_subi rfl rfl rfl (by omega)) ?_); (try simp only [nA, Nat.reduceBEq, Nat.reduceEqDiff, ↓reduceIte, Nat.reduceAdd, Nat.reduceSub])
     refine awP (op_assign rfl rfl) ?_; (simp only [nA])
     refine AWL.gh (Gh.drop 3) ?_; (try simp only [nA, Nat.reduceBEq, Nat.reduceEqDiff, ↓reduceIte, Nat.reduceAdd, Nat.reduceSub])
     refine AWL.nil ?_
     refine ⟨(k, acc ++ [o1], t1, _), ⟨hR, hs3, by dsimp only; rw [List.length_append, List.length_singleton]; omega⟩, by dsimp only; omega, ⟨rfl, rfl, rfl, rfl, by dsimp only; exact congrArg (fun z => AV.v (.int .i64 z)) (by omega), trivial⟩, (by rfl), (by rfl)⟩
    have hc15 := hc; have hE : repM (opM R) k acc t = (acc, t) := (by cases hbb : t.bad with | true => exact rep_bad hbb | false => (have h0 : k = 0 := (by rw [hbb] at hc15; simp at hc15; omega); subst h0; rfl)); rw [hE] at hR; refine AW.gh (Gh.freezeC (r := 2) 0 27 rfl rfl rfl (op_flat _) rfl) ?_; (try simp only [nA, Nat.reduceBEq, Nat.reduceEqDiff, ↓reduceIte, Nat.reduceAdd, Nat.reduceSub])
    refine AW.exit ?_; (try simp only [thenE, inBlk, Nat.reduceEqDiff, ↓reduceIte])
    clear hK K
    (try simp only [thenE, inBlk, Nat.reduceEqDiff, ↓reduceIte])
    exact ⟨({ ev0 ((a.toNat : Nat) : Int) with device := (R.num (s0r r)).1, ops := acc }, t, _), ⟨rdR_12 hf hR, hst⟩, ⟨rfl, rfl, rfl, rfl, trivial⟩, (by rfl), (by trivial)⟩
   have hc14 := hc
   (refine AW.seq_k ?_; intro K hK)
   refine AW.region ?_
   (refine awP (op_eql rfl rfl rfl) ?_); (try simp only [nA, Nat.reduceBEq, Nat.reduceEqDiff, ↓reduceIte, Nat.reduceAdd, Nat.reduceSub])
   refine awP (op_assign rfl rfl) ?_; (simp only [nA])
   refine AWL.nil ?_
   (refine hK _ ?_; clear hK K; (skip))
   refine AW.cond rfl rfl rfl (fun hc => ?_) (fun hc => ?_)
   ·
    have hc16 := hc; have hf : fieldsL ((a.toNat : Nat) : Int) = [11] := (by rw [of_decide_eq_true hc16]; rfl); have gF := D33 H hs; have sF := suF H hs; have eF := dm11 R (ev0 ((a.toNat : Nat) : Int)) (s0r r); generalize flM R (s0r r) = pF at gF sF eF; refine AW.gh (Gh.slot (r := 2) (es' := [(ev0 ((a.toNat : Nat) : Int)).av]) rfl rfl (le_ev0s ((a.toNat : Nat) : Int))) ?_; (try simp only [nA, Nat.reduceBEq, Nat.reduceEqDiff, ↓reduceIte, Nat.reduceAdd, Nat.reduceSub])
    refine AW.region ?_
    refine awP (op_move rfl rfl) ?_; (simp only [nA, ↓reduceIte])
    refine awJ (op_call1 rfl en33 gF (by exact rfl) (RL.cons .ptr (RL.nil)) (by exact ⟨_, _, _, rfl, rfl, rfl⟩) (by exact rfl) (by exact rfl) (by exact rfl)) ?_; (try simp only [nA, Nat.reduceBEq, Nat.reduceEqDiff, ↓reduceIte, Nat.reduceAdd, Nat.reduceSub])
    (refine awP (op_fa_ptr rfl rfl rfl fl42_12 (by exact sz33) (by decide) rfl) ?_); (try simp only [nA, Nat.reduceBEq, Nat.reduceEqDiff, ↓reduceIte, Nat.reduceAdd, Nat.reduceSub])
    refine awJ (op_store rfl rfl rfl rfl rfl rfl sz33 rfl (bl rfl) rfl) ?_; (try simp only [nA, Nat.reduceBEq, Nat.reduceEqDiff, ↓reduceIte, Nat.reduceAdd, Nat.reduceSub])
    refine AWL.nil ?_
    (try simp only [thenE, inBlk, Nat.reduceEqDiff, ↓reduceIte])
    exact ⟨(_, _, _), ⟨rdR_k hf eF, sF⟩, ⟨rfl, rfl, rfl, rfl, trivial⟩, (by rfl), (by trivial)⟩
   have hc16 := hc; have hf : fieldsL ((a.toNat : Nat) : Int) = [] := (by have g1 := of_decide_eq_false hc2; have g2 : ¬ (((a.toNat : Nat) : Int) = 2 ∨ ((a.toNat : Nat) : Int) = 10) := (fun h => by have := hb3.2 h; rw [hc4] at this; cases this); have g3 := of_decide_eq_false hc5; have g4 := of_decide_eq_false hc7; have g5 := of_decide_eq_false hc8; have g6 : ¬ (((a.toNat : Nat) : Int) = 6 ∨ ((a.toNat : Nat) : Int) = 7) := (fun h => by have := hb9.2 h; rw [hc10] at this; cases this); have g7 := of_decide_eq_false hc11; have g8 := of_decide_eq_false hc12; have g9 := of_decide_eq_false hc13; have ga := of_decide_eq_false hc14; have gb := of_decide_eq_false hc16; have : ((a.toNat : Nat) : Int) = 14 := (by omega); rw [this]; rfl); refine AW.gh (Gh.slot (r := 2) (es' := [(ev0 ((a.toNat : Nat) : Int)).av]) rfl rfl (le_ev0s ((a.toNat : Nat) : Int))) ?_; (try simp only [nA, Nat.reduceBEq, Nat.reduceEqDiff, ↓reduceIte, Nat.reduceAdd, Nat.reduceSub])
   refine AW.skip ?_
   (try simp only [thenE, inBlk, Nat.reduceEqDiff, ↓reduceIte])
   exact ⟨(_, _, _), ⟨rdR_k hf (dm0 R (ev0 ((a.toNat : Nat) : Int)) (s0r r)), hs⟩, ⟨rfl, rfl, rfl, rfl, trivial⟩, (by rfl), (by trivial)⟩
  rintro ⟨x, t, ep⟩ ρ ⟨hy, hst⟩; dsimp only at hy hst ⊢; simp only [updL]; (try simp only [nA, Nat.reduceBEq, Nat.reduceEqDiff, ↓reduceIte, Nat.reduceAdd, Nat.reduceSub])
  (refine AW.seq_k ?_; intro K hK)
  (refine AW.seq_k ?_; intro K hK)
  refine AW.region (AWL.quiet ?_)
  refine aqP (op_move rfl rfl) ?_; (simp only [nA, ↓reduceIte])
  (refine aqP (op_nil_slot rfl rfl rfl) ?_); (try simp only [nA, Nat.reduceBEq, Nat.reduceEqDiff, ↓reduceIte, Nat.reduceAdd, Nat.reduceSub])
  (refine aqP (op_fa_ptr rfl rfl rfl fl82_2 (by exact sz4) (by decide) rfl) ?_); (try simp only [nA, Nat.reduceBEq, Nat.reduceEqDiff, ↓reduceIte, Nat.reduceAdd, Nat.reduceSub])
  (refine aqR (op_load_ptr1 rfl rfl rfl rfl ag4 rfl rfl) ?_); (try simp only [nA, Nat.reduceBEq, Nat.reduceEqDiff, ↓reduceIte, Nat.reduceAdd, Nat.reduceSub])
  refine aqP (op_move rfl rfl) ?_; (simp only [nA])
  refine' aqOr' [_, _, _, _, _, _, _] [164,165,166,167,168,169,170] rfl rfl rfl rfl rfl rfl rfl rfl rfl rfl rfl rfl (fun hb => ?_) ?_; rotate_left
  ·
   (try simp only [hcS] at hb)
   refine aqP (op_move rfl rfl) ?_; (simp only [nA, ↓reduceIte])
   (refine aqP (op_nil_slot rfl rfl rfl) ?_); (try simp only [nA, Nat.reduceBEq, Nat.reduceEqDiff, ↓reduceIte, Nat.reduceAdd, Nat.reduceSub])
   (refine aqP (op_fa_ptr rfl rfl rfl fl82_1 (by exact sz3) (by decide) rfl) ?_); (try simp only [nA, Nat.reduceBEq, Nat.reduceEqDiff, ↓reduceIte, Nat.reduceAdd, Nat.reduceSub])
   (refine aqR (op_load_ptr1 rfl rfl rfl rfl ag3 rfl rfl) ?_); (try simp only [nA, Nat.reduceBEq, Nat.reduceEqDiff, ↓reduceIte, Nat.reduceAdd, Nat.reduceSub])
   refine aqP (op_move rfl rfl) ?_; (simp only [nA, ↓reduceIte])
   refine aqP (op_len_ro (n := (a :: r).length) rfl rfl Tryz.underlying22 (.inr (.inl ⟨_, rfl, by simp⟩))) ?_; (try simp only [nA, Nat.reduceBEq, Nat.reduceEqDiff, ↓reduceIte, Nat.reduceAdd, Nat.reduceSub])
   (refine aqP (op_neq rfl rfl rfl) ?_); (try simp only [nA, Nat.reduceBEq, Nat.reduceEqDiff, ↓reduceIte, Nat.reduceAdd, Nat.reduceSub])
   (refine aqSeg rfl rfl rfl ?_; repeat (first | exact fun _ _ => rfl | refine upd_out rfl ?_))
  refine aqP (op_move rfl rfl) ?_; (simp only [nA])
  refine' aqOr' [_, _, _] [173,174,175] rfl rfl rfl rfl rfl rfl rfl rfl rfl rfl rfl rfl (fun hb => ?_) ?_; rotate_left
  ·
   (try simp only [hcS] at hb)
   (refine aqR (op_load_ptr rfl rfl rfl rfl ag42 sz42 (bl rfl) rfl) ?_); (try simp only [nA, Nat.reduceBEq, Nat.reduceEqDiff, ↓reduceIte, Nat.reduceAdd, Nat.reduceSub])
   refine aqQ (op_callQ (b := true) rfl en13 (C13 (x := x) (smR hR hy hst hrl hk0 hb)) (RL.cons (by exact View.same rfl) (RL.nil)) rfl) ?_; (try simp only [nA, Nat.reduceBEq, Nat.reduceEqDiff, ↓reduceIte, Nat.reduceAdd, Nat.reduceSub])
   (refine aqP (op_neq rfl rfl rfl) ?_); (try simp only [nA, Nat.reduceBEq, Nat.reduceEqDiff, ↓reduceIte, Nat.reduceAdd, Nat.reduceSub])
   (refine aqSeg rfl rfl rfl ?_; repeat (first | exact fun _ _ => rfl | refine upd_out rfl ?_))
  refine AQ.nil ?_
  (refine hK _ ?_; clear hK K; (skip))
  refine AW.cond rfl rfl rfl (fun hc => ?_) (fun hc => ?_)
  ·
   have hc17 := hc
   (refine AW.seq_k ?_; intro K hK)
   refine AW.region ?_
   refine awP (op_build2 (xs := [.v (.int .i64 0), .v (.int .i64 0), .v (.string ⟨#[]⟩), .v (.int .i64 0), .v (.int .i64 0), .v (.int .i64 0), .v (.int .i64 0), .v (.int .i64 0), .v (.bool false), .v (.slice none 0 0), .v (.int .i64 0), .v (.int .i64 0), .v (.string ⟨#[]⟩), .v (.int .i64 0), .v (.string ⟨#[]⟩), .v (.int .i64 0), .v (.int .i64 0), .v (.int .i64 0), .v (.int .i64 0), .v (.int .i64 0), .v (.int .i64 0), .v (.int .i64 0), .v (.int .i64 0), .v (.int .i64 0), .v (.int .i64 0), .v (.int .i64 0), .v (.int .i64 0), .v (.slice none 0 0), .v (.string ⟨#[]⟩), .v (.int .i64 0), .v (.string ⟨#[]⟩), .v (.int .i64 0)]) rfl pl42 ze42 [] rfl rfl rfl) ?_; (try simp only [nA, Nat.reduceBEq, Nat.reduceEqDiff, ↓reduceIte, Nat.reduceAdd, Nat.reduceSub])
   refine awJ (op_store rfl rfl rfl rfl rfl rfl sz42 rfl (bl rfl) rfl) ?_; (try simp only [nA, Nat.reduceBEq, Nat.reduceEqDiff, ↓reduceIte, Nat.reduceAdd, Nat.reduceSub])
   refine awP (op_assign rfl rfl) ?_; (try simp only [nA, Nat.reduceBEq, Nat.reduceEqDiff, ↓reduceIte, Nat.reduceAdd, Nat.reduceSub])
   refine AWL.nil ?_
   (refine hK _ ?_; clear hK K; (skip))
   refine AW.gh (Gh.slot (r := 0) (es' := [(ev0 0).av]) rfl rfl (le_ev0s 0)) ?_; (try simp only [nA, Nat.reduceBEq, Nat.reduceEqDiff, ↓reduceIte, Nat.reduceAdd, Nat.reduceSub])
   refine AW.ret ?_; (try simp only [thenE, inBlk, Nat.reduceEqDiff, ↓reduceIte]); rw [fin_no hR hy hk0 hc17]; exact RQ.of0 rfl (.cell (bl rfl) rfl rfl rfl ag42 sz42 (bl rfl) rfl rfl (.tmp (bl rfl) rfl rfl .nil))
  have hc17 := hc
  refine AW.skip ?_
  (refine hK _ ?_; clear hK K; (skip))
  (refine AW.seq_k ?_; intro K hK)
  refine AW.region ?_
  (refine awR (op_load_ptr rfl rfl rfl rfl ag42 sz42 (bl rfl) rfl) ?_); (try simp only [nA, Nat.reduceBEq, Nat.reduceEqDiff, ↓reduceIte, Nat.reduceAdd, Nat.reduceSub])
  refine awJ (op_store rfl rfl rfl rfl rfl rfl sz42 rfl (bl rfl) rfl) ?_; (try simp only [nA, Nat.reduceBEq, Nat.reduceEqDiff, ↓reduceIte, Nat.reduceAdd, Nat.reduceSub])
  refine awP (op_assign rfl rfl) ?_; (try simp only [nA, Nat.reduceBEq, Nat.reduceEqDiff, ↓reduceIte, Nat.reduceAdd, Nat.reduceSub])
  refine AWL.nil ?_
  (refine hK _ ?_; clear hK K; (skip))
  skip
  refine AW.ret ?_; (try simp only [thenE, inBlk, Nat.reduceEqDiff, ↓reduceIte]); rw [fin_yes hR hy hst hk0 hc17]; exact RQ.of0 rfl (.cell (bl rfl) rfl rfl rfl ag42 sz42 (bl rfl) rfl rfl (.tmp (bl rfl) rfl rfl .nil))
set_option maxHeartbeats 8000000 in
theorem C10 {b : BL} (hl : b.length ≤ 1000000) : Fn Tryz.prog 10 [] [.ro (b.map bv)] [.agg (decV b).1.av, .v (.int .i64 (decV b).2)] [] := C10v rR_ok rR_rd hl
end Go.Proofs.YtfmnaigedgmhoaaGreatDoor
namespace Go.Proofs.YtfmnaigedgmhoaaGreatDoor
open Go.RowKit
set_option linter.unusedSimpArgs false
set_option linter.unusedVariables false
set_option maxRecDepth 100000
theorem enc_pos (x : Ev) : 1 ≤ (encB x).length := by unfold encB; simp
theorem cE5 {x : Ev} (h : Good x) : Fn Tryz.prog 5 [] [.agg x.av] [.ro ((encB x).map bv), .v (.int .i64 0)] [] := by
  have c := C5 (x := x) h.sm
  rwa [enc_ok h] at c
theorem ev0_sm (k : Int) : (ev0 k).Sm := ⟨Nat.zero_le _, Nat.zero_le _, Nat.zero_le _, fun r hr => by cases hr⟩
theorem decV_sm (b : BL) : (decV b).1.Sm := by
  by_cases h : (decV b).2 = 0
  · exact (dec_ok' h).1.sm
  have e : (decV b).1 = ev0 0 := by
    unfold decV at h ⊢
    match b with
    | [] => rfl
    | a :: r =>
      dsimp only at h ⊢
      split
      · rfl
      rename_i hk
      rw [if_neg hk] at h
      cases hd : decB (a :: r) with
      | none => rfl
      | some x =>
        rw [hd] at h
        dsimp only at h ⊢
        split
        · rename_i hv; rw [if_pos hv] at h; exact absurd rfl h
        rfl
  rw [e]; exact ev0_sm 0
theorem cSd (b : BL) : Fn Tryz.prog 11 [] [.agg (decV b).1.av, .agg (decV b).1.av] [.v (.bool true)] [] := by
  have c := C11 (a := (decV b).1) (b := (decV b).1) (decV_sm b).r (decV_sm b).o
  rwa [sameB_iff.2 rfl] at c
theorem get_b {b : BL} {k : Nat} (h : k < b.length) : (b.map bv)[k]? = some (bv (b.getD k 0)) := by
  rw [List.getElem?_map, List.getD_eq_getElem?_getD, List.getElem?_eq_getElem h]; rfl
theorem set_b (b : BL) (j : Nat) (y : UInt8) : (b.map bv).set j (splice (bv (b.getD j 0)) 0 [.v (.int .u8 (y.toNat : Nat))]) = (b.set j y).map bv := by
  rw [List.map_set]; rfl
abbrev rv (r : BL) : List AV := [.ro (r.map bv)]
theorem rv_len (l : List BL) : ∀ x ∈ l.map rv, x.length = 1 := fun x hx => by obtain ⟨g, _, rfl⟩ := List.mem_map.1 hx; rfl
theorem rv_flat (l : List BL) : ∀ r ∈ l.map rv, ∀ c ∈ r, flatA c = true := fun r hr c hc => by
  obtain ⟨g, _, rfl⟩ := List.mem_map.1 hr
  rw [List.mem_singleton.1 hc]; rfl
theorem get_exB {LS : List BL} {i : Nat} (h : i < LS.length) : ∃ x, LS[i]? = some x := ⟨_, List.getElem?_eq_getElem h⟩
theorem get_rv {LS : List BL} {i : Nat} {x : BL} (h : LS[i]? = some x) : (LS.map rv)[i]? = some (rv x) := by rw [List.getElem?_map, h]; rfl
theorem pre_len {n : Nat} (hn : 1 ≤ n) (z : Int) : (gmod z (n : Int)).toNat < n ∧ gmod z (n : Int) = (((gmod z (n : Int)).toNat : Nat) : Int) := by
  have := gmod_bd (x := z) (n := (n : Int)) (by omega)
  omega
theorem no_len {n : Nat} (h : 1 ≤ n) (hc : decide ((n : Int) > 0) = false) : False := by
  have := of_decide_eq_false hc; omega
set_option maxHeartbeats 8000000 in
theorem C3 {raw : BL} {l : List Int} {cut : Int} {y : UInt8} : Fn Tryz.prog 3 [] [.ro (raw.map bv), .ro (l.map iv), .v (.int .i64 cut), .v (.int .u8 (y.toNat : Nat))] [.v (.bool true)] [] := by
  refine Spec.small 0 rfl fun hx => ?_
  rw [List.length_map] at hx
  have hX := ev_good (l.take 2000) 0
  have hEl := enc_len hX
  have hEp := enc_pos (evV (l.take 2000) 0).1
  have hg := gmod_bd (x := rawV (l.take 2000) (evV (l.take 2000) 0).2) (n := 14) (by decide)
  obtain ⟨hj, hje⟩ := pre_len hEp cut
  have c7 : Fn Tryz.prog 7 [] [.v (.int .i64 cut), .v (.int .i64 ((encB (evV (l.take 2000) 0).1).length : Nat))] [.v (.int .i64 ((gmod cut ((encB (evV (l.take 2000) 0).1).length : Int)).toNat : Nat))] [] := by
    have h := C7 (x := cut) (n := ((encB (evV (l.take 2000) 0).1).length : Nat)) (by omega)
    rwa [hje] at h
  have hg2 := gmod_bd (x := rawV (l.take 2000) (rawN (l.take 2000) (evV (l.take 2000) 0).2)) (n := (((encB (evV (l.take 2000) 0).1).length : Nat) + 1 : Int)) (by omega)
  have hn2e : gmod (rawV (l.take 2000) (rawN (l.take 2000) (evV (l.take 2000) 0).2)) (((encB (evV (l.take 2000) 0).1).length : Nat) + 1 : Int) = (((gmod (rawV (l.take 2000) (rawN (l.take 2000) (evV (l.take 2000) 0).2)) (((encB (evV (l.take 2000) 0).1).length : Nat) + 1 : Int)).toNat : Nat) : Int) := (Int.toNat_of_nonneg hg2.1).symm
  have hn2 : (gmod (rawV (l.take 2000) (rawN (l.take 2000) (evV (l.take 2000) 0).2)) (((encB (evV (l.take 2000) 0).1).length : Nat) + 1 : Int)).toNat ≤ (encB (evV (l.take 2000) 0).1).length := by omega
  have c8 : Fn Tryz.prog 8 [.own 53 [srcRow (l.take 2000) (rawN (l.take 2000) (evV (l.take 2000) 0).2)]] [.ptr 0 0 0 0, .v (.int .i64 (((encB (evV (l.take 2000) 0).1).length : Nat) + 1 : Int))] [.v (.int .i64 ((gmod (rawV (l.take 2000) (rawN (l.take 2000) (evV (l.take 2000) 0).2)) (((encB (evV (l.take 2000) 0).1).length : Nat) + 1 : Int)).toNat : Nat))] [.own 53 [srcRow (l.take 2000) (rawN (l.take 2000) (rawN (l.take 2000) (evV (l.take 2000) 0).2))]] := by
    have h := C8 (l := (l.take 2000)) (k := (rawN (l.take 2000) (evV (l.take 2000) 0).2)) (n := (((encB (evV (l.take 2000) 0).1).length : Nat) + 1 : Int)) (hl20 l) (by omega)
    rwa [hn2e] at h
  obtain ⟨LS, hLS⟩ : ∃ LS : List BL, LS = [(raw.take (min raw.length 300)), (byI (1 + gmod (rawV (l.take 2000) (evV (l.take 2000) 0).2) 14)) :: (raw.take (min raw.length 300)), (encB (evV (l.take 2000) 0).1), ((encB (evV (l.take 2000) 0).1).set (gmod cut ((encB (evV (l.take 2000) 0).1).length : Int)).toNat y), (encB (evV (l.take 2000) 0).1).take (gmod (rawV (l.take 2000) (rawN (l.take 2000) (evV (l.take 2000) 0).2)) (((encB (evV (l.take 2000) 0).1).length : Nat) + 1 : Int)).toNat, (encB (evV (l.take 2000) 0).1) ++ [y]] := ⟨_, rfl⟩
  have hlen : LS.length = 6 := by rw [hLS]; rfl
  have hbl : ∀ b ∈ LS, b.length ≤ 1000000 := by
    rw [hLS]; intro b hb
    simp only [List.mem_cons, List.not_mem_nil, or_false] at hb
    rcases hb with rfl | rfl | rfl | rfl | rfl | rfl <;> (try simp) <;> omega
  refine Spec.body Tryz.func3 rfl Tryz.ntmps3 (by simp) rfl ?_; intro S0 own0 v0 w0 gl
  (refine AW.seq_k ?_; intro K hK)
  refine AW.region ?_
  refine awP (op_assign rfl rfl) ?_; (try simp only [nA, Nat.reduceBEq, Nat.reduceEqDiff, ↓reduceIte, Nat.reduceAdd, Nat.reduceSub])
  refine AWL.nil ?_
  (refine hK _ ?_; clear hK K; (try simp only [nA, Nat.reduceBEq, Nat.reduceEqDiff, ↓reduceIte, Nat.reduceAdd, Nat.reduceSub]))
  (refine AW.seq_k ?_; intro K hK)
  refine AW.region ?_
  refine awP (op_move rfl rfl) ?_; (simp only [nA, ↓reduceIte])
  refine awJ (op_callB rfl en4 (C4) (RL.cons (by exact View.same rfl) (RL.nil))) ?_; (simp only [nA, Nat.reduceBEq, Nat.reduceEqDiff, ↓reduceIte])
  refine awP (op_assign rfl rfl) ?_; (simp only [nA])
  refine AWL.nil ?_
  (refine hK _ ?_; clear hK K; (skip))
  (refine AW.seq_k ?_; intro K hK)
  refine AW.region ?_
  refine awP (op_move rfl rfl) ?_; (simp only [nA, ↓reduceIte])
  refine awP (op_move rfl rfl) ?_; (simp only [nA, ↓reduceIte])
  refine awP (op_len_ro (n := raw.length) rfl rfl Tryz.underlying22 (.inr (.inl ⟨_, rfl, by simp⟩))) ?_; (try simp only [nA, Nat.reduceBEq, Nat.reduceEqDiff, ↓reduceIte, Nat.reduceAdd, Nat.reduceSub])
  refine awP (op_min (r := (((min raw.length 300) : Nat) : Int)) rfl rfl rfl (by split <;> omega)) ?_; (try simp only [nA, Nat.reduceBEq, Nat.reduceEqDiff, ↓reduceIte, Nat.reduceAdd, Nat.reduceSub])
  refine awP (op_slice_ro 0 (min raw.length 300) rfl (.inl rfl) (by exact rfl) (by exact ⟨_, rfl⟩) (Nat.zero_le _) (by rw [List.length_map]; omega) Tryz.underlying22 sz5 (bv_len _) (es' := (raw.take (min raw.length 300)).map bv) (by simp [List.map_take])) ?_; (try simp only [nA, Nat.reduceBEq, Nat.reduceEqDiff, ↓reduceIte, Nat.reduceAdd, Nat.reduceSub])
  refine awP (op_assign rfl rfl) ?_; (simp only [nA])
  refine AWL.nil ?_
  (refine hK _ ?_; clear hK K; (skip))
  (refine AW.seq_k ?_; intro K hK)
  refine AW.region ?_
  refine awP (op_move rfl rfl) ?_; (simp only [nA, ↓reduceIte])
  refine awJ (op_call1 rfl en6 (C6 (l := (l.take 2000)) (k := 0) (hl20 l)) (by exact rfl) (RL.cons .ptr (RL.nil)) (by exact ⟨_, _, _, rfl, rfl, rfl⟩) (by exact rfl) (by exact rfl) (by exact rfl)) ?_; (try simp only [nA, Nat.reduceBEq, Nat.reduceEqDiff, ↓reduceIte, Nat.reduceAdd, Nat.reduceSub])
  refine awJ (op_call (b := false) rfl en5 (cE5 hX) (RL.cons (by exact View.same rfl) (RL.nil)) rfl (fun h => by cases h) rfl rfl) ?_; (try simp only [nA, Nat.reduceBEq, Nat.reduceEqDiff, ↓reduceIte, Nat.reduceAdd, Nat.reduceSub])
  refine awP (op_move rfl rfl) ?_; (simp only [nA])
  refine awP (op_extract rfl rfl rfl) ?_; (try simp only [nA, Nat.reduceBEq, Nat.reduceEqDiff, ↓reduceIte, Nat.reduceAdd, Nat.reduceSub])
  refine awP (op_extract rfl rfl rfl) ?_; (try simp only [nA, Nat.reduceBEq, Nat.reduceEqDiff, ↓reduceIte, Nat.reduceAdd, Nat.reduceSub])
  refine awP (op_assign rfl rfl) ?_; (simp only [nA, ↓reduceIte])
  refine awP (op_assign rfl rfl) ?_; (simp only [nA, ↓reduceIte])
  refine AWL.nil ?_
  (refine hK _ ?_; clear hK K; (skip))
  (refine AW.seq_k ?_; intro K hK)
  refine AW.region ?_
  refine awJ (op_buildSlice (n := 0) rfl [] [] Tryz.underlying22 ze5 rfl (by simp) rfl (by simp) rfl (bl rfl) (by decide)) ?_; (simp only [nA, Nat.reduceBEq, Nat.reduceEqDiff, ↓reduceIte])
  refine awP (op_move rfl rfl) ?_; (simp only [nA, ↓reduceIte])
  refine awJ (op_app (r := 1) (len := 0) (es := []) (rows := (encB (evV (l.take 2000) 0).1).map bv) rfl rfl rfl rfl rfl .ro Tryz.underlying22 ze5 (by decide) (bv_len _) (by simp; omega) (by decide) (es' := (encB (evV (l.take 2000) 0).1).map bv) (List.nil_append _) (n := (encB (evV (l.take 2000) 0).1).length) (by simp)) ?_; (simp only [nA, Nat.reduceBEq, Nat.reduceEqDiff, ↓reduceIte])
  refine awP (op_assign rfl rfl) ?_; (simp only [nA])
  refine AWL.nil ?_
  (refine hK _ ?_; clear hK K; (skip))
  (refine AW.seq_k ?_; intro K hK)
  (refine AW.seq_k ?_; intro K hK)
  refine AW.region ?_
  refine awP (op_move rfl rfl) ?_; (simp only [nA])
  (refine awP (op_len_sl rfl rfl rfl Tryz.underlying22) ?_); (try simp only [nA, Nat.reduceBEq, Nat.reduceEqDiff, ↓reduceIte, Nat.reduceAdd, Nat.reduceSub])
  refine awP (op_gtr rfl rfl rfl) ?_; (try simp only [nA, Nat.reduceBEq, Nat.reduceEqDiff, ↓reduceIte, Nat.reduceAdd, Nat.reduceSub])
  refine AWL.nil ?_
  (refine hK _ ?_; clear hK K; (skip))
  refine AW.cond rfl rfl rfl (fun hc => ?_) (fun hc => ?_)
  ·
   have hc1 := hc
   refine AW.region ?_
   refine awP (op_move rfl rfl) ?_; (simp only [nA, ↓reduceIte])
   refine awP (op_move rfl rfl) ?_; (simp only [nA, ↓reduceIte])
   refine awP (op_move rfl rfl) ?_; (simp only [nA, ↓reduceIte])
   (refine awP (op_len_sl rfl rfl rfl Tryz.underlying22) ?_); (try simp only [nA, Nat.reduceBEq, Nat.reduceEqDiff, ↓reduceIte, Nat.reduceAdd, Nat.reduceSub])
   refine awJ (OpQ.j (op_callQ (b := true) rfl en7 c7 (RL.cons (by exact View.same rfl) (RL.cons (by exact View.same rfl) (RL.nil))) rfl)) ?_; (try simp only [nA, Nat.reduceBEq, Nat.reduceEqDiff, ↓reduceIte, Nat.reduceAdd, Nat.reduceSub])
   refine awP (op_move rfl rfl) ?_; (simp only [nA, ↓reduceIte])
   refine awP (op_ia_sl (gmod cut ((encB (evV (l.take 2000) 0).1).length : Int)).toNat 1 rfl rfl rfl rfl Tryz.underlying22 rfl hj (by exact sz5) (j := (gmod cut ((encB (evV (l.take 2000) 0).1).length : Int)).toNat) (by omega)) ?_; (try simp only [nA, Nat.reduceBEq, Nat.reduceEqDiff, ↓reduceIte, Nat.reduceAdd, Nat.reduceSub])
   refine awJ (op_store rfl rfl rfl rfl (get_b hj) rfl sz5 rfl (bl rfl) (set_b (encB (evV (l.take 2000) 0).1) (gmod cut ((encB (evV (l.take 2000) 0).1).length : Int)).toNat y)) ?_; (try simp only [nA, Nat.reduceBEq, Nat.reduceEqDiff, ↓reduceIte, Nat.reduceAdd, Nat.reduceSub]); refine AWL.gh (Gh.freeze 12 (bl rfl) rfl rfl (bv_flat _) (es' := ((encB (evV (l.take 2000) 0).1).set (gmod cut ((encB (evV (l.take 2000) 0).1).length : Int)).toNat y).map bv) (List.take_of_length_le (by rw [List.length_map, List.length_set]; exact Nat.le_refl _))) ?_; (try simp only [nA, Nat.reduceBEq, Nat.reduceEqDiff, ↓reduceIte, Nat.reduceAdd, Nat.reduceSub])
   refine AWL.nil ?_
   (refine hK _ ?_; clear hK K; (skip))
   (refine AW.seq_k ?_; intro K hK)
   refine AW.region ?_
   refine awP (op_move rfl rfl) ?_; (simp only [nA, ↓reduceIte])
   refine awJ (op_call1 rfl en8 (C8 (l := (l.take 2000)) (k := (evV (l.take 2000) 0).2) (n := 14) (hl20 l) (by decide)) (by exact rfl) (RL.cons .ptr (RL.cons (.base (by exact View.same rfl)) (RL.nil))) (by exact ⟨_, _, _, rfl, rfl, rfl⟩) (by exact rfl) (by exact rfl) (by exact rfl)) ?_; (try simp only [nA, Nat.reduceBEq, Nat.reduceEqDiff, ↓reduceIte, Nat.reduceAdd, Nat.reduceSub])
   (refine awP (op_addi rfl rfl rfl (by omega)) ?_); (try simp only [nA, Nat.reduceBEq, Nat.reduceEqDiff, ↓reduceIte, Nat.reduceAdd, Nat.reduceSub])
   refine awP (op_conv rfl rfl Tryz.underlying3 Tryz.underlying5 (wrapU _)) ?_; (try simp only [nA, Nat.reduceBEq, Nat.reduceEqDiff, ↓reduceIte, Nat.reduceAdd, Nat.reduceSub])
   refine awJ (op_buildSlice (n := 1) rfl [(0, bv (byI (1 + gmod (rawV (l.take 2000) (evV (l.take 2000) 0).2) 14)))] ([(byI (1 + gmod (rawV (l.take 2000) (evV (l.take 2000) 0).2) 14))].map bv) Tryz.underlying22 ze5 rfl (by simp) rfl (bv_len _) rfl (bl rfl) (by decide)) ?_; (simp only [nA, Nat.reduceBEq, Nat.reduceEqDiff, ↓reduceIte])
   refine awP (op_move rfl rfl) ?_; (simp only [nA, ↓reduceIte])
   refine awJ (op_app (r := 2) (len := 1) (es := [(byI (1 + gmod (rawV (l.take 2000) (evV (l.take 2000) 0).2) 14))].map bv) (rows := (raw.take (min raw.length 300)).map bv) rfl rfl rfl rfl rfl .ro Tryz.underlying22 ze5 (by decide) (bv_len _) (by simp; omega) (by decide) (es' := ((byI (1 + gmod (rawV (l.take 2000) (evV (l.take 2000) 0).2) 14)) :: (raw.take (min raw.length 300))).map bv) rfl (n := ((byI (1 + gmod (rawV (l.take 2000) (evV (l.take 2000) 0).2) 14)) :: (raw.take (min raw.length 300))).length) (by simp; omega)) ?_; (simp only [nA, Nat.reduceBEq, Nat.reduceEqDiff, ↓reduceIte]); refine AWL.gh (Gh.freeze 52 (bl rfl) rfl rfl (bv_flat _) (es' := ((byI (1 + gmod (rawV (l.take 2000) (evV (l.take 2000) 0).2) 14)) :: (raw.take (min raw.length 300))).map bv) (List.take_of_length_le (by rw [List.length_map]; exact Nat.le_refl _))) ?_; (try simp only [nA, Nat.reduceBEq, Nat.reduceEqDiff, ↓reduceIte, Nat.reduceAdd, Nat.reduceSub])
   refine awP (op_assign rfl rfl) ?_; (simp only [nA])
   refine AWL.nil ?_
   (refine hK _ ?_; clear hK K; (skip))
   (refine AW.seq_k ?_; intro K hK)
   (refine AW.seq_k ?_; intro K hK)
   refine AW.ad [] mix rfl ?_
   refine adP 0 rfl (fun T' ok => op_move rfl rfl) (by exact trivial) (by kernel_rfl) (by kernel_rfl) ?_; (simp only [nA, Nat.reduceBEq, Nat.reduceEqDiff, ↓reduceIte])
   refine adP 1 rfl (fun T' ok => op_move rfl rfl) (by exact trivial) (by kernel_rfl) (by kernel_rfl) ?_; (simp only [nA, ↓reduceIte])
   refine adP 2 rfl (fun T' ok => op_move rfl rfl) (by exact trivial) (by kernel_rfl) (by kernel_rfl) ?_; (simp only [nA, ↓reduceIte])
   refine adP 3 rfl (fun T' ok => op_move rfl rfl) (by exact trivial) (by kernel_rfl) (by kernel_rfl) ?_; (simp only [nA, ↓reduceIte])
   refine adP 4 rfl (fun T' ok => op_move rfl rfl) (by exact trivial) (by kernel_rfl) (by kernel_rfl) ?_; (simp only [nA, ↓reduceIte])
   refine adP 5 rfl (fun T' ok => op_move rfl rfl) (by exact trivial) (by kernel_rfl) (by kernel_rfl) ?_; (simp only [nA, ↓reduceIte])
   refine adP 6 rfl (fun T' ok => op_move rfl rfl) (by exact trivial) (by kernel_rfl) (by kernel_rfl) ?_; (simp only [nA, ↓reduceIte])
   refine adP 7 rfl (fun T' ok => op_len_ro (n := (encB (evV (l.take 2000) 0).1).length) rfl rfl Tryz.underlying22 (.inr (.inl ⟨_, rfl, by simp⟩))) (by exact trivial) (by kernel_rfl) (by kernel_rfl) ?_; (try simp only [nA, Nat.reduceBEq, Nat.reduceEqDiff, ↓reduceIte, Nat.reduceAdd, Nat.reduceSub])
   refine adP 8 rfl (fun T' ok => op_addi rfl rfl rfl (by omega)) (by exact trivial) (by kernel_rfl) (by kernel_rfl) ?_; (try simp only [nA, Nat.reduceBEq, Nat.reduceEqDiff, ↓reduceIte, Nat.reduceAdd, Nat.reduceSub])
   refine adP 11 rfl (fun T' ok => op_move rfl rfl) (by exact trivial) (by kernel_rfl) (by kernel_rfl) ?_; (simp only [nA, ↓reduceIte])
   refine adP 12 rfl (fun T' ok => op_move rfl rfl) (by exact trivial) (by kernel_rfl) (by kernel_rfl) ?_; (simp only [nA, ↓reduceIte])
   refine adP 13 rfl (fun T' ok => op_len_ro (n := (encB (evV (l.take 2000) 0).1).length) rfl rfl Tryz.underlying22 (.inr (.inl ⟨_, rfl, by simp⟩))) (by exact trivial) (by kernel_rfl) (by kernel_rfl) ?_; (try simp only [nA, Nat.reduceBEq, Nat.reduceEqDiff, ↓reduceIte, Nat.reduceAdd, Nat.reduceSub])
   refine adP 14 rfl (fun T' ok => op_move rfl rfl) (by exact trivial) (by kernel_rfl) (by kernel_rfl) ?_; (simp only [nA, ↓reduceIte])
   refine adP 15 rfl (fun T' ok => op_len_ro (n := (encB (evV (l.take 2000) 0).1).length) rfl rfl Tryz.underlying22 (.inr (.inl ⟨_, rfl, by simp⟩))) (by exact trivial) (by kernel_rfl) (by kernel_rfl) ?_; (try simp only [nA, Nat.reduceBEq, Nat.reduceEqDiff, ↓reduceIte, Nat.reduceAdd, Nat.reduceSub])
   refine adP 16 rfl (fun T' ok => op_slice3_full (n := (encB (evV (l.take 2000) 0).1).length) rfl rfl rfl rfl (by rw [List.length_map]) Tryz.underlying22 sz5) (by exact trivial) (by kernel_rfl) (by kernel_rfl) ?_; (try simp only [nA, Nat.reduceBEq, Nat.reduceEqDiff, ↓reduceIte, Nat.reduceAdd, Nat.reduceSub])
   refine adP 17 rfl (fun T' ok => op_move rfl rfl) (by exact trivial) (by kernel_rfl) (by kernel_rfl) ?_; (simp only [nA, ↓reduceIte])
   refine adP 22 rfl (fun T' ok => op_move rfl rfl) (by exact trivial) (by kernel_rfl) (by kernel_rfl) ?_; (try simp only [nA, Nat.reduceBEq, Nat.reduceEqDiff, ↓reduceIte, Nat.reduceAdd, Nat.reduceSub])
   refine adF 18 rfl (fun T' ok => OpJ.frz (op_buildSlice (n := 1) rfl [(0, bv y)] ([y].map bv) Tryz.underlying22 ze5 rfl (by simp) rfl (bv_len _) rfl (bl rfl) (by decide)) (bv_flat _) rfl) (by exact trivial) (by kernel_rfl) (by kernel_rfl) ?_; (try simp only [nA, Nat.reduceBEq, Nat.reduceEqDiff, ↓reduceIte, Nat.reduceAdd, Nat.reduceSub])
   refine adJ 9 rfl (op_call1 rfl en8 c8 (by exact rfl) (RL.cons .ptr (RL.cons (.base (by exact View.same rfl)) (RL.nil))) (by exact ⟨_, _, _, rfl, rfl, rfl⟩) (by exact rfl) (by exact rfl) (by exact rfl)) (by kernel_rfl) (by exact trivial) ?_; (try simp only [nA, Nat.reduceBEq, Nat.reduceEqDiff, ↓reduceIte, Nat.reduceAdd, Nat.reduceSub])
   refine adP 10 rfl (fun T' ok => op_slice_ro 0 (gmod (rawV (l.take 2000) (rawN (l.take 2000) (evV (l.take 2000) 0).2)) (((encB (evV (l.take 2000) 0).1).length : Nat) + 1 : Int)).toNat rfl (.inl rfl) (by exact rfl) (by exact ⟨_, rfl⟩) (Nat.zero_le _) (by rw [List.length_map]; omega) Tryz.underlying22 sz5 (bv_len _) (es' := ((encB (evV (l.take 2000) 0).1).take (gmod (rawV (l.take 2000) (rawN (l.take 2000) (evV (l.take 2000) 0).2)) (((encB (evV (l.take 2000) 0).1).length : Nat) + 1 : Int)).toNat).map bv) (by simp [List.map_take])) (by exact trivial) (by kernel_rfl) (by kernel_rfl) ?_; (try simp only [nA, Nat.reduceBEq, Nat.reduceEqDiff, ↓reduceIte, Nat.reduceAdd, Nat.reduceSub])
   refine adJ 19 rfl (op_app_rof (rows := [y].map bv) rfl rfl rfl .ro Tryz.underlying22 ze5 (by decide) (bv_len _) (bv_len _) (by simp; omega) (by decide) (es' := ((encB (evV (l.take 2000) 0).1) ++ [y]).map bv) (by simp)) (by kernel_rfl) (by exact trivial) ?_; (try simp only [nA, Nat.reduceBEq, Nat.reduceEqDiff, ↓reduceIte, Nat.reduceAdd, Nat.reduceSub])
   refine adJ 20 rfl (OpJ.frz (op_buildSlice (n := 6) rfl [(0, rv (raw.take (min raw.length 300))), (1, rv ((byI (1 + gmod (rawV (l.take 2000) (evV (l.take 2000) 0).2) 14)) :: (raw.take (min raw.length 300)))), (2, rv (encB (evV (l.take 2000) 0).1)), (3, rv ((encB (evV (l.take 2000) 0).1).set (gmod cut ((encB (evV (l.take 2000) 0).1).length : Int)).toNat y)), (4, rv ((encB (evV (l.take 2000) 0).1).take (gmod (rawV (l.take 2000) (rawN (l.take 2000) (evV (l.take 2000) 0).2)) (((encB (evV (l.take 2000) 0).1).length : Nat) + 1 : Int)).toNat)), (5, rv ((encB (evV (l.take 2000) 0).1) ++ [y]))] (LS.map rv) Tryz.underlying46 ze22 rfl (by simp) (by rw [hLS]; rfl) (rv_len _) (by rw [List.length_map, hlen]) (bl rfl) (by decide)) (rv_flat _) (by rw [List.length_map, hlen])) (by kernel_rfl) (by exact trivial) ?_; (try simp only [nA, Nat.reduceBEq, Nat.reduceEqDiff, ↓reduceIte, Nat.reduceAdd, Nat.reduceSub])
   refine adP 21 rfl (fun T' ok => op_len_ro (n := 6) rfl rfl Tryz.underlying46 (.inr (.inl ⟨_, rfl, by rw [List.length_map, hlen]⟩))) (by exact trivial) (by kernel_rfl) (by kernel_rfl) ?_; (try simp only [nA, Nat.reduceBEq, Nat.reduceEqDiff, ↓reduceIte, Nat.reduceAdd, Nat.reduceSub])
   refine adDone (by kernel_rfl) ?_
   (refine hK _ ?_; clear hK K; (skip))
   refine AW.block ?_
   refine AW.loopI (fun (q : Nat × Nat) => [(73, .ro (LS.map rv)), (74, .v (.int .i64 6)), (75, .v (.int .i64 (q.1 : Nat)))]) (fun q => ⟨[(1, .own 53 [srcRow (l.take 2000) (rawN (l.take 2000) (rawN (l.take 2000) (evV (l.take 2000) 0).2))]), (3, .any), (5, .any)], q.2⟩) (fun q => q.1 ≤ 6) (fun q => 6 - q.1) (0, _) (by simp) ⟨rfl, rfl, rfl, trivial⟩ rfl ?_; rintro ⟨i, ep⟩ ρ hi; dsimp only at hi ⊢; simp only [updL]
   (refine AW.seq_k ?_; intro K hK)
   refine AW.region ?_
   refine awP (op_lss rfl rfl rfl) ?_; (try simp only [nA, Nat.reduceBEq, Nat.reduceEqDiff, ↓reduceIte, Nat.reduceAdd, Nat.reduceSub])
   refine AWL.nil ?_
   (refine hK _ ?_; clear hK K; (skip))
   (refine AW.seq_k ?_; intro K hK)
   refine AW.cond rfl rfl rfl (fun hc => ?_) (fun hc => ?_)
   ·
    have hc2 := hc; have hlt : i < 6 := (by have := of_decide_eq_true hc2; omega); obtain ⟨b, hb1⟩ := get_exB (LS := LS) (i := i) (by omega); have hb2 := hbl b (List.mem_of_getElem? hb1)
    refine AW.skip ?_
    (refine hK _ ?_; clear hK K; (skip))
    (refine AW.seq_k ?_; intro K hK)
    refine AW.block ?_
    (refine AW.seq_k ?_; intro K hK)
    refine AW.region ?_
    refine awP (op_ia_ro i rfl (.inl rfl) rfl Tryz.underlying46 rfl (get_rv hb1) (by exact sz22) (bl rfl)) ?_; (try simp only [nA, Nat.reduceBEq, Nat.reduceEqDiff, ↓reduceIte, Nat.reduceAdd, Nat.reduceSub])
    (refine awR (op_load_rop1 rfl rfl ag22) ?_); (try simp only [nA, Nat.reduceBEq, Nat.reduceEqDiff, ↓reduceIte, Nat.reduceAdd, Nat.reduceSub])
    refine awP (op_assign rfl rfl) ?_; (simp only [nA])
    refine AWL.nil ?_
    (refine hK _ ?_; clear hK K; (skip))
    (refine AW.seq_k ?_; intro K hK)
    refine AW.region ?_
    refine awP (op_move rfl rfl) ?_; (simp only [nA])
    refine awJ (op_call (b := false) rfl en9 (C9 (b := b) hb2) (RL.cons (by exact View.same rfl) (RL.nil)) rfl (fun h => by cases h) rfl rfl) ?_; (try simp only [nA, Nat.reduceBEq, Nat.reduceEqDiff, ↓reduceIte, Nat.reduceAdd, Nat.reduceSub])
    refine awP (op_move rfl rfl) ?_; (simp only [nA])
    refine awP (op_extract rfl rfl rfl) ?_; (try simp only [nA, Nat.reduceBEq, Nat.reduceEqDiff, ↓reduceIte, Nat.reduceAdd, Nat.reduceSub])
    refine awP (op_extract rfl rfl rfl) ?_; (try simp only [nA, Nat.reduceBEq, Nat.reduceEqDiff, ↓reduceIte, Nat.reduceAdd, Nat.reduceSub])
    refine awJ (op_alloc rfl ze42 rfl) ?_; (simp only [nA, Nat.reduceBEq, Nat.reduceEqDiff, ↓reduceIte])
    refine awJ (op_store rfl rfl rfl rfl rfl rfl sz42 rfl (bl rfl) rfl) ?_; (simp only [nA, Nat.reduceBEq, Nat.reduceEqDiff, ↓reduceIte])
    refine awP (op_assign rfl rfl) ?_; (simp only [nA, ↓reduceIte])
    refine AWL.nil ?_
    (refine hK _ ?_; clear hK K; (skip))
    (refine AW.seq_k ?_; intro K hK)
    refine AW.region ?_
    refine awP (op_move rfl rfl) ?_; (simp only [nA, ↓reduceIte])
    refine awJ (op_call (b := false) rfl en10 (C10 (b := b) hb2) (RL.cons (by exact View.same rfl) (RL.nil)) rfl (fun h => by cases h) rfl rfl) ?_; (try simp only [nA, Nat.reduceBEq, Nat.reduceEqDiff, ↓reduceIte, Nat.reduceAdd, Nat.reduceSub])
    refine awP (op_move rfl rfl) ?_; (simp only [nA])
    refine awP (op_extract rfl rfl rfl) ?_; (try simp only [nA, Nat.reduceBEq, Nat.reduceEqDiff, ↓reduceIte, Nat.reduceAdd, Nat.reduceSub])
    refine awP (op_extract rfl rfl rfl) ?_; (try simp only [nA, Nat.reduceBEq, Nat.reduceEqDiff, ↓reduceIte, Nat.reduceAdd, Nat.reduceSub])
    refine awJ (op_alloc rfl ze42 rfl) ?_; (simp only [nA, Nat.reduceBEq, Nat.reduceEqDiff, ↓reduceIte])
    refine awJ (op_store rfl rfl rfl rfl rfl rfl sz42 rfl (bl rfl) rfl) ?_; (simp only [nA, Nat.reduceBEq, Nat.reduceEqDiff, ↓reduceIte])
    refine awP (op_assign rfl rfl) ?_; (simp only [nA, ↓reduceIte])
    refine AWL.nil ?_
    (refine hK _ ?_; clear hK K; (skip))
    (refine AW.seq_k ?_; intro K hK)
    refine AW.region (AWL.quiet ?_)
    refine aqP (op_move rfl rfl) ?_; (simp only [nA, ↓reduceIte])
    refine aqP (op_move rfl rfl) ?_; (simp only [nA, ↓reduceIte])
    (refine aqP (op_neq rfl rfl rfl) ?_); (try simp only [nA, Nat.reduceBEq, Nat.reduceEqDiff, ↓reduceIte, Nat.reduceAdd, Nat.reduceSub])
    refine aqP (op_move rfl rfl) ?_; (simp only [nA])
    refine' aqOr' [_, _, _, _] [93,94,95,96] rfl rfl rfl rfl rfl rfl rfl rfl rfl rfl rfl rfl (fun hb => ?_) ?_; rotate_left
    ·
     (try simp only [hcS] at hb)
     (refine aqR (op_load_ptr rfl rfl rfl rfl ag42 sz42 (bl rfl) rfl) ?_); (try simp only [nA, Nat.reduceBEq, Nat.reduceEqDiff, ↓reduceIte, Nat.reduceAdd, Nat.reduceSub])
     (refine aqR (op_load_ptr rfl rfl rfl rfl ag42 sz42 (bl rfl) rfl) ?_); (try simp only [nA, Nat.reduceBEq, Nat.reduceEqDiff, ↓reduceIte, Nat.reduceAdd, Nat.reduceSub])
     refine aqQ (op_callQ (b := true) rfl en11 (cSd b) (RL.cons (by exact View.same rfl) (RL.cons (by exact View.same rfl) (RL.nil))) rfl) ?_; (try simp only [nA, Nat.reduceBEq, Nat.reduceEqDiff, ↓reduceIte, Nat.reduceAdd, Nat.reduceSub])
     refine aqP (op_not rfl rfl rfl) ?_; (try simp only [nA, Nat.reduceBEq, Nat.reduceEqDiff, ↓reduceIte, Nat.reduceAdd, Nat.reduceSub])
     (refine aqSeg rfl rfl rfl ?_; repeat (first | exact fun _ _ => rfl | refine upd_out rfl ?_))
    refine AQ.nil ?_
    (refine hK _ ?_; clear hK K; (skip))
    refine AW.cond rfl rfl rfl (fun hc => ?_) (fun hc => ?_)
    · (simp at hc; done)
    have hc3 := hc
    refine AW.skip ?_
    (try simp only [thenE, inBlk, Nat.reduceEqDiff, ↓reduceIte])
    (refine hK _ ?_; clear hK K; (skip))
    refine AW.region ?_
    (refine awP (op_addi rfl rfl rfl (by omega)) ?_); (try simp only [nA, Nat.reduceBEq, Nat.reduceEqDiff, ↓reduceIte, Nat.reduceAdd, Nat.reduceSub])
    refine awP (op_move rfl rfl) ?_; (simp only [nA])
    refine AWL.gh (Gh.drop 3) ?_; (try simp only [nA, Nat.reduceBEq, Nat.reduceEqDiff, ↓reduceIte, Nat.reduceAdd, Nat.reduceSub])
    refine AWL.nil ?_
    refine ⟨(i + 1, _), by dsimp only; omega, by dsimp only; omega, ⟨rfl, rfl, by dsimp only; exact congrArg (fun z => AV.v (.int .i64 z)) (by omega), trivial⟩, (by rfl), (by rfl)⟩
   have hc2 := hc
   refine AW.exit ?_; (try simp only [thenE, inBlk, Nat.reduceEqDiff, ↓reduceIte])
   clear hK K
   (refine hK _ ?_; clear hK K; (skip))
   (refine AW.seq_k ?_; intro K hK)
   refine AW.region ?_
   refine awJ (OpQ.j (op_callQ (b := true) rfl en12 (C12) (RL.nil) rfl)) ?_; (try simp only [nA, Nat.reduceBEq, Nat.reduceEqDiff, ↓reduceIte, Nat.reduceAdd, Nat.reduceSub])
   refine awP (op_assign rfl rfl) ?_; (simp only [nA])
   refine AWL.nil ?_
   (refine hK _ ?_; clear hK K; (skip))
   skip
   refine AW.ret ?_; (try simp only [thenE, inBlk, Nat.reduceEqDiff, ↓reduceIte]); exact RQ.of0 rfl (.tmp (bl rfl) rfl rfl .nil)
  first | (exfalso; exact no_len hEp hc) | (simp at hc; done) | (simp at hc; omega)
end Go.Proofs.YtfmnaigedgmhoaaGreatDoor
namespace Go.Proofs.YtfmnaigedgmhoaaGreatDoor
open Go.RowKit Go.ChangeShapes Go.WideShapes
theorem gName : Tryz.prog.globalNamed "baggage/event.fields" = some 0 := by kernel_rfl
theorem gType : (Tryz.prog.globals[0]?).map (·.type) = some 78 := by kernel_rfl
def laidL : List (String × DataW Unit) := [("baggage/event.fields", Rows.laid_baggage_event_fields)]
theorem door_met (os : Os) (args : Array Value) : laidMetH Tryz.prog laidL ((World.doorLaid Tryz.prog 27 os).forCall (fun _ _ => 0) ⟨#[], args, []⟩).memory :=
  laidMetH_of_parts3 (fuel := 8) (laidMet_of_run' 8 (by kernel_rfl) (by kernel_rfl)) (by kernel_rfl) (by kernel_rfl)
def rowD (l : List Int) : DataW Unit := match l with
  | [] => .nil
  | _ => .slice (l.map fun n => .lit (.int .i64 n)) []
theorem rowD_cons {l : List Int} {xs ys : List (DataW Unit)} (h : rowD l = .slice xs ys) : xs = l.map fun n => .lit (.int .i64 n) := by
  cases l with
  | nil => simp [rowD] at h
  | cons a l => simp only [rowD, DataW.slice.injEq] at h; exact h.1.symm
theorem laid_rows : Rows.laid_baggage_event_fields = .agg (gRows.map rowD) := by rfl
theorem lits_inj : ∀ {a b : List Int}, (a.map fun n => (DataW.lit (.int .i64 n) : DataW Unit)) = b.map (fun n => DataW.lit (.int .i64 n)) → a = b
  | [], [], _ => rfl
  | [], _ :: _, h => by simp at h
  | _ :: _, [], h => by simp at h
  | a :: r, b :: s, h => by
    simp only [List.map_cons, List.cons.injEq, DataW.lit.injEq, Lit.int.injEq, true_and] at h
    rw [h.1, lits_inj h.2]
theorem rows_flat : ∀ l : List Int, (l.map fun n => [AV.v (.int .i64 n)]).flatten = l.map fun n => AV.v (.int .i64 n)
  | [] => rfl
  | a :: l => by simp only [List.map_cons, List.flatten_cons, rows_flat l, List.singleton_append]
theorem row_rep {enc : TypeId × Value → Unit} {w : World} {spare : Nat → Bool} {held : Bool} {fuel : Nat} {cs : List Value} {l : List Int} {ps : List MemPlace}
    (h : DataW.trod enc Tryz.prog w 0 spare held fuel 77 cs = some (rowD l, ps)) : ∃ u, cs = [u] ∧ Rep Tryz.prog (fun k => k < w.heap.size) w [] u (.ro (l.map fun n => [.v (.int .i64 n)])) := by
  rcases open_ints Tryz.underlying77 Tryz.underlying79 (by kernel_rfl) h with ⟨rfl, hx⟩ | ⟨a, len, cap, zs, rfl, _, hl, hm, hlen, hx, hc, _⟩
  · have hx := congrArg Prod.fst hx
    cases l with
    | nil => exact ⟨_, rfl, rep_ro_nil⟩
    | cons a l => simp [rowD] at hx
  have hx := congrArg Prod.fst hx
  have e := lits_inj (rowD_cons hx)
  subst e
  have hz : len ≤ zs.length := by rw [hlen]; split <;> omega
  refine ⟨_, rfl, ?_⟩
  have hlen' : ((zs.take len).map fun n => [AV.v (.int .i64 n)]).length = len := by rw [List.length_map, List.length_take]; omega
  have hrep : Rep Tryz.prog (fun k => k < w.heap.size) w [] (.slice (some a) ((zs.take len).map fun n => [AV.v (.int .i64 n)]).length cap) (.ro ((zs.take len).map fun n => [AV.v (.int .i64 n)])) := by
    refine Rep.ro (sz := 1) (us := (zs.take len).map fun n => .int .i64 n) (by rw [hlen']; exact hl) hm (fun e he => ?_) (fun hn => ?_) (by rw [rows_flat, List.length_map, List.length_map]) fun i u x hu hx' => ?_
    · obtain ⟨n, _, rfl⟩ := List.mem_map.1 he; rfl
    · have hget : ∀ j u, ((zs.take len).map fun n => Value.int .i64 n)[j]? = some u → w.cell? (a.add j) = some u := fun j u hu => by
        rw [List.getElem?_map] at hu
        obtain ⟨n, h1, rfl⟩ := Option.map_eq_some_iff.1 hu
        have hj := (List.getElem?_eq_some_iff.1 h1).1
        rw [List.length_take] at hj
        have := hc j (by omega)
        rw [List.getElem?_take_of_lt (by omega)] at h1
        rw [this, List.getD_eq_getElem?_getD, h1]; rfl
      have h0 := hget 0 _ (List.getElem?_eq_getElem hn)
      obtain ⟨g, o, sp⟩ := a
      have : sp = none := by simpa [Addr.add] using World.cell?_spot h0
      subst this
      refine ⟨g, o, rfl, World.block_lt_of_cell? w _ h0, fun j u hu => ?_⟩
      have := hget j u hu
      rw [add_off] at this
      exact this
    rw [rows_flat, List.getElem?_map] at hx'
    rw [List.getElem?_map] at hu
    obtain ⟨n, h1, rfl⟩ := Option.map_eq_some_iff.1 hu
    rw [h1] at hx'
    simp only [Option.map_some, Option.some.injEq] at hx'
    subst hx'
    exact Rep.v rfl
  rw [hlen'] at hrep
  exact hrep
theorem glb_of_laid {W : World} (h : laidMetH Tryz.prog laidL W) : Glb Tryz.prog (fun k => k < W.heap.size) W := by
  rw [MakeChecks.laidMetH_plain _ _ _ (by kernel_rfl)] at h
  obtain ⟨ps, ⟨g0, t0, cs0, f0, p0, q0, hg0, ht0, hv0, hd0, _, _⟩, _, _⟩ := h
  obtain rfl := Option.some.inj (gName.symm.trans hg0)
  obtain rfl := Option.some.inj (gType.symm.trans ht0)
  rw [laid_rows] at hd0
  obtain ⟨xs, m1, rfl, hx1, hlen, hn3, hel⟩ := DataW.trod_array Tryz.underlying78 hd0
  have c78 : Tryz.prog.cellsOf 77 = 1 := by kernel_rfl
  have hxs : gRows.map rowD = xs.map (·.1) := by
    have := congrArg Prod.fst hx1
    simpa using this
  intro m l hm
  have hml : m < 15 := (List.getElem?_eq_some_iff.1 hm).1
  have h1 := hel m hml
  have hr : (gRows.map rowD)[m]? = some (rowD l) := by rw [List.getElem?_map, hm]; rfl
  rw [hxs, List.getElem?_map] at hr
  obtain ⟨⟨D, P⟩, h2, h3⟩ := Option.map_eq_some_iff.1 hr
  simp only at h3
  subst h3
  rw [h2, c78, Nat.mul_one] at h1
  obtain ⟨u, e, hrep⟩ := row_rep h1
  have hu : cs0.toList[m]? = some u := by
    have := congrArg (·[0]?) e
    simpa [List.getElem?_take, List.getElem?_drop] using this
  have hcell : W.cell? ⟨0, m, none⟩ = some u := by
    rw [World.var?_cell hg0 hv0 m, ← Array.getElem?_toList]; exact hu
  refine Rep.rop (us := [u]) (fun _ => ⟨0, m, rfl, World.block_lt_of_cell? W _ hcell, fun j v hj => ?_⟩) rfl fun i v x hv hx => ?_
  · cases j with
    | zero => simp at hj; subst hj; exact hcell
    | succ j => simp at hj
  cases i with
  | zero => simp at hv hx; subst hv; subst hx; exact hrep
  | succ i => simp at hv
end Go.Proofs.YtfmnaigedgmhoaaGreatDoor
