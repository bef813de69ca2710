import Derived.Test.YtfmnaigedgmhoaaDoorXfg
import Derived.Deep.Slices
import Derived.OpenShut
import Derived.WalkKit
import Derived.ProofKit
import Derived.Test.YtfmnaigedgmhoaaDoorRows
import Derived.LaidMore
import Derived.Stop.Joined
namespace Go.Proofs.YtfmnaigedgmhoaaDoor
open Go.RowKit
set_option linter.unusedSimpArgs false
set_option linter.unusedVariables false
set_option maxRecDepth 100000
def spT : List ByteArray := [⟨#[]⟩, ⟨#[63]⟩, ⟨#[63, 63, 63, 63, 63, 63, 63, 63, 63, 63]⟩]
def spJ (l : List Int) (k : Nat) : Int := gmod (rawV l k) 13
def spV (l : List Int) (k : Nat) (x : Ev) : Ev × Nat :=
  if spJ l k = 0 then ({ x with kind := pickV l (rN l 1 k) ([-1, 0, 1, 2, 3, 14, 15] : List Int) }, rN l 2 k)
  else if spJ l k = 1 then ({ x with time := pickV l (rN l 1 k) ([-1, 1, 1048576, 1048577] : List Int) }, rN l 2 k)
  else if spJ l k = 2 then ({ x with text := x.text ++ ⟨#[120]⟩ }, rN l 1 k)
  else if spJ l k = 3 then ({ x with plate := { x.plate with airline := pickV l (rN l 1 k) ([0, 1, 999, 1000] : List Int) } }, rN l 2 k)
  else if spJ l k = 4 then ({ x with node := pickV l (rN l 1 k) ([-1, 0, 23, 24] : List Int) }, rN l 2 k)
  else if spJ l k = 5 then ({ x with image := pickV l (rN l 1 k) ([-1, 1048576, 1048577] : List Int) }, rN l 2 k)
  else if spJ l k = 6 then ({ x with clear := !x.clear }, rN l 1 k)
  else if spJ l k = 7 then ({ x with reports := x.reports ++ [(⟨pickV l (rN l 1 k) ([-1, 0, 23, 24] : List Int), false, textV l (rN l 2 k) spT⟩ : Report)] }, rN l 3 k)
  else if spJ l k = 8 then ({ x with rev := { x.rev with amount := pickV l (rN l 1 k) ([-1, 0, 1048576, 1048577] : List Int) } }, rN l 2 k)
  else if spJ l k = 9 then ({ x with device := pickV l (rN l 1 k) ([0, 1, 6, 7] : List Int) }, rN l 2 k)
  else if spJ l k = 10 then ({ x with op := { x.op with kind := gmod (rawV l (rN l 1 k)) 4 } }, rN l 2 k)
  else if spJ l k = 11 then ({ x with ops := x.ops ++ [(opV l (rN l 2 k) (1 + gmod (rawV l (rN l 1 k)) 3))] }, rN l 9 k)
  else ({ x with fl := { x.fl with day := pickV l (rN l 1 k) ([0, 1, 99, 100] : List Int) } }, rN l 2 k)
section
variable {l : List Int} {k : Nat} {x : Ev}
theorem spV_a (h : spJ l k = 0) : spV l k x = ({ x with kind := pickV l (rN l 1 k) ([-1, 0, 1, 2, 3, 14, 15] : List Int) }, rN l 2 k) := by
  unfold spV; rw [if_pos h]
theorem spV_b (h : spJ l k = 1) : spV l k x = ({ x with time := pickV l (rN l 1 k) ([-1, 1, 1048576, 1048577] : List Int) }, rN l 2 k) := by
  unfold spV; rw [if_neg (by omega)]; rw [if_pos h]
theorem spV_c (h : spJ l k = 2) : spV l k x = ({ x with text := x.text ++ ⟨#[120]⟩ }, rN l 1 k) := by
  unfold spV; rw [if_neg (by omega)]; rw [if_neg (by omega)]; rw [if_pos h]
theorem spV_d (h : spJ l k = 3) : spV l k x = ({ x with plate := { x.plate with airline := pickV l (rN l 1 k) ([0, 1, 999, 1000] : List Int) } }, rN l 2 k) := by
  unfold spV; rw [if_neg (by omega)]; rw [if_neg (by omega)]; rw [if_neg (by omega)]; rw [if_pos h]
theorem spV_e (h : spJ l k = 4) : spV l k x = ({ x with node := pickV l (rN l 1 k) ([-1, 0, 23, 24] : List Int) }, rN l 2 k) := by
  unfold spV; rw [if_neg (by omega)]; rw [if_neg (by omega)]; rw [if_neg (by omega)]; rw [if_neg (by omega)]; rw [if_pos h]
theorem spV_f (h : spJ l k = 5) : spV l k x = ({ x with image := pickV l (rN l 1 k) ([-1, 1048576, 1048577] : List Int) }, rN l 2 k) := by
  unfold spV; rw [if_neg (by omega)]; rw [if_neg (by omega)]; rw [if_neg (by omega)]; rw [if_neg (by omega)]; rw [if_neg (by omega)]; rw [if_pos h]
theorem spV_g (h : spJ l k = 6) : spV l k x = ({ x with clear := !x.clear }, rN l 1 k) := by
  unfold spV; rw [if_neg (by omega)]; rw [if_neg (by omega)]; rw [if_neg (by omega)]; rw [if_neg (by omega)]; rw [if_neg (by omega)]; rw [if_neg (by omega)]; rw [if_pos h]
theorem spV_h (h : spJ l k = 7) : spV l k x = ({ x with reports := x.reports ++ [(⟨pickV l (rN l 1 k) ([-1, 0, 23, 24] : List Int), false, textV l (rN l 2 k) spT⟩ : Report)] }, rN l 3 k) := by
  unfold spV; rw [if_neg (by omega)]; rw [if_neg (by omega)]; rw [if_neg (by omega)]; rw [if_neg (by omega)]; rw [if_neg (by omega)]; rw [if_neg (by omega)]; rw [if_neg (by omega)]; rw [if_pos h]
theorem spV_i (h : spJ l k = 8) : spV l k x = ({ x with rev := { x.rev with amount := pickV l (rN l 1 k) ([-1, 0, 1048576, 1048577] : List Int) } }, rN l 2 k) := by
  unfold spV; rw [if_neg (by omega)]; rw [if_neg (by omega)]; rw [if_neg (by omega)]; rw [if_neg (by omega)]; rw [if_neg (by omega)]; rw [if_neg (by omega)]; rw [if_neg (by omega)]; rw [if_neg (by omega)]; rw [if_pos h]
theorem spV_j (h : spJ l k = 9) : spV l k x = ({ x with device := pickV l (rN l 1 k) ([0, 1, 6, 7] : List Int) }, rN l 2 k) := by
  unfold spV; rw [if_neg (by omega)]; rw [if_neg (by omega)]; rw [if_neg (by omega)]; rw [if_neg (by omega)]; rw [if_neg (by omega)]; rw [if_neg (by omega)]; rw [if_neg (by omega)]; rw [if_neg (by omega)]; rw [if_neg (by omega)]; rw [if_pos h]
theorem spV_k (h : spJ l k = 10) : spV l k x = ({ x with op := { x.op with kind := gmod (rawV l (rN l 1 k)) 4 } }, rN l 2 k) := by
  unfold spV; rw [if_neg (by omega)]; rw [if_neg (by omega)]; rw [if_neg (by omega)]; rw [if_neg (by omega)]; rw [if_neg (by omega)]; rw [if_neg (by omega)]; rw [if_neg (by omega)]; rw [if_neg (by omega)]; rw [if_neg (by omega)]; rw [if_neg (by omega)]; rw [if_pos h]
theorem spV_l (h : spJ l k = 11) : spV l k x = ({ x with ops := x.ops ++ [(opV l (rN l 2 k) (1 + gmod (rawV l (rN l 1 k)) 3))] }, rN l 9 k) := by
  unfold spV; rw [if_neg (by omega)]; rw [if_neg (by omega)]; rw [if_neg (by omega)]; rw [if_neg (by omega)]; rw [if_neg (by omega)]; rw [if_neg (by omega)]; rw [if_neg (by omega)]; rw [if_neg (by omega)]; rw [if_neg (by omega)]; rw [if_neg (by omega)]; rw [if_neg (by omega)]; rw [if_pos h]
theorem spV_m (h : ¬ (0 ≤ spJ l k ∧ spJ l k ≤ 11)) : spV l k x = ({ x with fl := { x.fl with day := pickV l (rN l 1 k) ([0, 1, 99, 100] : List Int) } }, rN l 2 k) := by
  unfold spV; rw [if_neg (by omega)]; rw [if_neg (by omega)]; rw [if_neg (by omega)]; rw [if_neg (by omega)]; rw [if_neg (by omega)]; rw [if_neg (by omega)]; rw [if_neg (by omega)]; rw [if_neg (by omega)]; rw [if_neg (by omega)]; rw [if_neg (by omega)]; rw [if_neg (by omega)]; rw [if_neg (by omega)]
end
theorem rpv_len (l : List Report) : ∀ x ∈ l.map Report.av, x.length = 3 := fun x hx => by obtain ⟨g, _, rfl⟩ := List.mem_map.1 hx; rfl
theorem opv_len (l : List Op) : ∀ x ∈ l.map Op.av, x.length = 10 := fun x hx => by obtain ⟨g, _, rfl⟩ := List.mem_map.1 hx; rfl
set_option maxHeartbeats 8000000 in
theorem C12 {l : List Int} {k : Nat} {x : Ev} (hl : l.length ≤ 2000) (hx : x.Sm) : Fn Tryd.prog 12 [.own 68 [srcRow l k]] [.ptr 0 0 0 0, .agg x.av] [.agg (spV l k x).1.av] [.own 68 [srcRow l (spV l k x).2]] := by
  have hg := gmod_bd (x := rawV l k) (n := 13) (by decide)
  have hg3 := gmod_bd (x := rawV l (rN l 1 k)) (n := 3) (by decide)
  refine Spec.body Tryd.func12 rfl Tryd.ntmps12 (by simp) rfl ?_; intro S0 own0 v0 w0 gl
  (refine AW.seq_k ?_; intro K hK)
  refine AW.region ?_
  refine awJ (op_box rfl rfl rfl sz35 rfl) ?_; (simp only [nA, Nat.reduceBEq, Nat.reduceEqDiff, ↓reduceIte])
  refine awJ (op_alloc rfl ze35 rfl) ?_; (simp only [nA, Nat.reduceBEq, Nat.reduceEqDiff, ↓reduceIte])
  refine AWL.nil ?_
  (refine hK _ ?_; clear hK K; (try simp only [nA, Nat.reduceBEq, Nat.reduceEqDiff, ↓reduceIte, Nat.reduceAdd, Nat.reduceSub]))
  refine AW.join (fun (q : Ev × Nat × Nat) => [(3, .ptr 1 1 0 0), (4, .ptr 2 2 0 0)]) (fun q => ⟨[(0, .own 68 [srcRow l q.2.1]), (1, .own 35 [q.1.av]), (2, .own 35 [evC (ev0 0) (.v (.slice none 0 0)) (.v (.slice none 0 0))])], q.2.2⟩) (fun q => (q.1, q.2.1) = spV l k x) ?_ ?_
  ·
   (refine AW.seq_k ?_; intro K hK)
   refine AW.region ?_
   refine awP (op_move rfl rfl) ?_; (simp only [nA, ↓reduceIte])
   refine awJ (op_call1 rfl en22 (C22 (k := k) (n := 13) hl (by decide)) (by exact rfl) (RL.cons .ptr (RL.cons (.base (by exact View.same rfl)) (RL.nil))) (by exact ⟨_, _, _, rfl, rfl, rfl⟩) (by exact rfl) (by exact rfl) (by exact rfl)) ?_; (try simp only [nA, Nat.reduceBEq, Nat.reduceEqDiff, ↓reduceIte, Nat.reduceAdd, Nat.reduceSub])
   refine AWL.nil ?_
   (refine hK _ ?_; clear hK K; (try simp only [nA, Nat.reduceBEq, Nat.reduceEqDiff, ↓reduceIte, Nat.reduceAdd, Nat.reduceSub]))
   refine AW.block ?_
   (refine AW.seq_k ?_; intro K hK)
   refine AW.region ?_
   (refine awP (op_eql rfl rfl rfl) ?_); (try simp only [nA, Nat.reduceBEq, Nat.reduceEqDiff, ↓reduceIte, Nat.reduceAdd, Nat.reduceSub])
   refine awP (op_assign rfl rfl) ?_; (simp only [nA])
   refine AWL.nil ?_
   (refine hK _ ?_; clear hK K; (skip))
   refine AW.cond rfl rfl rfl (fun hc => ?_) (fun hc => ?_)
   ·
    have hc1 := hc
    refine AW.region ?_
    refine awP (op_move rfl rfl) ?_; (simp only [nA, ↓reduceIte])
    refine awJ (OpJ.frz (op_buildSlice rfl [(0, iv (-1)), (1, iv 0), (2, iv 1), (3, iv 2), (4, iv 3), (5, iv 14), (6, iv 15)] (([-1, 0, 1, 2, 3, 14, 15] : List Int).map iv) Tryd.underlying36 ze3 rfl (by simp) (fold_dense 1 (([-1, 0, 1, 2, 3, 14, 15] : List Int).map iv) (iv_len _)) (iv_len _) rfl (bl rfl) (by simp [maxLen])) (iv_flat _) rfl) ?_; (try simp only [nA, Nat.reduceBEq, Nat.reduceEqDiff, ↓reduceIte, Nat.reduceAdd, Nat.reduceSub])
    refine awJ (op_call1 rfl en27 (C27 (k := rN l 1 k) (xs := ([-1, 0, 1, 2, 3, 14, 15] : List Int)) hl (by decide) (by decide)) (by exact rfl) (RL.cons .ptr (RL.cons (.base (by exact View.same rfl)) (RL.nil))) (by exact ⟨_, _, _, rfl, rfl, rfl⟩) (by exact rfl) (by exact rfl) (by exact rfl)) ?_; (try simp only [nA, Nat.reduceBEq, Nat.reduceEqDiff, ↓reduceIte, Nat.reduceAdd, Nat.reduceSub])
    (refine awP (op_fa_ptr rfl rfl rfl fl35_0 (by exact sz3) (by decide) rfl) ?_); (try simp only [nA, Nat.reduceBEq, Nat.reduceEqDiff, ↓reduceIte, Nat.reduceAdd, Nat.reduceSub])
    refine awJ (op_store rfl rfl rfl rfl rfl rfl sz3 rfl (bl rfl) rfl) ?_; (simp only [nA, ↓reduceIte])
    refine AWL.nil ?_
    (try simp only [thenE, inBlk, Nat.reduceEqDiff, ↓reduceIte])
    exact ⟨(_, _, _), (spV_a (of_decide_eq_true hc1)).symm, ⟨rfl, rfl, trivial⟩, (by rfl), (by trivial)⟩
   have hc1 := hc
   (refine AW.seq_k ?_; intro K hK)
   refine AW.region ?_
   (refine awP (op_eql rfl rfl rfl) ?_); (try simp only [nA, Nat.reduceBEq, Nat.reduceEqDiff, ↓reduceIte, Nat.reduceAdd, Nat.reduceSub])
   refine awP (op_assign rfl rfl) ?_; (simp only [nA])
   refine AWL.nil ?_
   (refine hK _ ?_; clear hK K; (skip))
   refine AW.cond rfl rfl rfl (fun hc => ?_) (fun hc => ?_)
   ·
    have hc2 := hc
    refine AW.region ?_
    refine awP (op_move rfl rfl) ?_; (simp only [nA, ↓reduceIte])
    refine awJ (OpJ.frz (op_buildSlice rfl [(0, iv (-1)), (1, iv 1), (2, iv 1048576), (3, iv 1048577)] (([-1, 1, 1048576, 1048577] : List Int).map iv) Tryd.underlying36 ze3 rfl (by simp) (fold_dense 1 (([-1, 1, 1048576, 1048577] : List Int).map iv) (iv_len _)) (iv_len _) rfl (bl rfl) (by simp [maxLen])) (iv_flat _) rfl) ?_; (try simp only [nA, Nat.reduceBEq, Nat.reduceEqDiff, ↓reduceIte, Nat.reduceAdd, Nat.reduceSub])
    refine awJ (op_call1 rfl en27 (C27 (k := rN l 1 k) (xs := ([-1, 1, 1048576, 1048577] : List Int)) hl (by decide) (by decide)) (by exact rfl) (RL.cons .ptr (RL.cons (.base (by exact View.same rfl)) (RL.nil))) (by exact ⟨_, _, _, rfl, rfl, rfl⟩) (by exact rfl) (by exact rfl) (by exact rfl)) ?_; (try simp only [nA, Nat.reduceBEq, Nat.reduceEqDiff, ↓reduceIte, Nat.reduceAdd, Nat.reduceSub])
    (refine awP (op_fa_ptr rfl rfl rfl fl35_1 (by exact sz3) (by decide) rfl) ?_); (try simp only [nA, Nat.reduceBEq, Nat.reduceEqDiff, ↓reduceIte, Nat.reduceAdd, Nat.reduceSub])
    refine awJ (op_store rfl rfl rfl rfl rfl rfl sz3 rfl (bl rfl) rfl) ?_; (simp only [nA, ↓reduceIte])
    refine AWL.nil ?_
    (try simp only [thenE, inBlk, Nat.reduceEqDiff, ↓reduceIte])
    exact ⟨(_, _, _), (spV_b (of_decide_eq_true hc2)).symm, ⟨rfl, rfl, trivial⟩, (by rfl), (by trivial)⟩
   have hc2 := hc
   (refine AW.seq_k ?_; intro K hK)
   refine AW.region ?_
   (refine awP (op_eql rfl rfl rfl) ?_); (try simp only [nA, Nat.reduceBEq, Nat.reduceEqDiff, ↓reduceIte, Nat.reduceAdd, Nat.reduceSub])
   refine awP (op_assign rfl rfl) ?_; (simp only [nA])
   refine AWL.nil ?_
   (refine hK _ ?_; clear hK K; (skip))
   refine AW.cond rfl rfl rfl (fun hc => ?_) (fun hc => ?_)
   ·
    have hc3 := hc
    refine AW.region ?_
    (refine awP (op_fa_ptr rfl rfl rfl fl35_2 (by exact sz9) (by decide) rfl) ?_); (try simp only [nA, Nat.reduceBEq, Nat.reduceEqDiff, ↓reduceIte, Nat.reduceAdd, Nat.reduceSub])
    (refine awR (op_load_ptr1 rfl rfl rfl rfl ag9 rfl rfl) ?_); (try simp only [nA, Nat.reduceBEq, Nat.reduceEqDiff, ↓reduceIte, Nat.reduceAdd, Nat.reduceSub])
    refine awP (op_sadd rfl rfl rfl (by have := hx.t; show x.text.size + 1 ≤ _; omega)) ?_; (try simp only [nA, Nat.reduceBEq, Nat.reduceEqDiff, ↓reduceIte, Nat.reduceAdd, Nat.reduceSub])
    (refine awP (op_fa_ptr rfl rfl rfl fl35_2 (by exact sz9) (by decide) rfl) ?_); (try simp only [nA, Nat.reduceBEq, Nat.reduceEqDiff, ↓reduceIte, Nat.reduceAdd, Nat.reduceSub])
    refine awJ (op_store rfl rfl rfl rfl rfl rfl sz9 rfl (bl rfl) rfl) ?_; (simp only [nA, ↓reduceIte])
    refine AWL.nil ?_
    (try simp only [thenE, inBlk, Nat.reduceEqDiff, ↓reduceIte])
    exact ⟨(_, _, _), (spV_c (of_decide_eq_true hc3)).symm, ⟨rfl, rfl, trivial⟩, (by rfl), (by trivial)⟩
   have hc3 := hc
   (refine AW.seq_k ?_; intro K hK)
   refine AW.region ?_
   (refine awP (op_eql rfl rfl rfl) ?_); (try simp only [nA, Nat.reduceBEq, Nat.reduceEqDiff, ↓reduceIte, Nat.reduceAdd, Nat.reduceSub])
   refine awP (op_assign rfl rfl) ?_; (simp only [nA])
   refine AWL.nil ?_
   (refine hK _ ?_; clear hK K; (skip))
   refine AW.cond rfl rfl rfl (fun hc => ?_) (fun hc => ?_)
   ·
    have hc4 := hc
    refine AW.region ?_
    refine awP (op_move rfl rfl) ?_; (simp only [nA, ↓reduceIte])
    refine awJ (OpJ.frz (op_buildSlice rfl [(0, iv 0), (1, iv 1), (2, iv 999), (3, iv 1000)] (([0, 1, 999, 1000] : List Int).map iv) Tryd.underlying36 ze3 rfl (by simp) (fold_dense 1 (([0, 1, 999, 1000] : List Int).map iv) (iv_len _)) (iv_len _) rfl (bl rfl) (by simp [maxLen])) (iv_flat _) rfl) ?_; (try simp only [nA, Nat.reduceBEq, Nat.reduceEqDiff, ↓reduceIte, Nat.reduceAdd, Nat.reduceSub])
    refine awJ (op_call1 rfl en27 (C27 (k := rN l 1 k) (xs := ([0, 1, 999, 1000] : List Int)) hl (by decide) (by decide)) (by exact rfl) (RL.cons .ptr (RL.cons (.base (by exact View.same rfl)) (RL.nil))) (by exact ⟨_, _, _, rfl, rfl, rfl⟩) (by exact rfl) (by exact rfl) (by exact rfl)) ?_; (try simp only [nA, Nat.reduceBEq, Nat.reduceEqDiff, ↓reduceIte, Nat.reduceAdd, Nat.reduceSub])
    (refine awP (op_fa_ptr rfl rfl rfl fl35_3 (by exact sz23) (by decide) rfl) ?_); (try simp only [nA, Nat.reduceBEq, Nat.reduceEqDiff, ↓reduceIte, Nat.reduceAdd, Nat.reduceSub])
    (refine awP (op_fa_ptr rfl rfl rfl fl23_1 (by exact sz3) (by decide) rfl) ?_); (simp only [nA, Nat.reduceBEq, Nat.reduceEqDiff, ↓reduceIte])
    refine awJ (op_store rfl rfl rfl rfl rfl rfl sz3 rfl (bl rfl) rfl) ?_; (simp only [nA, ↓reduceIte])
    refine AWL.nil ?_
    (try simp only [thenE, inBlk, Nat.reduceEqDiff, ↓reduceIte])
    exact ⟨(_, _, _), (spV_d (of_decide_eq_true hc4)).symm, ⟨rfl, rfl, trivial⟩, (by rfl), (by trivial)⟩
   have hc4 := hc
   (refine AW.seq_k ?_; intro K hK)
   refine AW.region ?_
   (refine awP (op_eql rfl rfl rfl) ?_); (try simp only [nA, Nat.reduceBEq, Nat.reduceEqDiff, ↓reduceIte, Nat.reduceAdd, Nat.reduceSub])
   refine awP (op_assign rfl rfl) ?_; (simp only [nA])
   refine AWL.nil ?_
   (refine hK _ ?_; clear hK K; (skip))
   refine AW.cond rfl rfl rfl (fun hc => ?_) (fun hc => ?_)
   ·
    have hc5 := hc
    refine AW.region ?_
    refine awP (op_move rfl rfl) ?_; (simp only [nA, ↓reduceIte])
    refine awJ (OpJ.frz (op_buildSlice rfl [(0, iv (-1)), (1, iv 0), (2, iv 23), (3, iv 24)] (([-1, 0, 23, 24] : List Int).map iv) Tryd.underlying36 ze3 rfl (by simp) (fold_dense 1 (([-1, 0, 23, 24] : List Int).map iv) (iv_len _)) (iv_len _) rfl (bl rfl) (by simp [maxLen])) (iv_flat _) rfl) ?_; (try simp only [nA, Nat.reduceBEq, Nat.reduceEqDiff, ↓reduceIte, Nat.reduceAdd, Nat.reduceSub])
    refine awJ (op_call1 rfl en27 (C27 (k := rN l 1 k) (xs := ([-1, 0, 23, 24] : List Int)) hl (by decide) (by decide)) (by exact rfl) (RL.cons .ptr (RL.cons (.base (by exact View.same rfl)) (RL.nil))) (by exact ⟨_, _, _, rfl, rfl, rfl⟩) (by exact rfl) (by exact rfl) (by exact rfl)) ?_; (try simp only [nA, Nat.reduceBEq, Nat.reduceEqDiff, ↓reduceIte, Nat.reduceAdd, Nat.reduceSub])
    (refine awP (op_fa_ptr rfl rfl rfl fl35_4 (by exact sz3) (by decide) rfl) ?_); (try simp only [nA, Nat.reduceBEq, Nat.reduceEqDiff, ↓reduceIte, Nat.reduceAdd, Nat.reduceSub])
    refine awJ (op_store rfl rfl rfl rfl rfl rfl sz3 rfl (bl rfl) rfl) ?_; (simp only [nA, ↓reduceIte])
    refine AWL.nil ?_
    (try simp only [thenE, inBlk, Nat.reduceEqDiff, ↓reduceIte])
    exact ⟨(_, _, _), (spV_e (of_decide_eq_true hc5)).symm, ⟨rfl, rfl, trivial⟩, (by rfl), (by trivial)⟩
   have hc5 := hc
   (refine AW.seq_k ?_; intro K hK)
   refine AW.region ?_
   (refine awP (op_eql rfl rfl rfl) ?_); (try simp only [nA, Nat.reduceBEq, Nat.reduceEqDiff, ↓reduceIte, Nat.reduceAdd, Nat.reduceSub])
   refine awP (op_assign rfl rfl) ?_; (simp only [nA])
   refine AWL.nil ?_
   (refine hK _ ?_; clear hK K; (skip))
   refine AW.cond rfl rfl rfl (fun hc => ?_) (fun hc => ?_)
   ·
    have hc6 := hc
    refine AW.region ?_
    refine awP (op_move rfl rfl) ?_; (simp only [nA, ↓reduceIte])
    refine awJ (OpJ.frz (op_buildSlice rfl [(0, iv (-1)), (1, iv 1048576), (2, iv 1048577)] (([-1, 1048576, 1048577] : List Int).map iv) Tryd.underlying36 ze3 rfl (by simp) (fold_dense 1 (([-1, 1048576, 1048577] : List Int).map iv) (iv_len _)) (iv_len _) rfl (bl rfl) (by simp [maxLen])) (iv_flat _) rfl) ?_; (try simp only [nA, Nat.reduceBEq, Nat.reduceEqDiff, ↓reduceIte, Nat.reduceAdd, Nat.reduceSub])
    refine awJ (op_call1 rfl en27 (C27 (k := rN l 1 k) (xs := ([-1, 1048576, 1048577] : List Int)) hl (by decide) (by decide)) (by exact rfl) (RL.cons .ptr (RL.cons (.base (by exact View.same rfl)) (RL.nil))) (by exact ⟨_, _, _, rfl, rfl, rfl⟩) (by exact rfl) (by exact rfl) (by exact rfl)) ?_; (try simp only [nA, Nat.reduceBEq, Nat.reduceEqDiff, ↓reduceIte, Nat.reduceAdd, Nat.reduceSub])
    (refine awP (op_fa_ptr rfl rfl rfl fl35_5 (by exact sz3) (by decide) rfl) ?_); (try simp only [nA, Nat.reduceBEq, Nat.reduceEqDiff, ↓reduceIte, Nat.reduceAdd, Nat.reduceSub])
    refine awJ (op_store rfl rfl rfl rfl rfl rfl sz3 rfl (bl rfl) rfl) ?_; (simp only [nA, ↓reduceIte])
    refine AWL.nil ?_
    (try simp only [thenE, inBlk, Nat.reduceEqDiff, ↓reduceIte])
    exact ⟨(_, _, _), (spV_f (of_decide_eq_true hc6)).symm, ⟨rfl, rfl, trivial⟩, (by rfl), (by trivial)⟩
   have hc6 := hc
   (refine AW.seq_k ?_; intro K hK)
   refine AW.region ?_
   (refine awP (op_eql rfl rfl rfl) ?_); (try simp only [nA, Nat.reduceBEq, Nat.reduceEqDiff, ↓reduceIte, Nat.reduceAdd, Nat.reduceSub])
   refine awP (op_assign rfl rfl) ?_; (simp only [nA])
   refine AWL.nil ?_
   (refine hK _ ?_; clear hK K; (skip))
   refine AW.cond rfl rfl rfl (fun hc => ?_) (fun hc => ?_)
   ·
    have hc7 := hc
    refine AW.region ?_
    (refine awP (op_fa_ptr rfl rfl rfl fl35_6 (by exact sz4) (by decide) rfl) ?_); (try simp only [nA, Nat.reduceBEq, Nat.reduceEqDiff, ↓reduceIte, Nat.reduceAdd, Nat.reduceSub])
    (refine awR (op_load_ptr1 rfl rfl rfl rfl ag4 rfl rfl) ?_); (try simp only [nA, Nat.reduceBEq, Nat.reduceEqDiff, ↓reduceIte, Nat.reduceAdd, Nat.reduceSub])
    refine awP (op_not rfl rfl rfl) ?_; (try simp only [nA, Nat.reduceBEq, Nat.reduceEqDiff, ↓reduceIte, Nat.reduceAdd, Nat.reduceSub])
    (refine awP (op_fa_ptr rfl rfl rfl fl35_6 (by exact sz4) (by decide) rfl) ?_); (try simp only [nA, Nat.reduceBEq, Nat.reduceEqDiff, ↓reduceIte, Nat.reduceAdd, Nat.reduceSub])
    refine awJ (op_store rfl rfl rfl rfl rfl rfl sz4 rfl (bl rfl) rfl) ?_; (simp only [nA, ↓reduceIte])
    refine AWL.nil ?_
    (try simp only [thenE, inBlk, Nat.reduceEqDiff, ↓reduceIte])
    exact ⟨(_, _, _), (spV_g (of_decide_eq_true hc7)).symm, ⟨rfl, rfl, trivial⟩, (by rfl), (by trivial)⟩
   have hc7 := hc
   (refine AW.seq_k ?_; intro K hK)
   refine AW.region ?_
   (refine awP (op_eql rfl rfl rfl) ?_); (try simp only [nA, Nat.reduceBEq, Nat.reduceEqDiff, ↓reduceIte, Nat.reduceAdd, Nat.reduceSub])
   refine awP (op_assign rfl rfl) ?_; (simp only [nA])
   refine AWL.nil ?_
   (refine hK _ ?_; clear hK K; (skip))
   refine AW.cond rfl rfl rfl (fun hc => ?_) (fun hc => ?_)
   ·
    have hc8 := hc
    refine AW.region ?_
    refine awJ (op_buildSlice rfl [] [] Tryd.underlying24 ze66 rfl (by simp) rfl (by simp) rfl (bl rfl) (by simp [maxLen])) ?_; (simp only [nA, Nat.reduceBEq, Nat.reduceEqDiff, ↓reduceIte])
    (refine awP (op_fa_ptr rfl rfl rfl fl35_7 (by exact sz24) (by decide) rfl) ?_); (try simp only [nA, Nat.reduceBEq, Nat.reduceEqDiff, ↓reduceIte, Nat.reduceAdd, Nat.reduceSub])
    (refine awR (op_load_ptr1 rfl rfl rfl rfl ag24 rfl rfl) ?_); (try simp only [nA, Nat.reduceBEq, Nat.reduceEqDiff, ↓reduceIte, Nat.reduceAdd, Nat.reduceSub])
    refine awJ (op_app (rows := x.reports.map Report.av) rfl rfl rfl rfl rfl .ro Tryd.underlying24 ze66 (by decide) (rpv_len _) (by simp; have := hx.r; omega) (by decide) (es' := x.reports.map Report.av) (List.nil_append _) (n := x.reports.length) (by simp)) ?_; (simp only [nA, Nat.reduceBEq, Nat.reduceEqDiff, ↓reduceIte])
    refine awP (op_move rfl rfl) ?_; (simp only [nA, ↓reduceIte])
    refine awJ (OpJ.frz (op_buildSlice rfl [(0, iv (-1)), (1, iv 0), (2, iv 23), (3, iv 24)] (([-1, 0, 23, 24] : List Int).map iv) Tryd.underlying36 ze3 rfl (by simp) (fold_dense 1 (([-1, 0, 23, 24] : List Int).map iv) (iv_len _)) (iv_len _) rfl (bl rfl) (by simp [maxLen])) (iv_flat _) rfl) ?_; (try simp only [nA, Nat.reduceBEq, Nat.reduceEqDiff, ↓reduceIte, Nat.reduceAdd, Nat.reduceSub])
    refine awJ (op_call1 rfl en27 (C27 (k := rN l 1 k) (xs := ([-1, 0, 23, 24] : List Int)) hl (by decide) (by decide)) (by exact rfl) (RL.cons .ptr (RL.cons (.base (by exact View.same rfl)) (RL.nil))) (by exact ⟨_, _, _, rfl, rfl, rfl⟩) (by exact rfl) (by exact rfl) (by exact rfl)) ?_; (try simp only [nA, Nat.reduceBEq, Nat.reduceEqDiff, ↓reduceIte, Nat.reduceAdd, Nat.reduceSub])
    refine awP (op_move rfl rfl) ?_; (simp only [nA, ↓reduceIte])
    refine awJ (OpJ.frz (op_buildSlice rfl [(0, sv ⟨#[]⟩), (1, sv ⟨#[63]⟩), (2, sv ⟨#[63, 63, 63, 63, 63, 63, 63, 63, 63, 63]⟩)] (spT.map sv) Tryd.underlying70 ze9 rfl (by decide) rfl (by simp) rfl (bl rfl) (by decide)) (sv_flat _) rfl) ?_; (try simp only [nA, Nat.reduceBEq, Nat.reduceEqDiff, ↓reduceIte, Nat.reduceAdd, Nat.reduceSub])
    refine awJ (op_call1 rfl en25 (C25 (k := rN l 2 k) (ss := spT) hl (by decide) (by decide)) (by exact rfl) (RL.cons .ptr (RL.cons (.base (by exact View.same rfl)) (RL.nil))) (by exact ⟨_, _, _, rfl, rfl, rfl⟩) (by exact rfl) (by exact rfl) (by exact rfl)) ?_; (try simp only [nA, Nat.reduceBEq, Nat.reduceEqDiff, ↓reduceIte, Nat.reduceAdd, Nat.reduceSub])
    refine awP (op_build2 (xs := [_, .v (.bool false), _]) rfl pl66 ze66 [(0, [_]), (2, [_])] rfl rfl rfl) ?_; (simp only [nA, ↓reduceIte])
    refine awJ (OpJ.frz (op_buildSlice rfl [(0, (⟨pickV l (rN l 1 k) ([-1, 0, 23, 24] : List Int), false, textV l (rN l 2 k) spT⟩ : Report).av)] [(⟨pickV l (rN l 1 k) ([-1, 0, 23, 24] : List Int), false, textV l (rN l 2 k) spT⟩ : Report).av] Tryd.underlying24 ze66 rfl (by simp) rfl (by simp) rfl (bl rfl) (by simp [maxLen])) (rp_flat [(⟨pickV l (rN l 1 k) ([-1, 0, 23, 24] : List Int), false, textV l (rN l 2 k) spT⟩ : Report)]) rfl) ?_; (try simp only [nA, Nat.reduceBEq, Nat.reduceEqDiff, ↓reduceIte, Nat.reduceAdd, Nat.reduceSub])
    refine awJ (op_app (rows := [(⟨pickV l (rN l 1 k) ([-1, 0, 23, 24] : List Int), false, textV l (rN l 2 k) spT⟩ : Report).av]) rfl rfl rfl rfl (by simp) .ro Tryd.underlying24 ze66 (by decide) (by simp) (by simp; have := hx.r; omega) (by decide) (es' := (x.reports ++ [(⟨pickV l (rN l 1 k) ([-1, 0, 23, 24] : List Int), false, textV l (rN l 2 k) spT⟩ : Report)]).map Report.av) (by simp) (n := (x.reports ++ [(⟨pickV l (rN l 1 k) ([-1, 0, 23, 24] : List Int), false, textV l (rN l 2 k) spT⟩ : Report)]).length) (by simp)) ?_; (simp only [nA, Nat.reduceBEq, Nat.reduceEqDiff, ↓reduceIte]); refine AWL.gh (Gh.freeze 69 (bl rfl) rfl rfl (rp_flat _) (es' := (x.reports ++ [(⟨pickV l (rN l 1 k) ([-1, 0, 23, 24] : List Int), false, textV l (rN l 2 k) spT⟩ : Report)]).map Report.av) (List.take_of_length_le (by simp))) ?_; (try simp only [nA, Nat.reduceBEq, Nat.reduceEqDiff, ↓reduceIte, Nat.reduceAdd, Nat.reduceSub])
    (refine awP (op_fa_ptr rfl rfl rfl fl35_7 (by exact sz24) (by decide) rfl) ?_); (try simp only [nA, Nat.reduceBEq, Nat.reduceEqDiff, ↓reduceIte, Nat.reduceAdd, Nat.reduceSub])
    refine awJ (op_store rfl rfl rfl rfl rfl rfl sz24 rfl (bl rfl) rfl) ?_; (simp only [nA, ↓reduceIte]); refine AWL.gh (Gh.drop 3) ?_; (try simp only [nA, Nat.reduceBEq, Nat.reduceEqDiff, ↓reduceIte, Nat.reduceAdd, Nat.reduceSub])
    refine AWL.nil ?_
    (try simp only [thenE, inBlk, Nat.reduceEqDiff, ↓reduceIte])
    exact ⟨(_, _, _), (spV_h (of_decide_eq_true hc8)).symm, ⟨rfl, rfl, trivial⟩, (by rfl), (by trivial)⟩
   have hc8 := hc
   (refine AW.seq_k ?_; intro K hK)
   refine AW.region ?_
   (refine awP (op_eql rfl rfl rfl) ?_); (try simp only [nA, Nat.reduceBEq, Nat.reduceEqDiff, ↓reduceIte, Nat.reduceAdd, Nat.reduceSub])
   refine awP (op_assign rfl rfl) ?_; (simp only [nA])
   refine AWL.nil ?_
   (refine hK _ ?_; clear hK K; (skip))
   refine AW.cond rfl rfl rfl (fun hc => ?_) (fun hc => ?_)
   ·
    have hc9 := hc
    refine AW.region ?_
    refine awP (op_move rfl rfl) ?_; (simp only [nA, ↓reduceIte])
    refine awJ (OpJ.frz (op_buildSlice rfl [(0, iv (-1)), (1, iv 0), (2, iv 1048576), (3, iv 1048577)] (([-1, 0, 1048576, 1048577] : List Int).map iv) Tryd.underlying36 ze3 rfl (by simp) (fold_dense 1 (([-1, 0, 1048576, 1048577] : List Int).map iv) (iv_len _)) (iv_len _) rfl (bl rfl) (by simp [maxLen])) (iv_flat _) rfl) ?_; (try simp only [nA, Nat.reduceBEq, Nat.reduceEqDiff, ↓reduceIte, Nat.reduceAdd, Nat.reduceSub])
    refine awJ (op_call1 rfl en27 (C27 (k := rN l 1 k) (xs := ([-1, 0, 1048576, 1048577] : List Int)) hl (by decide) (by decide)) (by exact rfl) (RL.cons .ptr (RL.cons (.base (by exact View.same rfl)) (RL.nil))) (by exact ⟨_, _, _, rfl, rfl, rfl⟩) (by exact rfl) (by exact rfl) (by exact rfl)) ?_; (try simp only [nA, Nat.reduceBEq, Nat.reduceEqDiff, ↓reduceIte, Nat.reduceAdd, Nat.reduceSub])
    (refine awP (op_fa_ptr rfl rfl rfl fl35_8 (by exact sz28) (by decide) rfl) ?_); (try simp only [nA, Nat.reduceBEq, Nat.reduceEqDiff, ↓reduceIte, Nat.reduceAdd, Nat.reduceSub])
    (refine awP (op_fa_ptr rfl rfl rfl fl28_1 (by exact sz3) (by decide) rfl) ?_); (simp only [nA, Nat.reduceBEq, Nat.reduceEqDiff, ↓reduceIte])
    refine awJ (op_store rfl rfl rfl rfl rfl rfl sz3 rfl (bl rfl) rfl) ?_; (simp only [nA, ↓reduceIte])
    refine AWL.nil ?_
    (try simp only [thenE, inBlk, Nat.reduceEqDiff, ↓reduceIte])
    exact ⟨(_, _, _), (spV_i (of_decide_eq_true hc9)).symm, ⟨rfl, rfl, trivial⟩, (by rfl), (by trivial)⟩
   have hc9 := hc
   (refine AW.seq_k ?_; intro K hK)
   refine AW.region ?_
   (refine awP (op_eql rfl rfl rfl) ?_); (try simp only [nA, Nat.reduceBEq, Nat.reduceEqDiff, ↓reduceIte, Nat.reduceAdd, Nat.reduceSub])
   refine awP (op_assign rfl rfl) ?_; (simp only [nA])
   refine AWL.nil ?_
   (refine hK _ ?_; clear hK K; (skip))
   refine AW.cond rfl rfl rfl (fun hc => ?_) (fun hc => ?_)
   ·
    have hc10 := hc
    refine AW.region ?_
    refine awP (op_move rfl rfl) ?_; (simp only [nA, ↓reduceIte])
    refine awJ (OpJ.frz (op_buildSlice rfl [(0, iv 0), (1, iv 1), (2, iv 6), (3, iv 7)] (([0, 1, 6, 7] : List Int).map iv) Tryd.underlying36 ze3 rfl (by simp) (fold_dense 1 (([0, 1, 6, 7] : List Int).map iv) (iv_len _)) (iv_len _) rfl (bl rfl) (by simp [maxLen])) (iv_flat _) rfl) ?_; (try simp only [nA, Nat.reduceBEq, Nat.reduceEqDiff, ↓reduceIte, Nat.reduceAdd, Nat.reduceSub])
    refine awJ (op_call1 rfl en27 (C27 (k := rN l 1 k) (xs := ([0, 1, 6, 7] : List Int)) hl (by decide) (by decide)) (by exact rfl) (RL.cons .ptr (RL.cons (.base (by exact View.same rfl)) (RL.nil))) (by exact ⟨_, _, _, rfl, rfl, rfl⟩) (by exact rfl) (by exact rfl) (by exact rfl)) ?_; (try simp only [nA, Nat.reduceBEq, Nat.reduceEqDiff, ↓reduceIte, Nat.reduceAdd, Nat.reduceSub])
    (refine awP (op_fa_ptr rfl rfl rfl fl35_9 (by exact sz3) (by decide) rfl) ?_); (try simp only [nA, Nat.reduceBEq, Nat.reduceEqDiff, ↓reduceIte, Nat.reduceAdd, Nat.reduceSub])
    refine awJ (op_store rfl rfl rfl rfl rfl rfl sz3 rfl (bl rfl) rfl) ?_; (simp only [nA, ↓reduceIte])
    refine AWL.nil ?_
    (try simp only [thenE, inBlk, Nat.reduceEqDiff, ↓reduceIte])
    exact ⟨(_, _, _), (spV_j (of_decide_eq_true hc10)).symm, ⟨rfl, rfl, trivial⟩, (by rfl), (by trivial)⟩
   have hc10 := hc
   (refine AW.seq_k ?_; intro K hK)
   refine AW.region ?_
   (refine awP (op_eql rfl rfl rfl) ?_); (try simp only [nA, Nat.reduceBEq, Nat.reduceEqDiff, ↓reduceIte, Nat.reduceAdd, Nat.reduceSub])
   refine awP (op_assign rfl rfl) ?_; (simp only [nA])
   refine AWL.nil ?_
   (refine hK _ ?_; clear hK K; (skip))
   refine AW.cond rfl rfl rfl (fun hc => ?_) (fun hc => ?_)
   ·
    have hc11 := hc
    refine AW.region ?_
    refine awP (op_move rfl rfl) ?_; (simp only [nA, ↓reduceIte])
    refine awJ (op_call1 rfl en22 (C22 (k := rN l 1 k) (n := 4) hl (by decide)) (by exact rfl) (RL.cons .ptr (RL.cons (.base (by exact View.same rfl)) (RL.nil))) (by exact ⟨_, _, _, rfl, rfl, rfl⟩) (by exact rfl) (by exact rfl) (by exact rfl)) ?_; (try simp only [nA, Nat.reduceBEq, Nat.reduceEqDiff, ↓reduceIte, Nat.reduceAdd, Nat.reduceSub])
    (refine awP (op_fa_ptr rfl rfl rfl fl35_10 (by exact sz32) (by decide) rfl) ?_); (try simp only [nA, Nat.reduceBEq, Nat.reduceEqDiff, ↓reduceIte, Nat.reduceAdd, Nat.reduceSub])
    (refine awP (op_fa_ptr rfl rfl rfl fl32_3 (by exact sz3) (by decide) rfl) ?_); (simp only [nA, Nat.reduceBEq, Nat.reduceEqDiff, ↓reduceIte])
    refine awJ (op_store rfl rfl rfl rfl rfl rfl sz3 rfl (bl rfl) rfl) ?_; (simp only [nA, ↓reduceIte])
    refine AWL.nil ?_
    (try simp only [thenE, inBlk, Nat.reduceEqDiff, ↓reduceIte])
    exact ⟨(_, _, _), (spV_k (of_decide_eq_true hc11)).symm, ⟨rfl, rfl, trivial⟩, (by rfl), (by trivial)⟩
   have hc11 := hc
   (refine AW.seq_k ?_; intro K hK)
   refine AW.region ?_
   (refine awP (op_eql rfl rfl rfl) ?_); (try simp only [nA, Nat.reduceBEq, Nat.reduceEqDiff, ↓reduceIte, Nat.reduceAdd, Nat.reduceSub])
   refine awP (op_assign rfl rfl) ?_; (simp only [nA])
   refine AWL.nil ?_
   (refine hK _ ?_; clear hK K; (skip))
   refine AW.cond rfl rfl rfl (fun hc => ?_) (fun hc => ?_)
   ·
    have hc12 := hc
    refine AW.region ?_
    refine awJ (op_buildSlice rfl [] [] Tryd.underlying33 ze32 rfl (by simp) rfl (by simp) rfl (bl rfl) (by simp [maxLen])) ?_; (simp only [nA, Nat.reduceBEq, Nat.reduceEqDiff, ↓reduceIte])
    (refine awP (op_fa_ptr rfl rfl rfl fl35_11 (by exact sz33) (by decide) rfl) ?_); (try simp only [nA, Nat.reduceBEq, Nat.reduceEqDiff, ↓reduceIte, Nat.reduceAdd, Nat.reduceSub])
    (refine awR (op_load_ptr1 rfl rfl rfl rfl ag33 rfl rfl) ?_); (try simp only [nA, Nat.reduceBEq, Nat.reduceEqDiff, ↓reduceIte, Nat.reduceAdd, Nat.reduceSub])
    refine awJ (op_app (rows := x.ops.map Op.av) rfl rfl rfl rfl rfl .ro Tryd.underlying33 ze32 (by decide) (opv_len _) (by simp; have := hx.o; omega) (by decide) (es' := x.ops.map Op.av) (List.nil_append _) (n := x.ops.length) (by simp)) ?_; (simp only [nA, Nat.reduceBEq, Nat.reduceEqDiff, ↓reduceIte])
    refine awP (op_move rfl rfl) ?_; (simp only [nA, ↓reduceIte])
    refine awP (op_move rfl rfl) ?_; (simp only [nA, ↓reduceIte])
    refine awJ (op_call1 rfl en22 (C22 (k := rN l 1 k) (n := 3) hl (by decide)) (by exact rfl) (RL.cons .ptr (RL.cons (.base (by exact View.same rfl)) (RL.nil))) (by exact ⟨_, _, _, rfl, rfl, rfl⟩) (by exact rfl) (by exact rfl) (by exact rfl)) ?_; (try simp only [nA, Nat.reduceBEq, Nat.reduceEqDiff, ↓reduceIte, Nat.reduceAdd, Nat.reduceSub])
    (refine awP (op_addi rfl rfl rfl (by omega)) ?_); (try simp only [nA, Nat.reduceBEq, Nat.reduceEqDiff, ↓reduceIte, Nat.reduceAdd, Nat.reduceSub])
    refine awJ (op_call1 rfl en29 (C29 (k := rN l 2 k) (d := 1 + gmod (rawV l (rN l 1 k)) 3) hl) (by exact rfl) (RL.cons .ptr (RL.cons (.base (by exact View.same rfl)) (RL.nil))) (by exact ⟨_, _, _, rfl, rfl, rfl⟩) (by exact rfl) (by exact rfl) (by exact rfl)) ?_; (try simp only [nA, Nat.reduceBEq, Nat.reduceEqDiff, ↓reduceIte, Nat.reduceAdd, Nat.reduceSub])
    refine awJ (OpJ.frz (op_buildSlice rfl [(0, (opV l (rN l 2 k) (1 + gmod (rawV l (rN l 1 k)) 3)).av)] [(opV l (rN l 2 k) (1 + gmod (rawV l (rN l 1 k)) 3)).av] Tryd.underlying33 ze32 rfl (by simp) rfl (by simp) rfl (bl rfl) (by simp [maxLen])) (op_flat [(opV l (rN l 2 k) (1 + gmod (rawV l (rN l 1 k)) 3))]) rfl) ?_; (try simp only [nA, Nat.reduceBEq, Nat.reduceEqDiff, ↓reduceIte, Nat.reduceAdd, Nat.reduceSub])
    refine awJ (op_app (rows := [(opV l (rN l 2 k) (1 + gmod (rawV l (rN l 1 k)) 3)).av]) rfl rfl rfl rfl (by simp) .ro Tryd.underlying33 ze32 (by decide) (by simp) (by simp; have := hx.o; omega) (by decide) (es' := (x.ops ++ [(opV l (rN l 2 k) (1 + gmod (rawV l (rN l 1 k)) 3))]).map Op.av) (by simp) (n := (x.ops ++ [(opV l (rN l 2 k) (1 + gmod (rawV l (rN l 1 k)) 3))]).length) (by simp)) ?_; (simp only [nA, Nat.reduceBEq, Nat.reduceEqDiff, ↓reduceIte]); refine AWL.gh (Gh.freeze 102 (bl rfl) rfl rfl (op_flat _) (es' := (x.ops ++ [(opV l (rN l 2 k) (1 + gmod (rawV l (rN l 1 k)) 3))]).map Op.av) (List.take_of_length_le (by simp))) ?_; (try simp only [nA, Nat.reduceBEq, Nat.reduceEqDiff, ↓reduceIte, Nat.reduceAdd, Nat.reduceSub])
    (refine awP (op_fa_ptr rfl rfl rfl fl35_11 (by exact sz33) (by decide) rfl) ?_); (try simp only [nA, Nat.reduceBEq, Nat.reduceEqDiff, ↓reduceIte, Nat.reduceAdd, Nat.reduceSub])
    refine awJ (op_store rfl rfl rfl rfl rfl rfl sz33 rfl (bl rfl) rfl) ?_; (simp only [nA, ↓reduceIte]); refine AWL.gh (Gh.drop 3) ?_; (try simp only [nA, Nat.reduceBEq, Nat.reduceEqDiff, ↓reduceIte, Nat.reduceAdd, Nat.reduceSub])
    refine AWL.nil ?_
    (try simp only [thenE, inBlk, Nat.reduceEqDiff, ↓reduceIte])
    exact ⟨(_, _, _), (spV_l (of_decide_eq_true hc12)).symm, ⟨rfl, rfl, trivial⟩, (by rfl), (by trivial)⟩
   have hc12 := hc
   refine AW.region ?_
   refine awP (op_move rfl rfl) ?_; (simp only [nA, ↓reduceIte])
   refine awJ (OpJ.frz (op_buildSlice rfl [(0, iv 0), (1, iv 1), (2, iv 99), (3, iv 100)] (([0, 1, 99, 100] : List Int).map iv) Tryd.underlying36 ze3 rfl (by simp) (fold_dense 1 (([0, 1, 99, 100] : List Int).map iv) (iv_len _)) (iv_len _) rfl (bl rfl) (by simp [maxLen])) (iv_flat _) rfl) ?_; (try simp only [nA, Nat.reduceBEq, Nat.reduceEqDiff, ↓reduceIte, Nat.reduceAdd, Nat.reduceSub])
   refine awJ (op_call1 rfl en27 (C27 (k := rN l 1 k) (xs := ([0, 1, 99, 100] : List Int)) hl (by decide) (by decide)) (by exact rfl) (RL.cons .ptr (RL.cons (.base (by exact View.same rfl)) (RL.nil))) (by exact ⟨_, _, _, rfl, rfl, rfl⟩) (by exact rfl) (by exact rfl) (by exact rfl)) ?_; (try simp only [nA, Nat.reduceBEq, Nat.reduceEqDiff, ↓reduceIte, Nat.reduceAdd, Nat.reduceSub])
   (refine awP (op_fa_ptr rfl rfl rfl fl35_12 (by exact sz26) (by decide) rfl) ?_); (try simp only [nA, Nat.reduceBEq, Nat.reduceEqDiff, ↓reduceIte, Nat.reduceAdd, Nat.reduceSub])
   (refine awP (op_fa_ptr rfl rfl rfl fl26_3 (by exact sz3) (by decide) rfl) ?_); (simp only [nA, Nat.reduceBEq, Nat.reduceEqDiff, ↓reduceIte])
   refine awJ (op_store rfl rfl rfl rfl rfl rfl sz3 rfl (bl rfl) rfl) ?_; (simp only [nA, ↓reduceIte])
   refine AWL.nil ?_
   (try simp only [thenE, inBlk, Nat.reduceEqDiff, ↓reduceIte])
   exact ⟨(_, _, _), (spV_m (by have h0 : spJ l k = gmod (rawV l k) 13 := rfl; have g1 : ¬ gmod (rawV l k) 13 = 0 := of_decide_eq_false hc1; have g2 : ¬ gmod (rawV l k) 13 = 1 := of_decide_eq_false hc2; have g3 : ¬ gmod (rawV l k) 13 = 2 := of_decide_eq_false hc3; have g4 : ¬ gmod (rawV l k) 13 = 3 := of_decide_eq_false hc4; have g5 : ¬ gmod (rawV l k) 13 = 4 := of_decide_eq_false hc5; have g6 : ¬ gmod (rawV l k) 13 = 5 := of_decide_eq_false hc6; have g7 : ¬ gmod (rawV l k) 13 = 6 := of_decide_eq_false hc7; have g8 : ¬ gmod (rawV l k) 13 = 7 := of_decide_eq_false hc8; have g9 : ¬ gmod (rawV l k) 13 = 8 := of_decide_eq_false hc9; have g10 : ¬ gmod (rawV l k) 13 = 9 := of_decide_eq_false hc10; have g11 : ¬ gmod (rawV l k) 13 = 10 := of_decide_eq_false hc11; have g12 : ¬ gmod (rawV l k) 13 = 11 := of_decide_eq_false hc12; omega)).symm, ⟨rfl, rfl, trivial⟩, (by rfl), (by trivial)⟩
  rintro ⟨y, kk, ep⟩ ρ hy; dsimp only at hy ⊢; rw [← hy]; simp only [updL]
  (refine AW.seq_k ?_; intro K hK)
  refine AW.region ?_
  (refine awR (op_load_ptr rfl rfl rfl rfl ag35 sz35 (bl rfl) rfl) ?_); (try simp only [nA, Nat.reduceBEq, Nat.reduceEqDiff, ↓reduceIte, Nat.reduceAdd, Nat.reduceSub])
  refine awJ (op_store rfl rfl rfl rfl rfl rfl sz35 rfl (bl rfl) rfl) ?_; (try simp only [nA, Nat.reduceBEq, Nat.reduceEqDiff, ↓reduceIte, Nat.reduceAdd, Nat.reduceSub])
  refine AWL.nil ?_
  (refine hK _ ?_; clear hK K; (skip))
  skip
  refine AW.ret ?_; (try simp only [thenE, inBlk, Nat.reduceEqDiff, ↓reduceIte]); exact RQ.of (.inl rfl) rfl (.cell (bl rfl) rfl rfl rfl ag35 sz35 (bl rfl) rfl rfl .nil) (by simp) rfl (one_out rfl)
end Go.Proofs.YtfmnaigedgmhoaaDoor
namespace Go.Proofs.YtfmnaigedgmhoaaDoor
open Go.RowKit
set_option linter.unusedSimpArgs false
set_option linter.unusedVariables false
inductive Sh where
  | int (k : IntKind)
  | str
  | bool
  | sl (row : List Sh)
inductive Mt : AV → Sh → Prop
  | int {k : IntKind} {n : Int} (h : (Lit.int k n).wf = true) : Mt (.v (.int k n)) (.int k)
  | str {s : ByteArray} (h : s.size ≤ maxLen) : Mt (.v (.string s)) .str
  | bool {b : Bool} : Mt (.v (.bool b)) .bool
  | sl {row : List Sh} {es : List (List AV)} (hs : es.length ≤ maxLen) (h : ∀ e ∈ es, e.length = row.length) (hc : ∀ e ∈ es, ∀ (i : Nat) (x : AV) (s : Sh), e[i]? = some x → row[i]? = some s → Mt x s) : Mt (.ro es) (.sl row)
theorem Mt.rows {es : List (List AV)} {row : List Sh} (h : Mt (.ro es) (.sl row)) : ∀ e ∈ es, RL Mt e row := by
  cases h with
  | sl hs h hc => exact fun e he => ⟨h e he, hc e he⟩
theorem rows_of {α : Type} {f : α → List AV} : ∀ {es : List (List AV)}, (∀ e ∈ es, ∃ p, e = f p) → ∃ ps : List α, es = ps.map f
  | [], _ => ⟨[], rfl⟩
  | e :: es, h => by
    obtain ⟨p, rfl⟩ := h e (by simp)
    obtain ⟨ps, rfl⟩ := rows_of (es := es) fun e he => h e (by simp [he])
    exact ⟨p :: ps, rfl⟩
def fieldsSh (sh : TypeId → Option (List Sh)) (P : Program) : Nat → List Field → Option (List Sh)
  | _, [] => some []
  | o, f :: fs => if f.offset = o then (sh f.type).bind fun r => if r.length = P.cellsOf f.type then (fieldsSh sh P (o + r.length) fs).map (r ++ ·) else none else none
def copies (r : List Sh) : Nat → List Sh
  | 0 => []
  | n + 1 => r ++ copies r n
def shOf (P : Program) : Nat → TypeId → Option (List Sh)
  | 0, _ => none
  | n + 1, t => match P.underlying t with
    | some (.int k) => some [.int k]
    | some .string => some [.str]
    | some .bool => some [.bool]
    | some (.slice e) => (shOf P n e).map fun r => [.sl r]
    | some (.struct fs) => (fieldsSh (shOf P n) P 0 fs.toList).bind fun r => if r.length = P.cellsOf t then some r else none
    | some (.array k e) => (shOf P n e).bind fun r => if r.length = P.cellsOf e ∧ P.cellsOf t = k * P.cellsOf e then some (copies r k) else none
    | _ => none
theorem RL.cons' {α β : Type} {R : α → β → Prop} {us : List α} {xs : List β} {u : α} (h : RL R (u :: us) xs) : ∃ x xs', xs = x :: xs' ∧ R u x ∧ RL R us xs' := by
  cases xs with
  | nil => have := h.1; simp at this
  | cons x xs => exact ⟨x, xs, rfl, h.2 0 u x rfl rfl, by have := h.1; simpa using this, fun i a b ha hb => h.2 (i + 1) a b (by simpa using ha) (by simpa using hb)⟩
theorem take_split {α : Type} (l : List α) (o m n : Nat) : (l.drop o).take (m + n) = (l.drop o).take m ++ (l.drop (o + m)).take n := by
  rw [List.take_add, List.drop_drop]
theorem flat_idx {α : Type} {sz : Nat} : ∀ {es : List (List α)}, (∀ e ∈ es, e.length = sz) → ∀ {j : Nat}, j < es.flatten.length → ∃ e u, es[j / sz]? = some e ∧ e[j % sz]? = some u ∧ es.flatten[j]? = some u
  | [], _, j, h => by simp at h
  | e :: es, hs, j, h => by
    have he : e.length = sz := hs e (by simp)
    have hs' : ∀ e ∈ es, e.length = sz := fun e he => hs e (by simp [he])
    rw [List.flatten_cons] at h ⊢
    by_cases hj : j < sz
    · rw [List.getElem?_append_left (by omega), Nat.div_eq_of_lt hj, Nat.mod_eq_of_lt hj]
      exact ⟨e, e[j]'(by omega), rfl, List.getElem?_eq_getElem _, List.getElem?_eq_getElem _⟩
    rw [List.length_append] at h
    obtain ⟨e1, u, h1, h2, h3⟩ := flat_idx hs' (j := j - sz) (by omega)
    have h0 : 0 < sz := by
      rcases Nat.eq_zero_or_pos sz with h0 | h0
      · subst h0
        have : es.flatten = [] := List.flatten_eq_nil_iff.2 fun e he => List.eq_nil_of_length_eq_zero (hs' e he)
        rw [this] at h
        simp at h
        omega
      exact h0
    rw [List.getElem?_append_right (by omega), he, Nat.div_eq_sub_div h0 (by omega), Nat.mod_eq_sub_mod (by omega)]
    exact ⟨e1, u, by simpa using h1, h2, h3⟩
section
variable {H : Type} {enc : TypeId × Value → H} {P : Program} {w : World} {base : Nat} {spare : Nat → Bool} {held : Bool}
theorem fields_open {S : Nat → Prop} {sh : TypeId → Option (List Sh)} {n : Nat} {cs : List Value} (ih : ∀ t cs x r, sh t = some r → DataW.trod enc P w base spare held n t cs = some x → ∃ xs, RL (Rep P S w []) cs xs ∧ RL Mt xs r) :
    ∀ (fs : List Field) (o : Nat) (r : List Sh), fieldsSh sh P o fs = some r → (∀ f ∈ fs, ∃ y, DataW.trod enc P w base spare held n f.type ((cs.drop f.offset).take (P.cellsOf f.type)) = some y) →
      ∃ xs, RL (Rep P S w []) ((cs.drop o).take r.length) xs ∧ RL Mt xs r
  | [], o, r, h, _ => by
    simp only [fieldsSh, Option.some.injEq] at h
    subst h
    exact ⟨[], by simpa using RL.nil, RL.nil⟩
  | f :: fs, o, r, h, hf => by
    unfold fieldsSh at h
    split at h
    · rename_i ho
      obtain ⟨r1, h1, h2⟩ := Option.bind_eq_some_iff.1 h
      split at h2
      · rename_i hl
        obtain ⟨r2, h3, h4⟩ := Option.map_eq_some_iff.1 h2
        subst h4
        obtain ⟨y, hy⟩ := hf f (by simp)
        obtain ⟨xs1, a1, a2⟩ := ih _ _ _ _ h1 hy
        obtain ⟨xs2, b1, b2⟩ := fields_open ih fs (o + r1.length) r2 h3 fun f hf' => hf f (by simp [hf'])
        refine ⟨xs1 ++ xs2, ?_, a2.append b2⟩
        rw [List.length_append, take_split]
        rw [ho, ← hl] at a1
        exact a1.append b1
      cases h2
    cases h
theorem copies_open {S : Nat → Prop} {r : List Sh} {n c : Nat} {e : TypeId} {cs : List Value} (hr : r.length = c) (ih : ∀ cs x, DataW.trod enc P w base spare held n e cs = some x → ∃ xs, RL (Rep P S w []) cs xs ∧ RL Mt xs r) :
    ∀ (m o : Nat), (∀ i, i < m → ∃ y, DataW.trod enc P w base spare held n e ((cs.drop (o + i * c)).take c) = some y) → ∃ xs, RL (Rep P S w []) ((cs.drop o).take (m * c)) xs ∧ RL Mt xs (copies r m)
  | 0, o, _ => ⟨[], by simpa using RL.nil, RL.nil⟩
  | m + 1, o, h => by
    obtain ⟨y, hy⟩ := h 0 (by omega)
    rw [Nat.zero_mul, Nat.add_zero] at hy
    obtain ⟨xs1, a1, a2⟩ := ih _ _ hy
    obtain ⟨xs2, b1, b2⟩ := copies_open hr ih m (o + c) fun i hi => by
      have := h (i + 1) (by omega)
      rw [show o + (i + 1) * c = o + c + i * c by rw [Nat.succ_mul]; omega] at this
      exact this
    refine ⟨xs1 ++ xs2, ?_, a2.append b2⟩
    rw [Nat.succ_mul, Nat.add_comm (m * c) c, take_split]
    exact a1.append b1
theorem Rep.small {S : Nat → Prop} {A : Option Addr} {len c : Nat} {es : List (List AV)} (h : Rep P S w [] (.slice A len c) (.ro es)) : es.length ≤ maxLen := by
  obtain ⟨-, A', c', sz, us, e, h1, h2, -⟩ := h.ro_inv
  exact Nat.le_trans h1 h2
theorem open_sh : ∀ (m fuel : Nat) (t : TypeId) (cs : List Value) (x : DataW H × List MemPlace) (r : List Sh), shOf P m t = some r → DataW.trod enc P w base spare held fuel t cs = some x → ∃ xs, RL (Rep P (fun k => k < w.heap.size) w []) cs xs ∧ RL Mt xs r
  | 0, _, _, _, _, _, h, _ => by simp [shOf] at h
  | m + 1, fuel, t, cs, x, r, h, hx => by
    unfold shOf at h
    split at h
    · rename_i k ht
      injection h with h; subst h
      obtain ⟨n, rfl, _, hw⟩ := DataW.trod_int ht hx
      exact ⟨_, .cons (.v rfl) .nil, .cons (.int hw) .nil⟩
    · rename_i ht
      injection h with h; subst h
      obtain ⟨s, rfl, _, hw⟩ := DataW.trod_string ht hx
      exact ⟨_, .cons (.v rfl) .nil, .cons (.str hw) .nil⟩
    · rename_i ht
      injection h with h; subst h
      obtain ⟨b, rfl, _⟩ := DataW.trod_bool ht hx
      exact ⟨_, .cons (.v rfl) .nil, .cons .bool .nil⟩
    · rename_i e ht
      obtain ⟨row, h1, h2⟩ := Option.map_eq_some_iff.1 h
      subst h2
      rcases Go.Deep.open_slice ht hx with ⟨rfl, _⟩ | ⟨a, len, cap, mm, n, D, Pl, rfl, hb, hl, hm, hmm, _, hel⟩
      · exact ⟨_, .cons rep_ro_nil .nil, .cons (.sl (Nat.zero_le _) (by simp) (by simp)) .nil⟩
      have hlm : len ≤ mm := by rw [hmm]; split <;> omega
      have key : ∀ i, i < len → ∃ p : List Value × List AV, w.cells? base (a.add (i * P.cellsOf e)) (P.cellsOf e) = some p.1 ∧ RL (Rep P (fun k => k < w.heap.size) w []) p.1 p.2 ∧ RL Mt p.2 row := fun i hi => by
        obtain ⟨cs', c1, c2⟩ := hel i (by omega)
        obtain ⟨xs, c3, c4⟩ := open_sh m _ _ _ _ _ h1 c2
        exact ⟨(cs', xs), c1, c3, c4⟩
      obtain ⟨F, hF⟩ := Go.Deep.choose_lt key
      have lv : ∀ l ∈ (List.range len).map (fun i => (F i).1), l.length = P.cellsOf e := fun l hl' => by
        obtain ⟨i, hi, rfl⟩ := List.mem_map.1 hl'
        exact (World.cells?_some (hF i (List.mem_range.1 hi)).1).2.1
      have lx : ∀ l ∈ (List.range len).map (fun i => (F i).2), l.length = P.cellsOf e := fun l hl' => by
        obtain ⟨i, hi, rfl⟩ := List.mem_map.1 hl'
        rw [← (hF i (List.mem_range.1 hi)).2.1.1]
        exact (World.cells?_some (hF i (List.mem_range.1 hi)).1).2.1
      have hlen : ((List.range len).map fun i => (F i).2).length = len := by simp
      have hfl : ((List.range len).map fun i => (F i).1).flatten.length = ((List.range len).map fun i => (F i).2).flatten.length := by
        rw [List.length_flatten, List.length_flatten]
        congr 1
        rw [List.map_map, List.map_map]
        exact List.map_congr_left fun i hi => (hF i (List.mem_range.1 hi)).2.1.1
      have hrep : Rep P (fun k => k < w.heap.size) w [] (.slice (some a) ((List.range len).map fun i => (F i).2).length cap) (.ro ((List.range len).map fun i => (F i).2)) := by
        refine Rep.ro (sz := P.cellsOf e) (us := ((List.range len).map fun i => (F i).1).flatten) (by rw [hlen]; exact hl) hm lx (fun hn => ?_) hfl fun i u x hu hx' => ?_
        · have hget : ∀ j u, ((List.range len).map fun i => (F i).1).flatten[j]? = some u → w.cell? (a.add j) = some u := fun j u hu => by
            obtain ⟨l, u', q1, q2, q3⟩ := flat_idx lv (j := j) (List.getElem?_eq_some_iff.1 hu).1
            rw [q3] at hu
            injection hu with hu; subst hu
            rw [List.getElem?_map] at q1
            have hq : j / P.cellsOf e < len := by
              have := (List.getElem?_eq_some_iff.1 (show ((List.range len).map fun i => (F i).1)[j / P.cellsOf e]? = some l by rw [List.getElem?_map]; exact q1)).1
              simpa using this
            rw [List.getElem?_range hq] at q1
            injection q1 with q1; subst q1
            have hc := (World.cells?_some (hF _ hq).1)
            have hp : 0 < P.cellsOf e := by
              have := (List.getElem?_eq_some_iff.1 q2).1
              rw [hc.2.1] at this; omega
            have hcell := hc.2.2 (j % P.cellsOf e) (Nat.mod_lt _ hp)
            rw [q2, Go.Deep.add_add, Nat.mul_comm, Nat.div_add_mod] at hcell
            exact hcell
          have h0 := hget 0 _ (List.getElem?_eq_getElem hn)
          obtain ⟨g, o, sp⟩ := a
          have : sp = none := by simpa [Addr.add] using World.cell?_spot h0
          subst this
          refine ⟨g, o, rfl, World.block_lt_of_cell? w _ h0, fun j u hu => ?_⟩
          have := hget j u hu
          rw [add_off] at this
          exact this
        obtain ⟨l, u', q1, q2, q3⟩ := flat_idx lv (j := i) (List.getElem?_eq_some_iff.1 hu).1
        obtain ⟨l2, u2, p1, p2, p3⟩ := flat_idx lx (j := i) (List.getElem?_eq_some_iff.1 hx').1
        rw [q3] at hu
        injection hu with hu; subst hu
        rw [p3] at hx'
        injection hx' with hx'; subst hx'
        rw [List.getElem?_map] at q1 p1
        have hq : i / P.cellsOf e < len := by
          have := (List.getElem?_eq_some_iff.1 (show ((List.range len).map fun i => (F i).1)[i / P.cellsOf e]? = some l by rw [List.getElem?_map]; exact q1)).1
          simpa using this
        rw [List.getElem?_range hq] at q1 p1
        injection q1 with q1; subst q1
        injection p1 with p1; subst p1
        exact (hF _ hq).2.1.2 _ _ _ q2 p2
      rw [hlen] at hrep
      refine ⟨_, .cons hrep .nil, .cons (.sl hrep.small (fun l hl' => ?_) fun l hl' => ?_) .nil⟩
      · obtain ⟨i, hi, rfl⟩ := List.mem_map.1 hl'
        exact (hF i (List.mem_range.1 hi)).2.2.1
      obtain ⟨i, hi, rfl⟩ := List.mem_map.1 hl'
      exact (hF i (List.mem_range.1 hi)).2.2.2
    · rename_i fs ht
      obtain ⟨r1, h1, h2⟩ := Option.bind_eq_some_iff.1 h
      split at h2
      · rename_i hl
        injection h2 with h2; subst h2
        obtain ⟨ys, n, _, _, hcl, hyl, hf⟩ := DataW.trod_struct ht hx
        obtain ⟨xs, a1, a2⟩ := fields_open (fun t cs x r => open_sh m n t cs x r) fs.toList 0 r1 h1 (cs := cs) fun f hf' => by
          obtain ⟨i, hi, rfl⟩ := List.getElem_of_mem hf'
          have := hf i fs.toList[i] (by simp at hi; simp [hi])
          exact ⟨_, this.trans (List.getElem?_eq_getElem (by rw [hyl]; simpa using hi))⟩
        rw [List.drop_zero, hl, ← hcl, List.take_length] at a1
        exact ⟨xs, a1, a2⟩
      cases h2
    · rename_i k e ht
      obtain ⟨r1, h1, h2⟩ := Option.bind_eq_some_iff.1 h
      split at h2
      · rename_i hl
        injection h2 with h2; subst h2
        obtain ⟨ys, n, _, _, hcl, hyl, hf⟩ := DataW.trod_array ht hx
        obtain ⟨xs, a1, a2⟩ := copies_open (cs := cs) hl.1 (fun cs x hx => open_sh m n e cs x r1 h1 hx) k 0 fun i hi => by
          have := hf i hi
          rw [Nat.zero_add]
          exact ⟨_, this.trans (List.getElem?_eq_getElem (by omega))⟩
        rw [List.drop_zero, ← hl.2, ← hcl, List.take_length] at a1
        exact ⟨xs, a1, a2⟩
      cases h2
    cases h
/-- A datum of several cells. -/
theorem open_agg {m : Nat} {t : TypeId} {us : Array Value} {r : List Sh} {d : DataW H} {ps : List MemPlace} (hs : shOf P m t = some r) (h : DataW.Trod enc P w base spare held t (.agg us) d ps) : ∃ xs, AggOK P (fun k => k < w.heap.size) w (insT []) [] (.agg us) (.agg xs) ∧ RL Mt xs r := by
  obtain ⟨fuel, hf⟩ := h
  obtain ⟨xs, a1, a2⟩ := open_sh m fuel t us.toList _ r hs hf
  exact ⟨xs, ⟨us, rfl, a1.mono fun u x h => h.ref⟩, a2⟩
/-- A datum of one cell. -/
theorem open_one {m : Nat} {t : TypeId} {v : Value} {s : Sh} {d : DataW H} {ps : List MemPlace} (hs : shOf P m t = some [s]) (hv : v.cells = #[v]) (h : DataW.Trod enc P w base spare held t v d ps) : ∃ x, AggOK P (fun k => k < w.heap.size) w (insT []) [] v x ∧ Mt x s := by
  obtain ⟨fuel, hf⟩ := h
  rw [hv] at hf
  obtain ⟨xs, a1, a2⟩ := open_sh m fuel t [v] _ [s] hs hf
  obtain ⟨x, xs', rfl, b1, b2⟩ := a1.cons'
  obtain ⟨x2, xs2, q, c1, -⟩ := a2.cons'
  injection q with q _
  subst q
  refine ⟨x, ?_, c1⟩
  have hr := b1.ref (T := insT []) (vals := [])
  cases c1 <;> exact hr
end
theorem Spec.small {P : Program} {f : FuncId} {ins xs : List AV} {Q : List AV → List AV → Prop} {es : List (List AV)} (k : Nat) (hk : xs[k]? = some (.ro es)) (h : es.length ≤ 9223372036854775807 → Spec P f ins xs Q) : Spec P f ins xs Q := fun w S vals bss vs c => by
  obtain ⟨u, hu, hr⟩ := c.args.at_ hk
  have hr : Rep P S w [] u (.ro es) := hr
  obtain ⟨-, A, cc, sz, us, e, h1, h2, -⟩ := hr.ro_inv
  exact h (Nat.le_trans (Nat.le_trans h1 h2) (by decide)) w S vals bss vs c
theorem Spec.smallA {P : Program} {f : FuncId} {ins xs : List AV} {Q : List AV → List AV → Prop} {cs : List AV} {es : List (List AV)} (k j : Nat) (hk : xs[k]? = some (.agg cs)) (hj : cs[j]? = some (.ro es)) (h : es.length ≤ 9223372036854775807 → Spec P f ins xs Q) : Spec P f ins xs Q := fun w S vals bss vs c => by
  obtain ⟨u, hu, hr⟩ := c.args.at_ hk
  obtain ⟨us, rfl, hrl⟩ := (show ∃ us, u = .agg us ∧ RL (RefOK P S w (insT ins) vals) us.toList cs from hr)
  obtain ⟨u2, hu2, hr2⟩ := hrl.at_ hj
  have hr2 : Rep P S w [] u2 (.ro es) := hr2
  obtain ⟨-, A, cc, sz, us, e, h1, h2, -⟩ := hr2.ro_inv
  exact h (Nat.le_trans (Nat.le_trans h1 h2) (by decide)) w S vals bss vs c
/-- What a cell may hold, taken apart. -/
theorem Mt.i64 {x : AV} (h : Mt x (.int .i64)) : ∃ n, x = .v (.int .i64 n) := by cases h; exact ⟨_, rfl⟩
theorem Mt.u8 {x : AV} (h : Mt x (.int .u8)) : ∃ n, x = .v (.int .u8 n) := by cases h; exact ⟨_, rfl⟩
theorem Mt.s_ {x : AV} (h : Mt x .str) : ∃ n, x = .v (.string n) := by cases h; exact ⟨_, rfl⟩
theorem Mt.b_ {x : AV} (h : Mt x .bool) : ∃ n, x = .v (.bool n) := by cases h; exact ⟨_, rfl⟩
theorem Mt.sl_ {x : AV} {r : List Sh} (h : Mt x (.sl r)) : ∃ es, x = .ro es := by cases h; exact ⟨_, rfl⟩
end Go.Proofs.YtfmnaigedgmhoaaDoor
namespace Go.Proofs.YtfmnaigedgmhoaaDoor
open Go.RowKit
set_option linter.unusedSimpArgs false
set_option linter.unusedVariables false
set_option maxRecDepth 100000
def rs100 (r : Report) : Bool := decide ((r.read.size : Int) ≤ 100)
def smallT (x : Ev) : Bool := (((((decide ((x.text.size : Int) ≤ 2100) && decide ((x.reports.length : Int) ≤ 40)) && decide ((x.ops.length : Int) ≤ 70)) && decide ((x.fl.carrier.size : Int) ≤ 100)) && decide ((x.fl.suffix.size : Int) ≤ 100)) && decide ((x.rev.fl.carrier.size : Int) ≤ 100)) && decide ((x.rev.fl.suffix.size : Int) ≤ 100)
def smallE (x : Ev) : Bool := x.reports.all rs100 && smallT x
theorem sm_no {x : Ev} {i : Nat} (h : i < x.reports.length) (h2 : decide (((x.reports.getD i default).read.size : Int) > 100) = true) : smallE x = false := by
  have h3 : rs100 (x.reports.getD i default) = false := by
    have := of_decide_eq_true h2
    exact decide_eq_false (by omega)
  unfold smallE
  rw [all_no_ h h3, Bool.false_and]
set_option maxHeartbeats 8000000 in
theorem C8 {x : Ev} : Fn Tryd.prog 8 [] [.agg x.av] [.v (.bool (smallE x))] [] := by
  refine Spec.smallA 0 9 rfl rfl fun hx => ?_
  rw [List.length_map] at hx
  refine Spec.body Tryd.func8 rfl Tryd.ntmps8 (by simp) rfl ?_; intro S0 own0 v0 w0 gl
  (refine AW.seq_k ?_; intro K hK)
  refine AW.region ?_
  refine awJ (op_box rfl rfl rfl sz35 rfl) ?_; (simp only [nA, Nat.reduceBEq, Nat.reduceEqDiff, ↓reduceIte])
  refine awP (op_assign rfl rfl) ?_
  refine AWL.nil ?_
  (refine hK _ ?_; clear hK K; (try simp only [nA, Nat.reduceBEq, Nat.reduceEqDiff, ↓reduceIte, Nat.reduceAdd, Nat.reduceSub]))
  (refine AW.seq_k ?_; intro K hK)
  (refine AW.seq_k ?_; intro K hK)
  refine AW.region ?_
  (refine awP (op_fa_ptr rfl rfl rfl fl35_7 (by exact sz24) (by decide) rfl) ?_)
  (refine awR (op_load_ptr1 rfl rfl rfl rfl ag24 rfl rfl) ?_)
  refine awP (op_len_ro (n := x.reports.length) rfl rfl Tryd.underlying24 (.inr (.inl ⟨_, rfl, by simp⟩))) ?_
  refine awP (op_move rfl rfl) ?_
  refine AWL.nil ?_
  (refine hK _ ?_; clear hK K; (try simp only [nA, Nat.reduceBEq, Nat.reduceEqDiff, ↓reduceIte, Nat.reduceAdd, Nat.reduceSub]))
  refine AW.block ?_
  refine AW.loopI (fun i => [(1, .ptr 0 1 0 0), (6, .v (.int .i64 x.reports.length)), (7, .v (.int .i64 (i : Nat)))]) (fun i => ⟨[(1, .own 35 [x.av])], 2⟩) (fun i => i ≤ x.reports.length ∧ ∀ k, k < i → rs100 (x.reports.getD k default) = true) (fun i => x.reports.length - i) 0 (by simp) ⟨rfl, rfl, rfl, trivial⟩ rfl ?_; intro i ρ hi; simp only [updL]
  (refine AW.seq_k ?_; intro K hK)
  refine AW.region ?_
  refine awP (op_lss rfl rfl rfl) ?_
  refine AWL.nil ?_
  (refine hK _ ?_; clear hK K; (try simp only [nA, Nat.reduceBEq, Nat.reduceEqDiff, ↓reduceIte, Nat.reduceAdd, Nat.reduceSub]))
  (refine AW.seq_k ?_; intro K hK)
  refine AW.cond rfl rfl rfl (fun hc => ?_) (fun hc => ?_)
  ·
   have hc1 := hc; have hlt : i < x.reports.length := (by simpa using hc1)
   refine AW.skip ?_
   (refine hK _ ?_; clear hK K; (skip))
   (refine AW.seq_k ?_; intro K hK)
   refine AW.block ?_
   (refine AW.seq_k ?_; intro K hK)
   refine AW.region ?_
   refine awP (op_move rfl rfl) ?_
   refine awP (op_assign rfl rfl) ?_
   refine AWL.nil ?_
   (refine hK _ ?_; clear hK K; (simp only [nA, ↓reduceIte]))
   (refine AW.seq_k ?_; intro K hK)
   refine AW.region ?_
   (refine awP (op_fa_ptr rfl rfl rfl fl35_7 (by exact sz24) (by decide) rfl) ?_)
   (refine awR (op_load_ptr1 rfl rfl rfl rfl ag24 rfl rfl) ?_)
   refine awP (op_move rfl rfl) ?_
   refine awP (op_ia_ro i rfl (.inl rfl) rfl Tryd.underlying24 rfl (get_mapD (by omega)) (by exact sz66) (bl rfl)) ?_
   (refine awP (op_fa_rop rfl rfl fl66_2 (by exact sz9) (by decide) (bl rfl) rfl) ?_)
   (refine awR (op_load_rop1 rfl rfl ag9) ?_)
   (refine awP (op_len_str rfl rfl Tryd.underlying9) ?_)
   refine awP (op_gtr rfl rfl rfl) ?_
   refine AWL.nil ?_
   (refine hK _ ?_; clear hK K; (simp only [nA, ↓reduceIte]))
   refine AW.cond rfl rfl rfl (fun hc => ?_) (fun hc => ?_)
   ·
    have hc2 := hc
    (refine AW.seq_k ?_; intro K hK)
    refine AW.region ?_
    refine awP (op_assign rfl rfl) ?_
    refine AWL.nil ?_
    (refine hK _ ?_; clear hK K; (try simp only [nA, Nat.reduceBEq, Nat.reduceEqDiff, ↓reduceIte, Nat.reduceAdd, Nat.reduceSub]))
    skip
    refine AW.ret ?_; (try simp only [thenE, inBlk, Nat.reduceEqDiff, ↓reduceIte]); rw [sm_no hlt hc2]; exact RQ.of0 rfl (.tmp (bl rfl) rfl rfl .nil)
   have hc2 := hc
   refine AW.skip ?_
   (try simp only [thenE, inBlk, Nat.reduceEqDiff, ↓reduceIte])
   (refine hK _ ?_; clear hK K; (skip))
   refine AW.region ?_
   (refine awP (op_addi rfl rfl rfl (by omega)) ?_)
   refine awP (op_move rfl rfl) ?_
   skip
   refine AWL.nil ?_
   refine ⟨i + 1, ⟨by omega, all_b_step (f := fun k => rs100 (x.reports.getD k default)) hi.2 (by have := of_decide_eq_false hc2; exact decide_eq_true (by omega))⟩, by omega, ⟨rfl, rfl, rfl, trivial⟩, (by rfl), (by rfl)⟩
  have hc1 := hc; have hnl : ¬ i < x.reports.length := (by simpa using hc1)
  refine AW.exit ?_; (try simp only [thenE, inBlk, Nat.reduceEqDiff, ↓reduceIte])
  clear hK K
  (refine hK _ ?_; clear hK K; (skip))
  (refine AW.seq_k ?_; intro K hK)
  refine AW.region (AWL.quiet ?_)
  (refine aqP (op_fa_ptr rfl rfl rfl fl35_2 (by exact sz9) (by decide) rfl) ?_)
  (refine aqR (op_load_ptr1 rfl rfl rfl rfl ag9 rfl rfl) ?_)
  (refine aqP (op_len_str rfl rfl Tryd.underlying9) ?_)
  refine aqP (op_leq rfl rfl rfl) ?_
  refine aqP (op_move rfl rfl) ?_
  refine' aqAnd' [_, _, _, _] [24,25,26,27] rfl rfl rfl rfl rfl rfl rfl rfl rfl rfl rfl rfl (fun hb => ?_) ?_; rotate_left
  ·
   (try simp only [hcS] at hb)
   (refine aqP (op_fa_ptr rfl rfl rfl fl35_7 (by exact sz24) (by decide) rfl) ?_)
   (refine aqR (op_load_ptr1 rfl rfl rfl rfl ag24 rfl rfl) ?_)
   refine aqP (op_len_ro (n := x.reports.length) rfl rfl Tryd.underlying24 (.inr (.inl ⟨_, rfl, by simp⟩))) ?_
   refine aqP (op_leq rfl rfl rfl) ?_
   (refine aqSeg rfl rfl rfl ?_; repeat (first | exact fun _ _ => rfl | refine upd_out rfl ?_))
  simp only [nA]
  refine aqP (op_move rfl rfl) ?_
  refine' aqAnd' [_, _, _, _] [30,31,32,33] rfl rfl rfl rfl rfl rfl rfl rfl rfl rfl rfl rfl (fun hb => ?_) ?_; rotate_left
  ·
   (try simp only [hcS] at hb)
   (refine aqP (op_fa_ptr rfl rfl rfl fl35_11 (by exact sz33) (by decide) rfl) ?_)
   (refine aqR (op_load_ptr1 rfl rfl rfl rfl ag33 rfl rfl) ?_)
   refine aqP (op_len_ro (n := x.ops.length) rfl rfl Tryd.underlying33 (.inr (.inl ⟨_, rfl, by simp⟩))) ?_
   refine aqP (op_leq rfl rfl rfl) ?_
   (refine aqSeg rfl rfl rfl ?_; repeat (first | exact fun _ _ => rfl | refine upd_out rfl ?_))
  simp only [nA]
  refine aqP (op_move rfl rfl) ?_
  refine' aqAnd' [_, _, _, _, _] [36,37,38,39,40] rfl rfl rfl rfl rfl rfl rfl rfl rfl rfl rfl rfl (fun hb => ?_) ?_; rotate_left
  ·
   (try simp only [hcS] at hb)
   (refine aqP (op_fa_ptr rfl rfl rfl fl35_12 (by exact sz26) (by decide) rfl) ?_)
   (refine aqP (op_fa_ptr rfl rfl rfl fl26_0 (by exact sz9) (by decide) rfl) ?_)
   (refine aqR (op_load_ptr1 rfl rfl rfl rfl ag9 rfl rfl) ?_)
   (refine aqP (op_len_str rfl rfl Tryd.underlying9) ?_)
   refine aqP (op_leq rfl rfl rfl) ?_
   (refine aqSeg rfl rfl rfl ?_; repeat (first | exact fun _ _ => rfl | refine upd_out rfl ?_))
  simp only [nA]
  refine aqP (op_move rfl rfl) ?_
  refine' aqAnd' [_, _, _, _, _] [43,44,45,46,47] rfl rfl rfl rfl rfl rfl rfl rfl rfl rfl rfl rfl (fun hb => ?_) ?_; rotate_left
  ·
   (try simp only [hcS] at hb)
   (refine aqP (op_fa_ptr rfl rfl rfl fl35_12 (by exact sz26) (by decide) rfl) ?_)
   (refine aqP (op_fa_ptr rfl rfl rfl fl26_2 (by exact sz9) (by decide) rfl) ?_)
   (refine aqR (op_load_ptr1 rfl rfl rfl rfl ag9 rfl rfl) ?_)
   (refine aqP (op_len_str rfl rfl Tryd.underlying9) ?_)
   refine aqP (op_leq rfl rfl rfl) ?_
   (refine aqSeg rfl rfl rfl ?_; repeat (first | exact fun _ _ => rfl | refine upd_out rfl ?_))
  simp only [nA]
  refine aqP (op_move rfl rfl) ?_
  refine' aqAnd' [_, _, _, _, _, _] [50,51,52,53,54,55] rfl rfl rfl rfl rfl rfl rfl rfl rfl rfl rfl rfl (fun hb => ?_) ?_; rotate_left
  ·
   (try simp only [hcS] at hb)
   (refine aqP (op_fa_ptr rfl rfl rfl fl35_8 (by exact sz28) (by decide) rfl) ?_)
   (refine aqP (op_fa_ptr rfl rfl rfl fl28_2 (by exact sz26) (by decide) rfl) ?_)
   (refine aqP (op_fa_ptr rfl rfl rfl fl26_0 (by exact sz9) (by decide) rfl) ?_)
   (refine aqR (op_load_ptr1 rfl rfl rfl rfl ag9 rfl rfl) ?_)
   (refine aqP (op_len_str rfl rfl Tryd.underlying9) ?_)
   refine aqP (op_leq rfl rfl rfl) ?_
   (refine aqSeg rfl rfl rfl ?_; repeat (first | exact fun _ _ => rfl | refine upd_out rfl ?_))
  simp only [nA]
  refine aqP (op_move rfl rfl) ?_
  refine' aqAnd' [_, _, _, _, _, _] [58,59,60,61,62,63] rfl rfl rfl rfl rfl rfl rfl rfl rfl rfl rfl rfl (fun hb => ?_) ?_; rotate_left
  ·
   (try simp only [hcS] at hb)
   (refine aqP (op_fa_ptr rfl rfl rfl fl35_8 (by exact sz28) (by decide) rfl) ?_)
   (refine aqP (op_fa_ptr rfl rfl rfl fl28_2 (by exact sz26) (by decide) rfl) ?_)
   (refine aqP (op_fa_ptr rfl rfl rfl fl26_2 (by exact sz9) (by decide) rfl) ?_)
   (refine aqR (op_load_ptr1 rfl rfl rfl rfl ag9 rfl rfl) ?_)
   (refine aqP (op_len_str rfl rfl Tryd.underlying9) ?_)
   refine aqP (op_leq rfl rfl rfl) ?_
   (refine aqSeg rfl rfl rfl ?_; repeat (first | exact fun _ _ => rfl | refine upd_out rfl ?_))
  simp only [nA]
  refine aqP (op_assign rfl rfl) ?_
  refine AQ.nil ?_
  (refine hK _ ?_; clear hK K; (simp only [nA]))
  skip
  refine AW.ret ?_; (try simp only [thenE, inBlk, Nat.reduceEqDiff, ↓reduceIte]); rw [show smallE x = smallT x by unfold smallE; rw [all_yes_ hnl hi.2, Bool.true_and]]; exact RQ.of0 rfl (.tmp (bl rfl) rfl rfl .nil)
theorem small_sm {x : Ev} (h : smallE x = true) : x.Sm := by
  unfold smallE smallT at h
  simp only [Bool.and_eq_true, decide_eq_true_eq, List.all_eq_true] at h
  refine ⟨by omega, by omega, by omega, fun r hr => ?_⟩
  have := of_decide_eq_true (h.1 r hr)
  omega
abbrev aw1 : Ev := { ev0 6 with node := 3 }
abbrev aw2 : Ev := { ev0 1 with text := ⟨#[65]⟩ }
theorem aw1_good : Good aw1 := ⟨(by decide : (1 : Int) ≤ 6 ∧ (6 : Int) ≤ 14), rfl, z3, mem1 rfl, rfl⟩
theorem aw2_good : Good aw2 := ⟨(by decide : (1 : Int) ≤ 1 ∧ (1 : Int) ≤ 14), rfl, ⟨by decide, Nat.zero_le _, Nat.zero_le _⟩, mem1 rfl, rfl⟩
theorem aw1_enc : encB aw1 = [6, 0, 0, 0, 3] := by decide
theorem aw2_enc : encB aw2 = [1, 0, 0, 0, 1, 65] := by decide
theorem aw_bad : decV [4, 0, 0, 0, 7, 2] = (ev0 0, 3) := by
  have h : decB [4, 0, 0, 0, 7, 2] = none := rfl
  unfold decV
  dsimp only
  rw [if_neg (by decide), h]
theorem op_seqT {C : Cx} {o : Oper} {ev : Operand → AV} {T : Sl} {t yt : TypeId} {p q : Operand} {x : ByteArray} (ho : o.op = .binOp .eql t p q yt) (hp : ev p = .v (.string x)) (hq : ev q = .v (.string x)) : OpP C o ev T (.v (.bool true)) := by
  have h := op_seql (C := C) (T := T) ho hp hq
  rwa [beq_self_eq_true] at h
theorem le_aw1 : RL Le1 (evC aw1 (.v (.slice none 0 0)) (.v (.slice none 0 0))) aw1.av := by
  repeat (first | exact RL.nil | refine RL.cons Le1.same ?_ | refine RL.cons Le1.nil ?_)
theorem le_aw2 : RL Le1 (evC aw2 (.v (.slice none 0 0)) (.v (.slice none 0 0))) aw2.av := by
  repeat (first | exact RL.nil | refine RL.cons Le1.same ?_ | refine RL.cons Le1.nil ?_)
set_option maxHeartbeats 8000000 in
theorem C19 : Fn Tryd.prog 19 [] [] [.v (.bool true)] [] := by
  have c1 : Fn Tryd.prog 13 [] [.agg aw1.av] [.ro (([6, 0, 0, 0, 3] : BL).map bv), .v (.int .i64 0)] [] := by
    have h := C13 (x := aw1) aw1_good.sm
    rwa [enc_ok aw1_good, aw1_enc] at h
  have c2 : Fn Tryd.prog 13 [] [.agg aw2.av] [.ro (([1, 0, 0, 0, 1, 65] : BL).map bv), .v (.int .i64 0)] [] := by
    have h := C13 (x := aw2) aw2_good.sm
    rwa [enc_ok aw2_good, aw2_enc] at h
  have c3 : Fn Tryd.prog 20 [] [.ro (([6, 0, 0, 0, 3] : BL).map bv)] [.agg aw1.av, .v (.int .i64 0)] [] := by
    have h := C20 (b := [6, 0, 0, 0, 3]) (by decide)
    rwa [show decV [6, 0, 0, 0, 3] = (aw1, 0) by rw [← aw1_enc]; exact dec_enc aw1_good] at h
  have c4 : Fn Tryd.prog 20 [] [.ro (([4, 0, 0, 0, 7, 2] : BL).map bv)] [.agg (ev0 0).av, .v (.int .i64 3)] [] := by
    have h := C20 (b := [4, 0, 0, 0, 7, 2]) (by decide)
    rwa [aw_bad] at h
  refine Spec.body Tryd.func19 rfl Tryd.ntmps19 (by simp) rfl ?_; intro S0 own0 v0 w0 gl
  (refine AW.seq_k ?_; intro K hK)
  refine AW.region ?_
  refine awP (op_assign rfl rfl) ?_
  refine AWL.nil ?_
  (refine hK _ ?_; clear hK K; (try simp only [nA, Nat.reduceBEq, Nat.reduceEqDiff, ↓reduceIte, Nat.reduceAdd, Nat.reduceSub]))
  (refine AW.seq_k ?_; intro K hK)
  refine AW.region ?_
  refine awP (op_build2 (xs := [_, .v (.int .i64 0), .v (.string ⟨#[]⟩), .v (.int .i64 0), .v (.int .i64 0), .v (.int .i64 0), _, .v (.int .i64 0), .v (.bool false), .v (.slice none 0 0), .v (.int .i64 0), .v (.int .i64 0), .v (.string ⟨#[]⟩), .v (.int .i64 0), .v (.string ⟨#[]⟩), .v (.int .i64 0), .v (.int .i64 0), .v (.int .i64 0), .v (.int .i64 0), .v (.int .i64 0), .v (.int .i64 0), .v (.int .i64 0), .v (.int .i64 0), .v (.int .i64 0), .v (.int .i64 0), .v (.int .i64 0), .v (.int .i64 0), .v (.slice none 0 0), .v (.string ⟨#[]⟩), .v (.int .i64 0), .v (.string ⟨#[]⟩), .v (.int .i64 0)]) rfl pl35 ze35 [(0, [_]), (4, [_])] rfl rfl rfl) ?_
  refine AWL.gh (Gh.tmp 10 (cs' := aw1.av) (bl rfl) rfl le_aw1) ?_; (try simp only [nA, Nat.reduceBEq, Nat.reduceEqDiff, ↓reduceIte, Nat.reduceAdd, Nat.reduceSub]); refine awJ (op_call (b := false) rfl en13 c1 (RL.cons (by exact View.same rfl) (RL.nil)) rfl (fun h => by cases h) rfl rfl) ?_; (try simp only [nA, Nat.reduceBEq, Nat.reduceEqDiff, ↓reduceIte, Nat.reduceAdd, Nat.reduceSub])
  refine awP (op_move rfl rfl) ?_
  refine awP (op_extract rfl rfl rfl) ?_
  refine awP (op_extract rfl rfl rfl) ?_
  refine awP (op_assign rfl rfl) ?_
  refine awP (op_assign rfl rfl) ?_
  refine AWL.nil ?_
  (refine hK _ ?_; clear hK K; (simp only [nA, ↓reduceIte]))
  (refine AW.seq_k ?_; intro K hK)
  refine AW.region ?_
  refine awP (op_build2 (xs := [_, .v (.int .i64 0), _, .v (.int .i64 0), .v (.int .i64 0), .v (.int .i64 0), .v (.int .i64 0), .v (.int .i64 0), .v (.bool false), .v (.slice none 0 0), .v (.int .i64 0), .v (.int .i64 0), .v (.string ⟨#[]⟩), .v (.int .i64 0), .v (.string ⟨#[]⟩), .v (.int .i64 0), .v (.int .i64 0), .v (.int .i64 0), .v (.int .i64 0), .v (.int .i64 0), .v (.int .i64 0), .v (.int .i64 0), .v (.int .i64 0), .v (.int .i64 0), .v (.int .i64 0), .v (.int .i64 0), .v (.int .i64 0), .v (.slice none 0 0), .v (.string ⟨#[]⟩), .v (.int .i64 0), .v (.string ⟨#[]⟩), .v (.int .i64 0)]) rfl pl35 ze35 [(0, [_]), (2, [_])] rfl rfl rfl) ?_
  refine AWL.gh (Gh.tmp 15 (cs' := aw2.av) (bl rfl) rfl le_aw2) ?_; (try simp only [nA, Nat.reduceBEq, Nat.reduceEqDiff, ↓reduceIte, Nat.reduceAdd, Nat.reduceSub]); refine awJ (op_call (b := false) rfl en13 c2 (RL.cons (by exact View.same rfl) (RL.nil)) rfl (fun h => by cases h) rfl rfl) ?_; (try simp only [nA, Nat.reduceBEq, Nat.reduceEqDiff, ↓reduceIte, Nat.reduceAdd, Nat.reduceSub])
  refine awP (op_move rfl rfl) ?_
  refine awP (op_extract rfl rfl rfl) ?_
  refine awP (op_extract rfl rfl rfl) ?_
  refine awP (op_assign rfl rfl) ?_
  refine awP (op_assign rfl rfl) ?_
  refine AWL.nil ?_
  (refine hK _ ?_; clear hK K; (simp only [nA, ↓reduceIte]))
  (refine AW.seq_k ?_; intro K hK)
  refine AW.region ?_
  refine awJ (OpJ.frz (op_buildSlice rfl [(0, bv 6), (1, bv 0), (2, bv 0), (3, bv 0), (4, bv 3)] (([6, 0, 0, 0, 3] : BL).map bv) Tryd.underlying43 ze5 rfl (by decide) rfl (bv_len _) rfl (bl rfl) (by decide)) (bv_flat _) rfl) ?_; (try simp only [nA, Nat.reduceBEq, Nat.reduceEqDiff, ↓reduceIte, Nat.reduceAdd, Nat.reduceSub])
  refine awJ (op_call (b := false) rfl en20 (c3) (RL.cons (by exact View.same rfl) (RL.nil)) rfl (fun h => by cases h) rfl rfl) ?_; (try simp only [nA, Nat.reduceBEq, Nat.reduceEqDiff, ↓reduceIte, Nat.reduceAdd, Nat.reduceSub])
  refine awP (op_move rfl rfl) ?_
  refine awP (op_extract rfl rfl rfl) ?_
  refine awP (op_extract rfl rfl rfl) ?_
  refine awJ (op_alloc rfl ze35 rfl) ?_; (simp only [nA, Nat.reduceBEq, Nat.reduceEqDiff, ↓reduceIte])
  refine awJ (op_store rfl rfl rfl rfl rfl rfl sz35 rfl (bl rfl) rfl) ?_; (simp only [nA, Nat.reduceBEq, Nat.reduceEqDiff, ↓reduceIte])
  refine awP (op_assign rfl rfl) ?_
  refine AWL.nil ?_
  (refine hK _ ?_; clear hK K; (simp only [nA, ↓reduceIte]))
  (refine AW.seq_k ?_; intro K hK)
  refine AW.region ?_
  refine awJ (OpJ.frz (op_buildSlice rfl [(0, bv 4), (1, bv 0), (2, bv 0), (3, bv 0), (4, bv 7), (5, bv 2)] (([4, 0, 0, 0, 7, 2] : BL).map bv) Tryd.underlying43 ze5 rfl (by decide) rfl (bv_len _) rfl (bl rfl) (by decide)) (bv_flat _) rfl) ?_; (try simp only [nA, Nat.reduceBEq, Nat.reduceEqDiff, ↓reduceIte, Nat.reduceAdd, Nat.reduceSub])
  refine awJ (op_call (b := false) rfl en20 (c4) (RL.cons (by exact View.same rfl) (RL.nil)) rfl (fun h => by cases h) rfl rfl) ?_; (try simp only [nA, Nat.reduceBEq, Nat.reduceEqDiff, ↓reduceIte, Nat.reduceAdd, Nat.reduceSub])
  refine awP (op_move rfl rfl) ?_
  refine awP (op_extract rfl rfl rfl) ?_
  refine awP (op_extract rfl rfl rfl) ?_
  refine awJ (op_alloc rfl ze35 rfl) ?_; (simp only [nA, Nat.reduceBEq, Nat.reduceEqDiff, ↓reduceIte])
  refine awJ (op_store rfl rfl rfl rfl rfl rfl sz35 rfl (bl rfl) rfl) ?_; (simp only [nA, Nat.reduceBEq, Nat.reduceEqDiff, ↓reduceIte])
  refine awP (op_assign rfl rfl) ?_
  refine AWL.nil ?_
  (refine hK _ ?_; clear hK K; (simp only [nA, ↓reduceIte]))
  (refine AW.seq_k ?_; intro K hK)
  refine AW.region (AWL.quiet ?_)
  refine aqP (op_move rfl rfl) ?_
  (refine aqP (op_eql rfl rfl rfl) ?_)
  refine aqP (op_move rfl rfl) ?_
  refine' aqAnd' [_, _, _] [32,33,34] rfl rfl rfl rfl rfl rfl rfl rfl rfl rfl rfl rfl (fun hb => ?_) ?_; rotate_left
  ·
   (try simp only [hcS] at hb)
   refine aqP (op_move rfl rfl) ?_
   refine aqR (op_b2sR (l := [6, 0, 0, 0, 3]) rfl rfl Tryd.underlying43 Tryd.underlying5 Tryd.underlying9 rfl) ?_
   refine aqP (op_seqT (x := ⟨#[6, 0, 0, 0, 3]⟩) rfl rfl rfl) ?_
   (refine aqSeg rfl rfl rfl ?_; repeat (first | exact fun _ _ => rfl | refine upd_out rfl ?_))
  simp only [nA, ↓reduceIte]
  refine aqP (op_move rfl rfl) ?_
  refine' aqAnd' [_, _] [37,38] rfl rfl rfl rfl rfl rfl rfl rfl rfl rfl rfl rfl (fun hb => ?_) ?_; rotate_left
  ·
   (try simp only [hcS] at hb)
   refine aqP (op_move rfl rfl) ?_
   (refine aqP (op_eql rfl rfl rfl) ?_)
   (refine aqSeg rfl rfl rfl ?_; repeat (first | exact fun _ _ => rfl | refine upd_out rfl ?_))
  simp only [nA]
  refine aqP (op_move rfl rfl) ?_
  refine' aqAnd' [_, _, _] [41,42,43] rfl rfl rfl rfl rfl rfl rfl rfl rfl rfl rfl rfl (fun hb => ?_) ?_; rotate_left
  ·
   (try simp only [hcS] at hb)
   refine aqP (op_move rfl rfl) ?_
   refine aqR (op_b2sR (l := [1, 0, 0, 0, 1, 65]) rfl rfl Tryd.underlying43 Tryd.underlying5 Tryd.underlying9 rfl) ?_
   refine aqP (op_seqT (x := ⟨#[1, 0, 0, 0, 1, 65]⟩) rfl rfl rfl) ?_
   (refine aqSeg rfl rfl rfl ?_; repeat (first | exact fun _ _ => rfl | refine upd_out rfl ?_))
  simp only [nA]
  refine aqP (op_move rfl rfl) ?_
  refine' aqAnd' [_, _] [46,47] rfl rfl rfl rfl rfl rfl rfl rfl rfl rfl rfl rfl (fun hb => ?_) ?_; rotate_left
  ·
   (try simp only [hcS] at hb)
   refine aqP (op_move rfl rfl) ?_
   (refine aqP (op_eql rfl rfl rfl) ?_)
   (refine aqSeg rfl rfl rfl ?_; repeat (first | exact fun _ _ => rfl | refine upd_out rfl ?_))
  simp only [nA]
  refine aqP (op_move rfl rfl) ?_
  refine' aqAnd' [_, _, _] [50,51,52] rfl rfl rfl rfl rfl rfl rfl rfl rfl rfl rfl rfl (fun hb => ?_) ?_; rotate_left
  ·
   (try simp only [hcS] at hb)
   (refine aqP (op_fa_ptr rfl rfl rfl fl35_0 (by exact sz3) (by decide) rfl) ?_)
   (refine aqR (op_load_ptr1 rfl rfl rfl rfl ag3 rfl rfl) ?_)
   (refine aqP (op_eql rfl rfl rfl) ?_)
   (refine aqSeg rfl rfl rfl ?_; repeat (first | exact fun _ _ => rfl | refine upd_out rfl ?_))
  simp only [nA]
  refine aqP (op_move rfl rfl) ?_
  refine' aqAnd' [_, _, _] [55,56,57] rfl rfl rfl rfl rfl rfl rfl rfl rfl rfl rfl rfl (fun hb => ?_) ?_; rotate_left
  ·
   (try simp only [hcS] at hb)
   (refine aqP (op_fa_ptr rfl rfl rfl fl35_4 (by exact sz3) (by decide) rfl) ?_)
   (refine aqR (op_load_ptr1 rfl rfl rfl rfl ag3 rfl rfl) ?_)
   (refine aqP (op_eql rfl rfl rfl) ?_)
   (refine aqSeg rfl rfl rfl ?_; repeat (first | exact fun _ _ => rfl | refine upd_out rfl ?_))
  simp only [nA]
  refine aqP (op_move rfl rfl) ?_
  refine' aqAnd' [_, _] [60,61] rfl rfl rfl rfl rfl rfl rfl rfl rfl rfl rfl rfl (fun hb => ?_) ?_; rotate_left
  ·
   (try simp only [hcS] at hb)
   refine aqP (op_move rfl rfl) ?_
   (refine aqP (op_eql rfl rfl rfl) ?_)
   (refine aqSeg rfl rfl rfl ?_; repeat (first | exact fun _ _ => rfl | refine upd_out rfl ?_))
  simp only [nA]
  refine aqP (op_assign rfl rfl) ?_
  refine AQ.nil ?_
  (refine hK _ ?_; clear hK K; (simp only [nA]))
  skip
  refine AW.ret ?_; (try simp only [thenE, inBlk, Nat.reduceEqDiff, ↓reduceIte]); exact RQ.of0 rfl (.tmp (bl rfl) rfl rfl .nil)
end Go.Proofs.YtfmnaigedgmhoaaDoor
namespace Go.Proofs.YtfmnaigedgmhoaaDoor
open Go.RowKit
set_option linter.unusedSimpArgs false
set_option linter.unusedVariables false
end Go.Proofs.YtfmnaigedgmhoaaDoor
namespace Go.Proofs.YtfmnaigedgmhoaaDoor
open Go.RowKit
set_option linter.unusedSimpArgs false
set_option linter.unusedVariables false
set_option maxRecDepth 100000
theorem hl20 (l : List Int) : (l.take 2000).length ≤ 2000 := by rw [List.length_take]; omega
end Go.Proofs.YtfmnaigedgmhoaaDoor
namespace Go.Proofs.YtfmnaigedgmhoaaDoor
open Go.RowKit
set_option linter.unusedSimpArgs false
set_option linter.unusedVariables false
set_option maxRecDepth 100000
def Ev.Sn (x : Ev) (n : Nat) : Prop := x.reports.length ≤ n ∧ x.ops.length ≤ n ∧ x.text.size ≤ n ∧ ∀ r ∈ x.reports, r.read.size ≤ n
theorem Ev.Sn.sm {x : Ev} {n : Nat} (h : x.Sn n) (hn : n ≤ 1000000) : x.Sm := ⟨Nat.le_trans h.1 hn, Nat.le_trans h.2.1 hn, Nat.le_trans h.2.2.1 hn, fun r hr => Nat.le_trans (h.2.2.2 r hr) hn⟩
theorem Ev.Sn.up {x : Ev} {n m : Nat} (h : x.Sn n) (hn : n ≤ m) : x.Sn m := ⟨Nat.le_trans h.1 hn, Nat.le_trans h.2.1 hn, Nat.le_trans h.2.2.1 hn, fun r hr => Nat.le_trans (h.2.2.2 r hr) hn⟩
theorem Sn.of {x y : Ev} {n : Nat} (h : x.Sn n) (h1 : y.reports = x.reports) (h2 : y.ops = x.ops) (h3 : y.text = x.text) : y.Sn n := by
  unfold Ev.Sn; rw [h1, h2, h3]; exact h
theorem spT_sz : ∀ s ∈ spT, s.size ≤ 10 := by decide
theorem spV_sn {l : List Int} {k n : Nat} {x : Ev} (h : x.Sn n) (hn : 10 ≤ n) : (spV l k x).1.Sn (n + 1) := by
  have h' := h.up (Nat.le_succ n)
  by_cases h0 : spJ l k = 0
  · rw [spV_a h0]
    exact Sn.of h' rfl rfl rfl
  by_cases h1 : spJ l k = 1
  · rw [spV_b h1]
    exact Sn.of h' rfl rfl rfl
  by_cases h2 : spJ l k = 2
  · rw [spV_c h2]
    exact ⟨h'.1, h'.2.1, by show (x.text ++ ⟨#[120]⟩).size ≤ _; rw [ByteArray.size_append]; exact Nat.succ_le_succ h.2.2.1, h'.2.2.2⟩
  by_cases h3 : spJ l k = 3
  · rw [spV_d h3]
    exact Sn.of h' rfl rfl rfl
  by_cases h4 : spJ l k = 4
  · rw [spV_e h4]
    exact Sn.of h' rfl rfl rfl
  by_cases h5 : spJ l k = 5
  · rw [spV_f h5]
    exact Sn.of h' rfl rfl rfl
  by_cases h6 : spJ l k = 6
  · rw [spV_g h6]
    exact Sn.of h' rfl rfl rfl
  by_cases h7 : spJ l k = 7
  · rw [spV_h h7]
    refine ⟨by simp only [List.length_append, List.length_singleton]; exact Nat.succ_le_succ h.1, h'.2.1, h'.2.2.1, fun r hr => ?_⟩
    rcases List.mem_append.1 hr with hr | hr
    · exact h'.2.2.2 r hr
    rw [List.mem_singleton.1 hr]
    exact Nat.le_trans (spT_sz _ (textV_mem (by decide))) (by omega)
  by_cases h8 : spJ l k = 8
  · rw [spV_i h8]
    exact Sn.of h' rfl rfl rfl
  by_cases h9 : spJ l k = 9
  · rw [spV_j h9]
    exact Sn.of h' rfl rfl rfl
  by_cases h10 : spJ l k = 10
  · rw [spV_k h10]
    exact Sn.of h' rfl rfl rfl
  by_cases h11 : spJ l k = 11
  · rw [spV_l h11]
    exact ⟨h'.1, by simp only [List.length_append, List.length_singleton]; exact Nat.succ_le_succ h.2.1, h'.2.2⟩
  rw [spV_m (by omega)]
  exact Sn.of h' rfl rfl rfl
theorem Good.sn {x : Ev} (h : Good x) : x.Sn 2500 := by
  have hl := h.lim
  refine ⟨by omega, by omega, by omega, fun r hr => ?_⟩
  by_cases h6 : 6 ∈ fieldsL x.kind
  · have := (rp_good (List.all_eq_true.1 (h.pr 6 h6) r hr)).2
    omega
  have h0 : x.reports = [] := by
    have := (only_lists (fieldsL x.kind) x (ev0 x.kind)).1 h6
    rw [show onlyP (fieldsL x.kind) x (ev0 x.kind) = x from h.only.symm] at this
    exact this
  rw [h0] at hr; cases hr
end Go.Proofs.YtfmnaigedgmhoaaDoor
namespace Go.Proofs.YtfmnaigedgmhoaaDoor
open Go.RowKit
set_option linter.unusedSimpArgs false
set_option linter.unusedVariables false
set_option maxRecDepth 100000
section
variable {C : Cx} {o : Oper} {ev : Operand → AV} {T : Sl} {t yt : TypeId} {p q : Operand} {x y : Bool}
end
end Go.Proofs.YtfmnaigedgmhoaaDoor
namespace Go.Proofs.YtfmnaigedgmhoaaDoor
open Go.RowKit
set_option linter.unusedSimpArgs false
set_option linter.unusedVariables false
set_option maxRecDepth 100000
theorem Ev.Sm.sn {x : Ev} (h : x.Sm) : x.Sn 1000000 := ⟨h.r, h.o, h.t, h.rr⟩
theorem setP_sn {p n : Nat} {x y : Ev} (hx : x.Sn n) (hy : y.Sn n) : (setP p x y).Sn n := by
  match p with
  | 0 => exact Sn.of hy rfl rfl rfl
  | 1 => exact ⟨hy.1, hy.2.1, hx.2.2.1, hy.2.2.2⟩
  | 2 => exact Sn.of hy rfl rfl rfl
  | 3 => exact Sn.of hy rfl rfl rfl
  | 4 => exact Sn.of hy rfl rfl rfl
  | 5 => exact Sn.of hy rfl rfl rfl
  | 6 => exact ⟨hx.1, hy.2.1, hy.2.2.1, hx.2.2.2⟩
  | 7 => exact Sn.of hy rfl rfl rfl
  | 8 => exact Sn.of hy rfl rfl rfl
  | 9 => exact Sn.of hy rfl rfl rfl
  | 10 => exact ⟨hy.1, hx.2.1, hy.2.2⟩
  | 11 => exact Sn.of hy rfl rfl rfl
  | _ + 12 => exact hy
theorem onlyP_sn {n : Nat} {x : Ev} (hx : x.Sn n) : ∀ (l : List Nat) {y : Ev}, y.Sn n → (onlyP l x y).Sn n
  | [], _, hy => hy
  | _ :: l, _, hy => onlyP_sn hx l (setP_sn hx hy)
theorem onlyV_sm {x : Ev} (h : x.Sm) : (onlyV x).Sm :=
  (onlyP_sn h.sn _ ⟨Nat.zero_le _, Nat.zero_le _, Nat.zero_le _, fun r hr => by cases hr⟩).sm (Nat.le_refl _)
theorem evv_flat (ls : List Ev) : ∀ r ∈ ls.map Ev.av, ∀ c ∈ r, flatA c = true := fun r hr c hc => by
  obtain ⟨x, _, rfl⟩ := List.mem_map.1 hr
  exact List.all_eq_true.1 (show x.av.all flatA = true from rfl) c hc
theorem evv_len (ls : List Ev) : ∀ r ∈ ls.map Ev.av, r.length = 32 := fun r hr => by
  obtain ⟨x, _, rfl⟩ := List.mem_map.1 hr; rfl
theorem two_false {a b : Bool} (h : (!a || !b) = false) : a = true ∧ b = true := by cases a <;> cases b <;> simp_all
abbrev lsE (l : List Int) (raw other : Ev) : List Ev :=
  let g := evV l 0; let s := spV l g.2 g.1; let t := spV l s.2 g.1; let u := spV l t.2 t.1
  [raw, other, onlyV raw, g.1, s.1, u.1]
theorem lsE_sm {l : List Int} {raw other : Ev} (h1 : raw.Sm) (h2 : other.Sm) : ∀ x ∈ lsE l raw other, x.Sm := fun x hx => by
  have hg := (ev_good l 0).sn
  simp only [lsE, List.mem_cons, List.not_mem_nil, or_false] at hx
  rcases hx with rfl | rfl | rfl | rfl | rfl | rfl
  · exact h1
  · exact h2
  · exact onlyV_sm h1
  · exact hg.sm (by decide)
  · exact (spV_sn hg (by decide)).sm (by decide)
  exact (spV_sn (spV_sn hg (by decide)) (by decide)).sm (by decide)
theorem get_ex {LS : List Ev} {i : Nat} (h : i < LS.length) : ∃ x, LS[i]? = some x := ⟨_, List.getElem?_eq_getElem h⟩
theorem get_av {LS : List Ev} {i : Nat} {x : Ev} (h : LS[i]? = some x) : (LS.map Ev.av)[i]? = some x.av := by rw [List.getElem?_map, h]; rfl
def numb : Nat → List (List AV) → List (Nat × List AV)
  | _, [] => []
  | k, r :: rs => (k, r) :: numb (k + 1) rs
theorem numb_r {sz : Nat} : ∀ (rows : List (List AV)) (k : Nat), (∀ r ∈ rows, r.length = sz) → ∀ p ∈ numb k rows, p.2.length = sz ∧ p.1 * sz + sz ≤ (k + rows.length) * sz
  | [], _, _, p, hp => by cases hp
  | r :: rs, k, h, p, hp => by
    rcases List.mem_cons.1 hp with rfl | hp
    · refine ⟨h r (by simp), ?_⟩
      rw [← Nat.succ_mul]
      exact Nat.mul_le_mul_right _ (by rw [List.length_cons]; omega)
    have := numb_r rs (k + 1) (fun r hr => h r (by simp [hr])) p hp
    rw [List.length_cons, show k + (rs.length + 1) = k + 1 + rs.length by omega]
    exact this
theorem numb_f {sz : Nat} {z : AV} : ∀ (rows : List (List AV)) (k : Nat) (pre : List AV), pre.length = k * sz → (∀ r ∈ rows, r.length = sz) → (numb k rows).foldl (fun cs p => splice cs (p.1 * sz) p.2) (pre ++ List.replicate (rows.length * sz) z) = pre ++ rows.flatten
  | [], _, pre, _, _ => by simp [numb]
  | r :: rs, k, pre, hp, h => by
    have hr : r.length = sz := h r (by simp)
    have e : splice (pre ++ List.replicate ((r :: rs).length * sz) z) (k * sz) r = (pre ++ r) ++ List.replicate (rs.length * sz) z := by
      unfold splice
      rw [← hp, List.take_left, hr, List.drop_append, List.drop_eq_nil_of_le (Nat.le_add_right _ _), List.nil_append, Nat.add_sub_cancel_left, List.drop_replicate, List.length_cons, Nat.succ_mul, Nat.add_sub_cancel]
    show (numb (k + 1) rs).foldl _ (splice (pre ++ List.replicate ((r :: rs).length * sz) z) (k * sz) r) = _
    rw [e, numb_f rs (k + 1) (pre ++ r) (by rw [List.length_append, hp, hr, Nat.succ_mul]) (fun r hr => h r (by simp [hr])), List.flatten_cons, List.append_assoc]
theorem bs6_r (a b c d e f : Ev) : ∀ p ∈ [(0, a.av), (1, b.av), (2, c.av), (3, d.av), (4, e.av), (5, f.av)], p.2.length = 32 ∧ p.1 * 32 + 32 ≤ 6 * 32 :=
  numb_r (sz := 32) ([a, b, c, d, e, f].map Ev.av) 0 (evv_len _)
theorem bs6_s (a b c d e f : Ev) : [(0, a.av), (1, b.av), (2, c.av), (3, d.av), (4, e.av), (5, f.av)].foldl (fun cs p => splice cs (p.1 * 32) p.2) (List.replicate (6 * 32) .any) = ([a, b, c, d, e, f].map Ev.av).flatten :=
  numb_f (sz := 32) (z := .any) ([a, b, c, d, e, f].map Ev.av) 0 [] rfl (evv_len _)
set_option maxHeartbeats 8000000 in
theorem C3 {l : List Int} {raw other : Ev} : Fn Tryd.prog 3 [] [.agg raw.av, .agg other.av, .ro (l.map iv)] [.v (.bool true)] [] := by
  refine Spec.body Tryd.func3 rfl Tryd.ntmps3 (by simp) rfl ?_; intro S0 own0 v0 w0 gl
  (refine AW.seq_k ?_; intro K hK)
  refine AW.region ?_
  refine awJ (op_box rfl rfl rfl sz35 rfl) ?_; (simp only [nA, Nat.reduceBEq, Nat.reduceEqDiff, ↓reduceIte])
  refine awJ (op_box rfl rfl rfl sz35 rfl) ?_; (simp only [nA, Nat.reduceBEq, Nat.reduceEqDiff, ↓reduceIte])
  refine awP (op_assign rfl rfl) ?_; (try simp only [nA, Nat.reduceBEq, Nat.reduceEqDiff, ↓reduceIte, Nat.reduceAdd, Nat.reduceSub])
  refine AWL.nil ?_
  (refine hK _ ?_; clear hK K; (try simp only [nA, Nat.reduceBEq, Nat.reduceEqDiff, ↓reduceIte, Nat.reduceAdd, Nat.reduceSub]))
  (refine AW.seq_k ?_; intro K hK)
  (refine AW.seq_k ?_; intro K hK)
  refine AW.region (AWL.quiet ?_)
  (refine aqR (op_load_ptr rfl rfl rfl rfl ag35 sz35 (bl rfl) rfl) ?_); (try simp only [nA, Nat.reduceBEq, Nat.reduceEqDiff, ↓reduceIte, Nat.reduceAdd, Nat.reduceSub])
  refine aqQ (op_callQ (b := true) rfl en8 (C8) (RL.cons (by exact View.same rfl) (RL.nil)) rfl) ?_; (try simp only [nA, Nat.reduceBEq, Nat.reduceEqDiff, ↓reduceIte, Nat.reduceAdd, Nat.reduceSub])
  refine aqP (op_not rfl rfl rfl) ?_; (try simp only [nA, Nat.reduceBEq, Nat.reduceEqDiff, ↓reduceIte, Nat.reduceAdd, Nat.reduceSub])
  refine aqP (op_move rfl rfl) ?_; (simp only [nA])
  refine' aqOr' [_, _, _] [22,23,24] rfl rfl rfl rfl rfl rfl rfl rfl rfl rfl rfl rfl (fun hb => ?_) ?_; rotate_left
  ·
   (try simp only [hcS] at hb)
   (refine aqR (op_load_ptr rfl rfl rfl rfl ag35 sz35 (bl rfl) rfl) ?_); (try simp only [nA, Nat.reduceBEq, Nat.reduceEqDiff, ↓reduceIte, Nat.reduceAdd, Nat.reduceSub])
   refine aqQ (op_callQ (b := true) rfl en8 (C8) (RL.cons (by exact View.same rfl) (RL.nil)) rfl) ?_; (try simp only [nA, Nat.reduceBEq, Nat.reduceEqDiff, ↓reduceIte, Nat.reduceAdd, Nat.reduceSub])
   refine aqP (op_not rfl rfl rfl) ?_; (try simp only [nA, Nat.reduceBEq, Nat.reduceEqDiff, ↓reduceIte, Nat.reduceAdd, Nat.reduceSub])
   (refine aqSeg rfl rfl rfl ?_; repeat (first | exact fun _ _ => rfl | refine upd_out rfl ?_))
  refine AQ.nil ?_
  (refine hK _ ?_; clear hK K; (skip))
  refine AW.cond rfl rfl rfl (fun hc => ?_) (fun hc => ?_)
  ·
   have hc1 := hc
   (refine AW.seq_k ?_; intro K hK)
   refine AW.region ?_
   refine awP (op_assign rfl rfl) ?_; (try simp only [nA, Nat.reduceBEq, Nat.reduceEqDiff, ↓reduceIte, Nat.reduceAdd, Nat.reduceSub])
   refine AWL.nil ?_
   (refine hK _ ?_; clear hK K; (skip))
   skip
   refine AW.ret ?_; (try simp only [thenE, inBlk, Nat.reduceEqDiff, ↓reduceIte]); exact RQ.of0 rfl (.tmp (bl rfl) rfl rfl .nil)
  have hc1 := hc; obtain ⟨hr1, ho1⟩ := two_false hc1; have hG := ev_good (l.take 2000) 0; obtain ⟨LS, hLS⟩ : ∃ LS, LS = lsE (l.take 2000) raw other := ⟨_, rfl⟩; have hsm : ∀ x ∈ LS, x.Sm := (by rw [hLS]; exact lsE_sm (small_sm hr1) (small_sm ho1)); have hlen : LS.length = 6 := (by rw [hLS]; rfl)
  refine AW.skip ?_
  (refine hK _ ?_; clear hK K; (skip))
  (refine AW.seq_k ?_; intro K hK)
  refine AW.region ?_
  refine awP (op_move rfl rfl) ?_; (simp only [nA, Nat.reduceEqDiff, ↓reduceIte])
  refine awJ (op_callB rfl en9 (C9) (RL.cons (by exact View.same rfl) (RL.nil))) ?_; (simp only [nA, Nat.reduceBEq, Nat.reduceEqDiff, ↓reduceIte])
  refine awP (op_assign rfl rfl) ?_; (simp only [nA])
  refine AWL.nil ?_
  (refine hK _ ?_; clear hK K; (skip))
  (refine AW.seq_k ?_; intro K hK)
  refine AW.region ?_
  refine awP (op_move rfl rfl) ?_; (simp only [nA])
  refine awJ (op_call1 rfl en10 (C10 (l := (l.take 2000)) (k := 0) (hl20 l)) (by exact rfl) (RL.cons .ptr (RL.nil)) (by exact ⟨_, _, _, rfl, rfl, rfl⟩) (by exact rfl) (by exact rfl) (by exact rfl)) ?_; (try simp only [nA, Nat.reduceBEq, Nat.reduceEqDiff, ↓reduceIte, Nat.reduceAdd, Nat.reduceSub])
  refine awJ (op_alloc rfl ze35 rfl) ?_; (simp only [nA, Nat.reduceBEq, Nat.reduceEqDiff, ↓reduceIte])
  refine awJ (op_store rfl rfl rfl rfl rfl rfl sz35 rfl (bl rfl) rfl) ?_; (simp only [nA, Nat.reduceBEq, Nat.reduceEqDiff, ↓reduceIte])
  refine AWL.nil ?_
  (refine hK _ ?_; clear hK K; (skip))
  (refine AW.seq_k ?_; intro K hK)
  refine AW.ad [(0, 1, .own 35 [raw.av]), (1, 2, .own 35 [other.av]), (3, 4, .own 35 [(evV (l.take 2000) 0).1.av])] mix rfl ?_
  (refine adR 0 rfl (fun T' ok => op_load_ptr rfl rfl (by exact ok.1) rfl ag35 sz35 (bl rfl) rfl) (by exact ⟨rfl, rfl, rfl, trivial⟩) (by kernel_rfl) (by kernel_rfl) ?_); (simp only [nA, Nat.reduceBEq, Nat.reduceEqDiff, ↓reduceIte])
  (refine adR 1 rfl (fun T' ok => op_load_ptr rfl rfl (by exact ok.2.1) rfl ag35 sz35 (bl rfl) rfl) (by exact ⟨rfl, rfl, rfl, trivial⟩) (by kernel_rfl) (by kernel_rfl) ?_); (try simp only [nA, Nat.reduceBEq, Nat.reduceEqDiff, ↓reduceIte, Nat.reduceAdd, Nat.reduceSub])
  (refine adR 2 rfl (fun T' ok => op_load_ptr rfl rfl (by exact ok.1) rfl ag35 sz35 (bl rfl) rfl) (by exact ⟨rfl, rfl, rfl, trivial⟩) (by kernel_rfl) (by kernel_rfl) ?_); (try simp only [nA, Nat.reduceBEq, Nat.reduceEqDiff, ↓reduceIte, Nat.reduceAdd, Nat.reduceSub])
  (refine adR 4 rfl (fun T' ok => op_load_ptr rfl rfl (by exact ok.2.2.1) rfl ag35 sz35 (bl rfl) rfl) (by exact ⟨rfl, rfl, rfl, trivial⟩) (by kernel_rfl) (by kernel_rfl) ?_); (try simp only [nA, Nat.reduceBEq, Nat.reduceEqDiff, ↓reduceIte, Nat.reduceAdd, Nat.reduceSub])
  refine adP 5 rfl (fun T' ok => op_move rfl rfl) (by exact ⟨rfl, rfl, rfl, trivial⟩) (by kernel_rfl) (by kernel_rfl) ?_; (simp only [nA, ↓reduceIte])
  (refine adR 6 rfl (fun T' ok => op_load_ptr rfl rfl (by exact ok.2.2.1) rfl ag35 sz35 (bl rfl) rfl) (by exact ⟨rfl, rfl, rfl, trivial⟩) (by kernel_rfl) (by kernel_rfl) ?_); (try simp only [nA, Nat.reduceBEq, Nat.reduceEqDiff, ↓reduceIte, Nat.reduceAdd, Nat.reduceSub])
  refine adP 8 rfl (fun T' ok => op_move rfl rfl) (by exact ⟨rfl, rfl, rfl, trivial⟩) (by kernel_rfl) (by kernel_rfl) ?_; (simp only [nA, ↓reduceIte])
  refine adP 9 rfl (fun T' ok => op_move rfl rfl) (by exact ⟨rfl, rfl, rfl, trivial⟩) (by kernel_rfl) (by kernel_rfl) ?_; (simp only [nA, ↓reduceIte])
  (refine adR 10 rfl (fun T' ok => op_load_ptr rfl rfl (by exact ok.2.2.1) rfl ag35 sz35 (bl rfl) rfl) (by exact ⟨rfl, rfl, rfl, trivial⟩) (by kernel_rfl) (by kernel_rfl) ?_); (try simp only [nA, Nat.reduceBEq, Nat.reduceEqDiff, ↓reduceIte, Nat.reduceAdd, Nat.reduceSub])
  refine adF 3 rfl (fun T' ok => op_callS rfl en11 (C11) (RL.cons (by exact View.same rfl) (RL.nil)) rfl rfl rfl) (by exact ⟨rfl, rfl, rfl, trivial⟩) (by kernel_rfl) (by kernel_rfl) ?_; (try simp only [nA, Nat.reduceBEq, Nat.reduceEqDiff, ↓reduceIte, Nat.reduceAdd, Nat.reduceSub])
  refine adJ 7 rfl (op_call1 rfl en12 (C12 (l := (l.take 2000)) (k := (evV (l.take 2000) 0).2) (x := (evV (l.take 2000) 0).1) (hl20 l) hG.sm) (by exact rfl) (RL.cons .ptr (RL.cons (.base (by exact View.same rfl)) (RL.nil))) (by exact ⟨_, _, _, rfl, rfl, rfl⟩) (by exact rfl) (by exact rfl) (by exact rfl)) (by kernel_rfl) (by exact ⟨rfl, rfl, rfl, trivial⟩) ?_; (try simp only [nA, Nat.reduceBEq, Nat.reduceEqDiff, ↓reduceIte, Nat.reduceAdd, Nat.reduceSub])
  refine adJ 11 rfl (op_call1 rfl en12 (C12 (l := (l.take 2000)) (k := (spV (l.take 2000) (evV (l.take 2000) 0).2 (evV (l.take 2000) 0).1).2) (x := (evV (l.take 2000) 0).1) (hl20 l) hG.sm) (by exact rfl) (RL.cons .ptr (RL.cons (.base (by exact View.same rfl)) (RL.nil))) (by exact ⟨_, _, _, rfl, rfl, rfl⟩) (by exact rfl) (by exact rfl) (by exact rfl)) (by kernel_rfl) (by exact ⟨rfl, rfl, rfl, trivial⟩) ?_; (try simp only [nA, Nat.reduceBEq, Nat.reduceEqDiff, ↓reduceIte, Nat.reduceAdd, Nat.reduceSub])
  refine adJ 12 rfl (op_call1 rfl en12 (C12 (l := (l.take 2000)) (k := (spV (l.take 2000) (spV (l.take 2000) (evV (l.take 2000) 0).2 (evV (l.take 2000) 0).1).2 (evV (l.take 2000) 0).1).2) (x := (spV (l.take 2000) (spV (l.take 2000) (evV (l.take 2000) 0).2 (evV (l.take 2000) 0).1).2 (evV (l.take 2000) 0).1).1) (hl20 l) ((spV_sn hG.sn (by decide)).sm (by decide))) (by exact rfl) (RL.cons .ptr (RL.cons (.base (by exact View.same rfl)) (RL.nil))) (by exact ⟨_, _, _, rfl, rfl, rfl⟩) (by exact rfl) (by exact rfl) (by exact rfl)) (by kernel_rfl) (by exact ⟨rfl, rfl, rfl, trivial⟩) ?_; (try simp only [nA, Nat.reduceBEq, Nat.reduceEqDiff, ↓reduceIte, Nat.reduceAdd, Nat.reduceSub])
  refine adJ 13 rfl (OpJ.frz (op_buildSlice rfl [(0, raw.av), (1, other.av), (2, (onlyV raw).av), (3, (evV (l.take 2000) 0).1.av), (4, (spV (l.take 2000) (evV (l.take 2000) 0).2 (evV (l.take 2000) 0).1).1.av), (5, (spV (l.take 2000) (spV (l.take 2000) (spV (l.take 2000) (evV (l.take 2000) 0).2 (evV (l.take 2000) 0).1).2 (evV (l.take 2000) 0).1).2 (spV (l.take 2000) (spV (l.take 2000) (evV (l.take 2000) 0).2 (evV (l.take 2000) 0).1).2 (evV (l.take 2000) 0).1).1).1.av)] (LS.map Ev.av) Tryd.underlying42 ze35 rfl (bs6_r _ _ _ _ _ _) (by rw [hLS]; exact bs6_s _ _ _ _ _ _) (evv_len _) (by rw [List.length_map, hlen]) (bl rfl) (by decide)) (evv_flat _) (by rw [List.length_map, hlen])) (by kernel_rfl) (by exact ⟨rfl, rfl, rfl, trivial⟩) ?_; (try simp only [nA, Nat.reduceBEq, Nat.reduceEqDiff, ↓reduceIte, Nat.reduceAdd, Nat.reduceSub])
  refine adP 14 rfl (fun T' ok => op_assign rfl rfl) (by exact ⟨rfl, rfl, rfl, trivial⟩) (by kernel_rfl) (by kernel_rfl) ?_; (simp only [nA])
  refine adDone (by kernel_rfl) ?_
  (refine hK _ ?_; clear hK K; (skip))
  (refine AW.seq_k ?_; intro K hK)
  (refine AW.seq_k ?_; intro K hK)
  refine AW.region ?_
  refine awP (op_move rfl rfl) ?_; (simp only [nA])
  refine awP (op_len_ro (n := LS.length) rfl rfl Tryd.underlying42 (.inr (.inl ⟨_, rfl, by simp⟩))) ?_; (try simp only [nA, Nat.reduceBEq, Nat.reduceEqDiff, ↓reduceIte, Nat.reduceAdd, Nat.reduceSub])
  refine awP (op_move rfl rfl) ?_; (try simp only [nA, Nat.reduceBEq, Nat.reduceEqDiff, ↓reduceIte, Nat.reduceAdd, Nat.reduceSub])
  refine AWL.nil ?_
  (refine hK _ ?_; clear hK K; (skip))
  refine AW.block ?_
  refine AW.loopI (fun (q : Nat × Nat) => [(9, .ro (LS.map Ev.av)), (44, .ro (LS.map Ev.av)), (45, .v (.int .i64 LS.length)), (46, .v (.int .i64 (q.1 : Nat)))]) (fun q => ⟨[(1, .own 35 [raw.av]), (2, .own 35 [other.av]), (3, .own 68 [srcRow (l.take 2000) (spV (l.take 2000) (spV (l.take 2000) (spV (l.take 2000) (evV (l.take 2000) 0).2 (evV (l.take 2000) 0).1).2 (evV (l.take 2000) 0).1).2 (spV (l.take 2000) (spV (l.take 2000) (evV (l.take 2000) 0).2 (evV (l.take 2000) 0).1).2 (evV (l.take 2000) 0).1).1).2]), (4, .own 35 [(evV (l.take 2000) 0).1.av])], q.2⟩) (fun q => q.1 ≤ 6) (fun q => 6 - q.1) (0, _) (by simp) ⟨rfl, rfl, rfl, rfl, trivial⟩ rfl ?_; rintro ⟨i, ep⟩ ρ hi; dsimp only at hi ⊢; simp only [updL]
  (refine AW.seq_k ?_; intro K hK)
  refine AW.region ?_
  refine awP (op_lss rfl rfl rfl) ?_; (try simp only [nA, Nat.reduceBEq, Nat.reduceEqDiff, ↓reduceIte, Nat.reduceAdd, Nat.reduceSub])
  refine AWL.nil ?_
  (refine hK _ ?_; clear hK K; (skip))
  (refine AW.seq_k ?_; intro K hK)
  refine AW.cond rfl rfl rfl (fun hc => ?_) (fun hc => ?_)
  ·
   have hc2 := hc; have hlt : i < 6 := (by have := of_decide_eq_true hc2; omega); obtain ⟨x, hx⟩ := get_ex (LS := LS) (i := i) (by omega); have hxs := hsm x (List.mem_of_getElem? hx)
   refine AW.skip ?_
   (refine hK _ ?_; clear hK K; (skip))
   (refine AW.seq_k ?_; intro K hK)
   refine AW.block ?_
   (refine AW.seq_k ?_; intro K hK)
   refine AW.region ?_
   refine awP (op_ia_ro i rfl (.inl rfl) rfl Tryd.underlying42 rfl (get_av hx) (by exact sz35) (bl rfl)) ?_; (try simp only [nA, Nat.reduceBEq, Nat.reduceEqDiff, ↓reduceIte, Nat.reduceAdd, Nat.reduceSub])
   (refine awR (op_load_rop rfl rfl ag35 sz35 (bl rfl) (by decide) rfl) ?_); (try simp only [nA, Nat.reduceBEq, Nat.reduceEqDiff, ↓reduceIte, Nat.reduceAdd, Nat.reduceSub])
   refine awJ (op_alloc rfl ze35 rfl) ?_; (simp only [nA, Nat.reduceBEq, Nat.reduceEqDiff, ↓reduceIte])
   refine awJ (op_store rfl rfl rfl rfl rfl rfl sz35 rfl (bl rfl) rfl) ?_; (simp only [nA, Nat.reduceBEq, Nat.reduceEqDiff, ↓reduceIte])
   refine AWL.nil ?_
   (refine hK _ ?_; clear hK K; (skip))
   (refine AW.seq_k ?_; intro K hK)
   refine AW.region ?_
   (refine awR (op_load_ptr rfl rfl rfl rfl ag35 sz35 (bl rfl) rfl) ?_); (try simp only [nA, Nat.reduceBEq, Nat.reduceEqDiff, ↓reduceIte, Nat.reduceAdd, Nat.reduceSub])
   refine awJ (op_call (b := false) rfl en13 (C13 (x := x) hxs) (RL.cons (by exact View.same rfl) (RL.nil)) rfl (fun h => by cases h) rfl rfl) ?_; (try simp only [nA, Nat.reduceBEq, Nat.reduceEqDiff, ↓reduceIte, Nat.reduceAdd, Nat.reduceSub])
   refine awP (op_move rfl rfl) ?_; (simp only [nA])
   refine awP (op_extract rfl rfl rfl) ?_; (try simp only [nA, Nat.reduceBEq, Nat.reduceEqDiff, ↓reduceIte, Nat.reduceAdd, Nat.reduceSub])
   refine awP (op_extract rfl rfl rfl) ?_; (try simp only [nA, Nat.reduceBEq, Nat.reduceEqDiff, ↓reduceIte, Nat.reduceAdd, Nat.reduceSub])
   refine awP (op_assign rfl rfl) ?_; (simp only [nA, ↓reduceIte])
   refine awP (op_assign rfl rfl) ?_; (simp only [nA, ↓reduceIte])
   refine AWL.nil ?_
   (refine hK _ ?_; clear hK K; (skip))
   (refine AW.seq_k ?_; intro K hK)
   refine AW.region ?_
   (refine awR (op_load_ptr rfl rfl rfl rfl ag35 sz35 (bl rfl) rfl) ?_); (try simp only [nA, Nat.reduceBEq, Nat.reduceEqDiff, ↓reduceIte, Nat.reduceAdd, Nat.reduceSub])
   refine awJ (op_call (b := false) rfl en14 (C14 (x := x) hxs) (RL.cons (by exact View.same rfl) (RL.nil)) rfl (fun h => by cases h) rfl rfl) ?_; (try simp only [nA, Nat.reduceBEq, Nat.reduceEqDiff, ↓reduceIte, Nat.reduceAdd, Nat.reduceSub])
   refine awP (op_move rfl rfl) ?_; (simp only [nA])
   refine awP (op_extract rfl rfl rfl) ?_; (try simp only [nA, Nat.reduceBEq, Nat.reduceEqDiff, ↓reduceIte, Nat.reduceAdd, Nat.reduceSub])
   refine awP (op_extract rfl rfl rfl) ?_; (try simp only [nA, Nat.reduceBEq, Nat.reduceEqDiff, ↓reduceIte, Nat.reduceAdd, Nat.reduceSub])
   refine awP (op_assign rfl rfl) ?_; (simp only [nA, ↓reduceIte])
   refine awP (op_assign rfl rfl) ?_; (simp only [nA, ↓reduceIte])
   refine AWL.nil ?_
   (refine hK _ ?_; clear hK K; (skip))
   (refine AW.seq_k ?_; intro K hK)
   (refine AW.seq_k ?_; intro K hK)
   refine AW.quiet mix (by kernel_rfl) ?_
   (refine aqR (op_load_ptr rfl rfl rfl rfl ag35 sz35 (bl rfl) rfl) ?_); (try simp only [nA, Nat.reduceBEq, Nat.reduceEqDiff, ↓reduceIte, Nat.reduceAdd, Nat.reduceSub])
   refine aqQ (op_callQ (b := true) rfl en15 (C15 (x := x) hxs) (RL.cons (by exact View.same rfl) (RL.nil)) rfl) ?_; (try simp only [nA, Nat.reduceBEq, Nat.reduceEqDiff, ↓reduceIte, Nat.reduceAdd, Nat.reduceSub])
   (refine aqR (op_load_ptr rfl rfl rfl rfl ag35 sz35 (bl rfl) rfl) ?_); (try simp only [nA, Nat.reduceBEq, Nat.reduceEqDiff, ↓reduceIte, Nat.reduceAdd, Nat.reduceSub])
   refine aqQ (op_callQ (b := true) rfl en16 (C16 (x := x) hxs) (RL.cons (by exact View.same rfl) (RL.nil)) rfl) ?_; (try simp only [nA, Nat.reduceBEq, Nat.reduceEqDiff, ↓reduceIte, Nat.reduceAdd, Nat.reduceSub])
   (refine aqP (op_neq rfl rfl rfl) ?_); (try simp only [nA, Nat.reduceBEq, Nat.reduceEqDiff, ↓reduceIte, Nat.reduceAdd, Nat.reduceSub])
   refine aqP (op_move rfl rfl) ?_; (simp only [nA])
   refine' aqOr' [_, _, _] [66,67,68] rfl rfl rfl rfl rfl rfl rfl rfl rfl rfl rfl rfl (fun hb => ?_) ?_; rotate_left
   ·
    (try simp only [hcS] at hb)
    refine aqP (op_move rfl rfl) ?_; (simp only [nA, ↓reduceIte])
    refine aqP (op_move rfl rfl) ?_; (simp only [nA, ↓reduceIte])
    (refine aqP (op_neq rfl rfl rfl) ?_); (try simp only [nA, Nat.reduceBEq, Nat.reduceEqDiff, ↓reduceIte, Nat.reduceAdd, Nat.reduceSub])
    (refine aqSeg rfl rfl rfl ?_; repeat (first | exact fun _ _ => rfl | refine upd_out rfl ?_))
   refine aqP (op_move rfl rfl) ?_; (simp only [nA])
   refine' aqOr' [_, _, _, _, _] [71,72,73,74,75] rfl rfl rfl rfl rfl rfl rfl rfl rfl rfl rfl rfl (fun hb => ?_) ?_; rotate_left
   ·
    (try simp only [hcS] at hb)
    refine aqP (op_move rfl rfl) ?_; (simp only [nA, Nat.reduceEqDiff, ↓reduceIte])
    refine aqR (op_b2sR (l := (encV x).1) rfl rfl Tryd.underlying43 Tryd.underlying5 Tryd.underlying9 rfl) ?_; (try simp only [nA, Nat.reduceBEq, Nat.reduceEqDiff, ↓reduceIte, Nat.reduceAdd, Nat.reduceSub])
    refine aqP (op_move rfl rfl) ?_; (simp only [nA, Nat.reduceEqDiff, ↓reduceIte])
    refine aqR (op_b2sR (l := (encV x).1) rfl rfl Tryd.underlying43 Tryd.underlying5 Tryd.underlying9 rfl) ?_; (try simp only [nA, Nat.reduceBEq, Nat.reduceEqDiff, ↓reduceIte, Nat.reduceAdd, Nat.reduceSub])
    (refine aqP (op_sneq rfl rfl rfl) ?_); (try simp only [nA, Nat.reduceBEq, Nat.reduceEqDiff, ↓reduceIte, Nat.reduceAdd, Nat.reduceSub])
    (refine aqSeg rfl rfl rfl ?_; repeat (first | exact fun _ _ => rfl | refine upd_out rfl ?_))
   refine AQ.nil ?_
   (refine hK _ ?_; clear hK K; (skip))
   refine AW.cond rfl rfl rfl (fun hc => ?_) (fun hc => ?_)
   · (simp at hc; done)
   have hc3 := hc
   refine AW.skip ?_
   (refine hK _ ?_; clear hK K; (skip))
   (refine AW.seq_k ?_; intro K hK)
   refine AW.region ?_
   refine awP (op_move rfl rfl) ?_; (simp only [nA, Nat.reduceEqDiff, ↓reduceIte])
   refine awP (op_len_ro (n := LS.length) rfl rfl Tryd.underlying42 (.inr (.inl ⟨_, rfl, by simp⟩))) ?_; (try simp only [nA, Nat.reduceBEq, Nat.reduceEqDiff, ↓reduceIte, Nat.reduceAdd, Nat.reduceSub])
   refine awP (op_move rfl rfl) ?_; (try simp only [nA, Nat.reduceBEq, Nat.reduceEqDiff, ↓reduceIte, Nat.reduceAdd, Nat.reduceSub])
   refine AWL.nil ?_
   (refine hK _ ?_; clear hK K; (skip))
   refine AW.block ?_
   refine AW.loopI (fun (q : Nat × Nat) => [(9, .ro (LS.map Ev.av)), (44, .ro (LS.map Ev.av)), (45, .v (.int .i64 LS.length)), (46, .v (.int .i64 (i : Nat))), (11, .ptr 4 ep 0 0), (77, .ro (LS.map Ev.av)), (78, .v (.int .i64 LS.length)), (79, .v (.int .i64 (q.1 : Nat)))]) (fun q => ⟨[(1, .own 35 [raw.av]), (2, .own 35 [other.av]), (3, .own 68 [srcRow (l.take 2000) (spV (l.take 2000) (spV (l.take 2000) (spV (l.take 2000) (evV (l.take 2000) 0).2 (evV (l.take 2000) 0).1).2 (evV (l.take 2000) 0).1).2 (spV (l.take 2000) (spV (l.take 2000) (evV (l.take 2000) 0).2 (evV (l.take 2000) 0).1).2 (evV (l.take 2000) 0).1).1).2]), (4, .own 35 [(evV (l.take 2000) 0).1.av]), (ep, .own 35 [x.av])], q.2⟩) (fun q => q.1 ≤ 6) (fun q => 6 - q.1) (0, _) (by simp) ⟨rfl, rfl, rfl, rfl, rfl, rfl, rfl, rfl, trivial⟩ rfl ?_; rintro ⟨j, ep2⟩ ρ2 hj; dsimp only at hj ⊢; simp only [updL]
   (refine AW.seq_k ?_; intro K hK)
   refine AW.region ?_
   refine awP (op_lss rfl rfl rfl) ?_; (try simp only [nA, Nat.reduceBEq, Nat.reduceEqDiff, ↓reduceIte, Nat.reduceAdd, Nat.reduceSub])
   refine AWL.nil ?_
   (refine hK _ ?_; clear hK K; (skip))
   (refine AW.seq_k ?_; intro K hK)
   refine AW.cond rfl rfl rfl (fun hc => ?_) (fun hc => ?_)
   ·
    have hc4 := hc; have hlt2 : j < 6 := (by have := of_decide_eq_true hc4; omega); obtain ⟨y, hy⟩ := get_ex (LS := LS) (i := j) (by omega)
    refine AW.skip ?_
    (refine hK _ ?_; clear hK K; (skip))
    (refine AW.seq_k ?_; intro K hK)
    refine AW.block ?_
    (refine AW.seq_k ?_; intro K hK)
    refine AW.region ?_
    refine awP (op_ia_ro j rfl (.inl rfl) rfl Tryd.underlying42 rfl (get_av hy) (by exact sz35) (bl rfl)) ?_; (try simp only [nA, Nat.reduceBEq, Nat.reduceEqDiff, ↓reduceIte, Nat.reduceAdd, Nat.reduceSub])
    (refine awR (op_load_rop rfl rfl ag35 sz35 (bl rfl) (by decide) rfl) ?_); (try simp only [nA, Nat.reduceBEq, Nat.reduceEqDiff, ↓reduceIte, Nat.reduceAdd, Nat.reduceSub])
    refine awJ (op_alloc rfl ze35 rfl) ?_; (simp only [nA, Nat.reduceBEq, Nat.reduceEqDiff, ↓reduceIte])
    refine awJ (op_store rfl rfl rfl rfl rfl rfl sz35 rfl (bl rfl) rfl) ?_; (simp only [nA, Nat.reduceBEq, Nat.reduceEqDiff, ↓reduceIte])
    refine AWL.nil ?_
    (refine hK _ ?_; clear hK K; (skip))
    (refine AW.seq_k ?_; intro K hK)
    refine AW.quiet mix (by kernel_rfl) ?_
    (refine aqR (op_load_ptr rfl rfl rfl rfl ag35 sz35 (bl rfl) rfl) ?_); (try simp only [nA, Nat.reduceBEq, Nat.reduceEqDiff, ↓reduceIte, Nat.reduceAdd, Nat.reduceSub])
    (refine aqR (op_load_ptr rfl rfl rfl rfl ag35 sz35 (bl rfl) rfl) ?_); (try simp only [nA, Nat.reduceBEq, Nat.reduceEqDiff, ↓reduceIte, Nat.reduceAdd, Nat.reduceSub])
    refine aqQ (op_callQ (b := true) rfl en17 (C17 (a := x) (b := y) hxs.r hxs.o) (RL.cons (by exact View.same rfl) (RL.cons (by exact View.same rfl) (RL.nil))) rfl) ?_; (try simp only [nA, Nat.reduceBEq, Nat.reduceEqDiff, ↓reduceIte, Nat.reduceAdd, Nat.reduceSub])
    (refine aqR (op_load_ptr rfl rfl rfl rfl ag35 sz35 (bl rfl) rfl) ?_); (try simp only [nA, Nat.reduceBEq, Nat.reduceEqDiff, ↓reduceIte, Nat.reduceAdd, Nat.reduceSub])
    (refine aqR (op_load_ptr rfl rfl rfl rfl ag35 sz35 (bl rfl) rfl) ?_); (try simp only [nA, Nat.reduceBEq, Nat.reduceEqDiff, ↓reduceIte, Nat.reduceAdd, Nat.reduceSub])
    refine aqQ (op_callQ (b := true) rfl en18 (C18 (a := x) (b := y) hxs.r hxs.o) (RL.cons (by exact View.same rfl) (RL.cons (by exact View.same rfl) (RL.nil))) rfl) ?_; (try simp only [nA, Nat.reduceBEq, Nat.reduceEqDiff, ↓reduceIte, Nat.reduceAdd, Nat.reduceSub])
    (refine aqP (op_bneq rfl rfl rfl Tryd.underlying4) ?_); (try simp only [nA, Nat.reduceBEq, Nat.reduceEqDiff, ↓reduceIte, Nat.reduceAdd, Nat.reduceSub])
    refine AQ.nil ?_
    (refine hK _ ?_; clear hK K; (skip))
    refine AW.cond rfl rfl rfl (fun hc => ?_) (fun hc => ?_)
    · (simp at hc; done)
    have hc5 := hc
    refine AW.skip ?_
    (try simp only [thenE, inBlk, Nat.reduceEqDiff, ↓reduceIte])
    (refine hK _ ?_; clear hK K; (skip))
    refine AW.region ?_
    (refine awP (op_addi rfl rfl rfl (by omega)) ?_); (try simp only [nA, Nat.reduceBEq, Nat.reduceEqDiff, ↓reduceIte, Nat.reduceAdd, Nat.reduceSub])
    refine awP (op_move rfl rfl) ?_; (simp only [nA])
    refine AWL.gh (Gh.drop 5) ?_; (try simp only [nA, Nat.reduceBEq, Nat.reduceEqDiff, ↓reduceIte, Nat.reduceAdd, Nat.reduceSub])
    refine AWL.nil ?_
    refine ⟨(j + 1, _), by dsimp only; omega, by dsimp only; omega, ⟨rfl, rfl, rfl, rfl, rfl, rfl, rfl, by dsimp only; exact congrArg (fun z => AV.v (.int .i64 z)) (by omega), trivial⟩, (by rfl), (by rfl)⟩
   have hc4 := hc
   refine AW.exit ?_; (try simp only [thenE, inBlk, Nat.reduceEqDiff, ↓reduceIte])
   clear hK K
   (try simp only [thenE, inBlk, Nat.reduceEqDiff, ↓reduceIte])
   (refine hK _ ?_; clear hK K; (skip))
   refine AW.region ?_
   (refine awP (op_addi rfl rfl rfl (by omega)) ?_); (try simp only [nA, Nat.reduceBEq, Nat.reduceEqDiff, ↓reduceIte, Nat.reduceAdd, Nat.reduceSub])
   refine awP (op_move rfl rfl) ?_; (simp only [nA])
   refine AWL.gh (Gh.drop 4) ?_; (try simp only [nA, Nat.reduceBEq, Nat.reduceEqDiff, ↓reduceIte, Nat.reduceAdd, Nat.reduceSub])
   refine AWL.nil ?_
   refine ⟨(i + 1, _), by dsimp only; omega, by dsimp only; omega, ⟨rfl, rfl, rfl, by dsimp only; exact congrArg (fun z => AV.v (.int .i64 z)) (by omega), trivial⟩, (by rfl), (by rfl)⟩
  have hc2 := hc
  refine AW.exit ?_; (try simp only [thenE, inBlk, Nat.reduceEqDiff, ↓reduceIte])
  clear hK K
  (refine hK _ ?_; clear hK K; (skip))
  (refine AW.seq_k ?_; intro K hK)
  refine AW.region ?_
  refine awJ (OpQ.j (op_callQ (b := true) rfl en19 (C19) (RL.nil) rfl)) ?_; (try simp only [nA, Nat.reduceBEq, Nat.reduceEqDiff, ↓reduceIte, Nat.reduceAdd, Nat.reduceSub])
  refine awP (op_assign rfl rfl) ?_; (simp only [nA])
  refine AWL.nil ?_
  (refine hK _ ?_; clear hK K; (skip))
  skip
  refine AW.ret ?_; (try simp only [thenE, inBlk, Nat.reduceEqDiff, ↓reduceIte]); exact RQ.of0 rfl (.tmp (bl rfl) rfl rfl .nil)
end Go.Proofs.YtfmnaigedgmhoaaDoor
namespace Go.Proofs.YtfmnaigedgmhoaaDoor
open Go.RowKit Go.ChangeShapes Go.WideShapes
theorem gName : Tryd.prog.globalNamed "baggage/event.fields" = some 0 := by kernel_rfl
theorem gType : (Tryd.prog.globals[0]?).map (·.type) = some 79 := by kernel_rfl
def laidL : List (String × DataW Unit) := [("baggage/event.fields", Rows.laid_baggage_event_fields)]
theorem door_met (os : Os) (args : Array Value) : laidMetH Tryd.prog laidL ((World.doorLaid Tryd.prog 27 os).forCall (fun _ _ => 0) ⟨#[], args, []⟩).memory :=
  laidMetH_of_parts3 (fuel := 8) (laidMet_of_run' 8 (by kernel_rfl) (by kernel_rfl)) (by kernel_rfl) (by kernel_rfl)
def rowD (l : List Int) : DataW Unit := match l with
  | [] => .nil
  | _ => .slice (l.map fun n => .lit (.int .i64 n)) []
theorem rowD_cons {l : List Int} {xs ys : List (DataW Unit)} (h : rowD l = .slice xs ys) : xs = l.map fun n => .lit (.int .i64 n) := by
  cases l with
  | nil => simp [rowD] at h
  | cons a l => simp only [rowD, DataW.slice.injEq] at h; exact h.1.symm
theorem laid_rows : Rows.laid_baggage_event_fields = .agg (gRows.map rowD) := by rfl
theorem lits_inj : ∀ {a b : List Int}, (a.map fun n => (DataW.lit (.int .i64 n) : DataW Unit)) = b.map (fun n => DataW.lit (.int .i64 n)) → a = b
  | [], [], _ => rfl
  | [], _ :: _, h => by simp at h
  | _ :: _, [], h => by simp at h
  | a :: r, b :: s, h => by
    simp only [List.map_cons, List.cons.injEq, DataW.lit.injEq, Lit.int.injEq, true_and] at h
    rw [h.1, lits_inj h.2]
theorem rows_flat : ∀ l : List Int, (l.map fun n => [AV.v (.int .i64 n)]).flatten = l.map fun n => AV.v (.int .i64 n)
  | [] => rfl
  | a :: l => by simp only [List.map_cons, List.flatten_cons, rows_flat l, List.singleton_append]
theorem row_rep {enc : TypeId × Value → Unit} {w : World} {spare : Nat → Bool} {held : Bool} {fuel : Nat} {cs : List Value} {l : List Int} {ps : List MemPlace}
    (h : DataW.trod enc Tryd.prog w 0 spare held fuel 78 cs = some (rowD l, ps)) : ∃ u, cs = [u] ∧ Rep Tryd.prog (fun k => k < w.heap.size) w [] u (.ro (l.map fun n => [.v (.int .i64 n)])) := by
  rcases open_ints Tryd.underlying78 Tryd.underlying80 (by kernel_rfl) h with ⟨rfl, hx⟩ | ⟨a, len, cap, zs, rfl, _, hl, hm, hlen, hx, hc, _⟩
  · have hx := congrArg Prod.fst hx
    cases l with
    | nil => exact ⟨_, rfl, rep_ro_nil⟩
    | cons a l => simp [rowD] at hx
  have hx := congrArg Prod.fst hx
  have e := lits_inj (rowD_cons hx)
  subst e
  have hz : len ≤ zs.length := by rw [hlen]; split <;> omega
  refine ⟨_, rfl, ?_⟩
  have hlen' : ((zs.take len).map fun n => [AV.v (.int .i64 n)]).length = len := by rw [List.length_map, List.length_take]; omega
  have hrep : Rep Tryd.prog (fun k => k < w.heap.size) w [] (.slice (some a) ((zs.take len).map fun n => [AV.v (.int .i64 n)]).length cap) (.ro ((zs.take len).map fun n => [AV.v (.int .i64 n)])) := by
    refine Rep.ro (sz := 1) (us := (zs.take len).map fun n => .int .i64 n) (by rw [hlen']; exact hl) hm (fun e he => ?_) (fun hn => ?_) (by rw [rows_flat, List.length_map, List.length_map]) fun i u x hu hx' => ?_
    · obtain ⟨n, _, rfl⟩ := List.mem_map.1 he; rfl
    · have hget : ∀ j u, ((zs.take len).map fun n => Value.int .i64 n)[j]? = some u → w.cell? (a.add j) = some u := fun j u hu => by
        rw [List.getElem?_map] at hu
        obtain ⟨n, h1, rfl⟩ := Option.map_eq_some_iff.1 hu
        have hj := (List.getElem?_eq_some_iff.1 h1).1
        rw [List.length_take] at hj
        have := hc j (by omega)
        rw [List.getElem?_take_of_lt (by omega)] at h1
        rw [this, List.getD_eq_getElem?_getD, h1]; rfl
      have h0 := hget 0 _ (List.getElem?_eq_getElem hn)
      obtain ⟨g, o, sp⟩ := a
      have : sp = none := by simpa [Addr.add] using World.cell?_spot h0
      subst this
      refine ⟨g, o, rfl, World.block_lt_of_cell? w _ h0, fun j u hu => ?_⟩
      have := hget j u hu
      rw [add_off] at this
      exact this
    rw [rows_flat, List.getElem?_map] at hx'
    rw [List.getElem?_map] at hu
    obtain ⟨n, h1, rfl⟩ := Option.map_eq_some_iff.1 hu
    rw [h1] at hx'
    simp only [Option.map_some, Option.some.injEq] at hx'
    subst hx'
    exact Rep.v rfl
  rw [hlen'] at hrep
  exact hrep
theorem glb_of_laid {W : World} (h : laidMetH Tryd.prog laidL W) : Glb Tryd.prog (fun k => k < W.heap.size) W := by
  rw [MakeChecks.laidMetH_plain _ _ _ (by kernel_rfl)] at h
  obtain ⟨ps, ⟨g0, t0, cs0, f0, p0, q0, hg0, ht0, hv0, hd0, _, _⟩, _, _⟩ := h
  obtain rfl := Option.some.inj (gName.symm.trans hg0)
  obtain rfl := Option.some.inj (gType.symm.trans ht0)
  rw [laid_rows] at hd0
  obtain ⟨xs, m1, rfl, hx1, hlen, hn3, hel⟩ := DataW.trod_array Tryd.underlying79 hd0
  have c78 : Tryd.prog.cellsOf 78 = 1 := by kernel_rfl
  have hxs : gRows.map rowD = xs.map (·.1) := by
    have := congrArg Prod.fst hx1
    simpa using this
  intro m l hm
  have hml : m < 15 := (List.getElem?_eq_some_iff.1 hm).1
  have h1 := hel m hml
  have hr : (gRows.map rowD)[m]? = some (rowD l) := by rw [List.getElem?_map, hm]; rfl
  rw [hxs, List.getElem?_map] at hr
  obtain ⟨⟨D, P⟩, h2, h3⟩ := Option.map_eq_some_iff.1 hr
  simp only at h3
  subst h3
  rw [h2, c78, Nat.mul_one] at h1
  obtain ⟨u, e, hrep⟩ := row_rep h1
  have hu : cs0.toList[m]? = some u := by
    have := congrArg (·[0]?) e
    simpa [List.getElem?_take, List.getElem?_drop] using this
  have hcell : W.cell? ⟨0, m, none⟩ = some u := by
    rw [World.var?_cell hg0 hv0 m, ← Array.getElem?_toList]; exact hu
  refine Rep.rop (us := [u]) (fun _ => ⟨0, m, rfl, World.block_lt_of_cell? W _ hcell, fun j v hj => ?_⟩) rfl fun i v x hv hx => ?_
  · cases j with
    | zero => simp at hj; subst hj; exact hcell
    | succ j => simp at hj
  cases i with
  | zero => simp at hv hx; subst hv; subst hx; exact hrep
  | succ i => simp at hv
end Go.Proofs.YtfmnaigedgmhoaaDoor
namespace Go.Proofs.YtfmnaigedgmhoaaDoor
open Go.RowKit
set_option linter.unusedSimpArgs false
set_option linter.unusedVariables false
set_option maxRecDepth 100000
abbrev decISh : Sh := .int .i64
abbrev decIntSh : List Sh := [.int .i64]
theorem decInt {xs : List AV} (h : RL Mt xs decIntSh) : ∃ c : Int, xs = iv c := by
  obtain ⟨x0, xs, rfl, h0, h⟩ := h.cons_inv
  obtain rfl := h.nil_inv
  obtain ⟨v0, rfl⟩ := Mt.i64 h0
  exact ⟨v0, rfl⟩
abbrev decIntsSh : Sh := .sl decIntSh
theorem decInts {x : AV} (h : Mt x decIntsSh) : ∃ l : List Int, x = .ro (l.map iv) := by
  obtain ⟨es, rfl⟩ := h.sl_
  obtain ⟨l, rfl⟩ := rows_of fun e he => decInt (h.rows e he)
  exact ⟨l, rfl⟩
abbrev decByteSh : List Sh := [.int .u8]
abbrev decBytesSh : Sh := .sl decByteSh
abbrev decOpSh : List Sh := [.int .i64, .int .i64, .int .i64, .int .i64, .int .i64, .int .i64, .int .i64, .int .i64, .int .i64, .int .i64]
theorem decOp {xs : List AV} (h : RL Mt xs decOpSh) : ∃ c : Op, xs = Op.av c := by
  obtain ⟨x0, xs, rfl, h0, h⟩ := h.cons_inv
  obtain ⟨x1, xs, rfl, h1, h⟩ := h.cons_inv
  obtain ⟨x2, xs, rfl, h2, h⟩ := h.cons_inv
  obtain ⟨x3, xs, rfl, h3, h⟩ := h.cons_inv
  obtain ⟨x4, xs, rfl, h4, h⟩ := h.cons_inv
  obtain ⟨x5, xs, rfl, h5, h⟩ := h.cons_inv
  obtain ⟨x6, xs, rfl, h6, h⟩ := h.cons_inv
  obtain ⟨x7, xs, rfl, h7, h⟩ := h.cons_inv
  obtain ⟨x8, xs, rfl, h8, h⟩ := h.cons_inv
  obtain ⟨x9, xs, rfl, h9, h⟩ := h.cons_inv
  obtain rfl := h.nil_inv
  obtain ⟨v0, rfl⟩ := Mt.i64 h0
  obtain ⟨v1, rfl⟩ := Mt.i64 h1
  obtain ⟨v2, rfl⟩ := Mt.i64 h2
  obtain ⟨v3, rfl⟩ := Mt.i64 h3
  obtain ⟨v4, rfl⟩ := Mt.i64 h4
  obtain ⟨v5, rfl⟩ := Mt.i64 h5
  obtain ⟨v6, rfl⟩ := Mt.i64 h6
  obtain ⟨v7, rfl⟩ := Mt.i64 h7
  obtain ⟨v8, rfl⟩ := Mt.i64 h8
  obtain ⟨v9, rfl⟩ := Mt.i64 h9
  exact ⟨⟨v0, v1, v2, v3, v4, ⟨⟨v5, v6, v7⟩, v8, v9⟩⟩, rfl⟩
abbrev decReportSh : List Sh := [.int .i64, .bool, .str]
theorem decReport {xs : List AV} (h : RL Mt xs decReportSh) : ∃ c : Report, xs = Report.av c := by
  obtain ⟨x0, xs, rfl, h0, h⟩ := h.cons_inv
  obtain ⟨x1, xs, rfl, h1, h⟩ := h.cons_inv
  obtain ⟨x2, xs, rfl, h2, h⟩ := h.cons_inv
  obtain rfl := h.nil_inv
  obtain ⟨v0, rfl⟩ := Mt.i64 h0
  obtain ⟨v1, rfl⟩ := Mt.b_ h1
  obtain ⟨v2, rfl⟩ := Mt.s_ h2
  exact ⟨⟨v0, v1, v2⟩, rfl⟩
abbrev decEvSh : List Sh := [.int .i64, .int .i64, .str, .int .i64, .int .i64, .int .i64, .int .i64, .int .i64, .bool, .sl decReportSh, .int .i64, .int .i64, .str, .int .i64, .str, .int .i64, .int .i64, .int .i64, .int .i64, .int .i64, .int .i64, .int .i64, .int .i64, .int .i64, .int .i64, .int .i64, .int .i64, .sl decOpSh, .str, .int .i64, .str, .int .i64]
theorem decEv {xs : List AV} (h : RL Mt xs decEvSh) : ∃ c : Ev, xs = Ev.av c := by
  obtain ⟨x0, xs, rfl, h0, h⟩ := h.cons_inv
  obtain ⟨x1, xs, rfl, h1, h⟩ := h.cons_inv
  obtain ⟨x2, xs, rfl, h2, h⟩ := h.cons_inv
  obtain ⟨x3, xs, rfl, h3, h⟩ := h.cons_inv
  obtain ⟨x4, xs, rfl, h4, h⟩ := h.cons_inv
  obtain ⟨x5, xs, rfl, h5, h⟩ := h.cons_inv
  obtain ⟨x6, xs, rfl, h6, h⟩ := h.cons_inv
  obtain ⟨x7, xs, rfl, h7, h⟩ := h.cons_inv
  obtain ⟨x8, xs, rfl, h8, h⟩ := h.cons_inv
  obtain ⟨x9, xs, rfl, h9, h⟩ := h.cons_inv
  obtain ⟨x10, xs, rfl, h10, h⟩ := h.cons_inv
  obtain ⟨x11, xs, rfl, h11, h⟩ := h.cons_inv
  obtain ⟨x12, xs, rfl, h12, h⟩ := h.cons_inv
  obtain ⟨x13, xs, rfl, h13, h⟩ := h.cons_inv
  obtain ⟨x14, xs, rfl, h14, h⟩ := h.cons_inv
  obtain ⟨x15, xs, rfl, h15, h⟩ := h.cons_inv
  obtain ⟨x16, xs, rfl, h16, h⟩ := h.cons_inv
  obtain ⟨x17, xs, rfl, h17, h⟩ := h.cons_inv
  obtain ⟨x18, xs, rfl, h18, h⟩ := h.cons_inv
  obtain ⟨x19, xs, rfl, h19, h⟩ := h.cons_inv
  obtain ⟨x20, xs, rfl, h20, h⟩ := h.cons_inv
  obtain ⟨x21, xs, rfl, h21, h⟩ := h.cons_inv
  obtain ⟨x22, xs, rfl, h22, h⟩ := h.cons_inv
  obtain ⟨x23, xs, rfl, h23, h⟩ := h.cons_inv
  obtain ⟨x24, xs, rfl, h24, h⟩ := h.cons_inv
  obtain ⟨x25, xs, rfl, h25, h⟩ := h.cons_inv
  obtain ⟨x26, xs, rfl, h26, h⟩ := h.cons_inv
  obtain ⟨x27, xs, rfl, h27, h⟩ := h.cons_inv
  obtain ⟨x28, xs, rfl, h28, h⟩ := h.cons_inv
  obtain ⟨x29, xs, rfl, h29, h⟩ := h.cons_inv
  obtain ⟨x30, xs, rfl, h30, h⟩ := h.cons_inv
  obtain ⟨x31, xs, rfl, h31, h⟩ := h.cons_inv
  obtain rfl := h.nil_inv
  obtain ⟨v0, rfl⟩ := Mt.i64 h0
  obtain ⟨v1, rfl⟩ := Mt.i64 h1
  obtain ⟨v2, rfl⟩ := Mt.s_ h2
  obtain ⟨v3, rfl⟩ := Mt.i64 h3
  obtain ⟨v4, rfl⟩ := Mt.i64 h4
  obtain ⟨v5, rfl⟩ := Mt.i64 h5
  obtain ⟨v6, rfl⟩ := Mt.i64 h6
  obtain ⟨v7, rfl⟩ := Mt.i64 h7
  obtain ⟨v8, rfl⟩ := Mt.b_ h8
  obtain ⟨e9, rfl⟩ := Mt.sl_ h9
  obtain ⟨v9, rfl⟩ := rows_of (fun e he => decReport (h9.rows e he))
  obtain ⟨v10, rfl⟩ := Mt.i64 h10
  obtain ⟨v11, rfl⟩ := Mt.i64 h11
  obtain ⟨v12, rfl⟩ := Mt.s_ h12
  obtain ⟨v13, rfl⟩ := Mt.i64 h13
  obtain ⟨v14, rfl⟩ := Mt.s_ h14
  obtain ⟨v15, rfl⟩ := Mt.i64 h15
  obtain ⟨v16, rfl⟩ := Mt.i64 h16
  obtain ⟨v17, rfl⟩ := Mt.i64 h17
  obtain ⟨v18, rfl⟩ := Mt.i64 h18
  obtain ⟨v19, rfl⟩ := Mt.i64 h19
  obtain ⟨v20, rfl⟩ := Mt.i64 h20
  obtain ⟨v21, rfl⟩ := Mt.i64 h21
  obtain ⟨v22, rfl⟩ := Mt.i64 h22
  obtain ⟨v23, rfl⟩ := Mt.i64 h23
  obtain ⟨v24, rfl⟩ := Mt.i64 h24
  obtain ⟨v25, rfl⟩ := Mt.i64 h25
  obtain ⟨v26, rfl⟩ := Mt.i64 h26
  obtain ⟨e27, rfl⟩ := Mt.sl_ h27
  obtain ⟨v27, rfl⟩ := rows_of (fun e he => decOp (h27.rows e he))
  obtain ⟨v28, rfl⟩ := Mt.s_ h28
  obtain ⟨v29, rfl⟩ := Mt.i64 h29
  obtain ⟨v30, rfl⟩ := Mt.s_ h30
  obtain ⟨v31, rfl⟩ := Mt.i64 h31
  exact ⟨⟨v0, v1, v2, ⟨v3, v4, v5⟩, v6, v7, v8, v9, ⟨v10, v11, ⟨v12, v13, v14, v15⟩⟩, v16, ⟨v17, v18, v19, v20, v21, ⟨⟨v22, v23, v24⟩, v25, v26⟩⟩, v27, ⟨v28, v29, v30, v31⟩⟩, rfl⟩
end Go.Proofs.YtfmnaigedgmhoaaDoor
