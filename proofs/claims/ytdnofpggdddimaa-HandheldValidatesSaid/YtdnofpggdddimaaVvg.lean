import Derived.Test.YtdnofpggdddimaaVvf
namespace Go.Proofs.Ytdnofpggdddimaa
open Go.RowKit
set_option linter.unusedSimpArgs false
set_option linter.unusedVariables false
set_option maxRecDepth 100000
def onlR (h : Hand) : Hand × List Op × Int := if valH h ≠ 0 then (zeroH, [], valH h) else if h.offline = true then (onH h.number h.next h.last, h.log, 0) else (zeroH, [], 7)
def newL (n : Int) : List Hand := if inB n 0 6 then (List.range n.toNat).map (fun (k : Nat) => onH ((k : Int) + 1) 1 0) else []
def newE (n : Int) : Int := if inB n 0 6 then 0 else 1
theorem new_no {n : Int} (h : inB n 0 6 = false) : newL n = [] ∧ newE n = 1 := by unfold newL newE; rw [h]; exact ⟨rfl, rfl⟩
theorem new_yes {m : Nat} (h : inB (m : Int) 0 6 = true) : newL m = (List.range m).map (fun (k : Nat) => onH ((k : Int) + 1) 1 0) ∧ newE m = 0 := by unfold newL newE; rw [h]; exact ⟨rfl, rfl⟩
abbrev newV (m : Nat) : List (List AV) := (List.range m).map fun (k : Nat) => onV ((k : Int) + 1) 1 0
theorem newV_succ (m : Nat) : newV m ++ [onV ((m : Int) + 1) 1 0] = newV (m + 1) := by unfold newV; rw [List.range_succ, List.map_append]; rfl
theorem hav_flat (l : List Hand) : ∀ r ∈ l.map Hand.av, ∀ c ∈ r, flatA c = true := fun r hr c hc => by
  obtain ⟨g, _, rfl⟩ := List.mem_map.1 hr
  simp only [Hand.av, List.mem_cons, List.not_mem_nil, or_false] at hc
  rcases hc with rfl | rfl | rfl | rfl | rfl | rfl | rfl <;> rfl
theorem on_le (a b c : Int) : RL (Le2 Try.prog) (onV a b c) (onH a b c).av := RL.cons .same (RL.cons .same (RL.cons .same (RL.cons .same (RL.cons .nil (RL.cons .nil (RL.cons .nil RL.nil))))))
theorem newV_le : ∀ l : List Nat, RL (Le2 Try.prog) (l.map fun (k : Nat) => onV ((k : Int) + 1) 1 0).flatten ((l.map fun (k : Nat) => onH ((k : Int) + 1) 1 0).map Hand.av).flatten
  | [] => RL.nil
  | k :: l => by
    rw [List.map_cons, List.map_cons, List.map_cons, List.flatten_cons, List.flatten_cons]
    exact RL.append (on_le _ _ _) (newV_le l)
theorem C13 {n : Int} : Fn Try.prog 13 [] [.v (.int .i64 n)] [.ro ((newL n).map Hand.av), .v (.int .i64 (newE n))] [] := by
  refine Spec.body Try.func13 rfl Try.ntmps13 (by simp) rfl ?_; intro S0 own0 v0 w0
  (refine AW.seq_k ?_; intro K hK)
  refine AW.region ?_
  refine awP (op_assign rfl rfl) ?_
  refine awP (op_assign rfl rfl) ?_
  refine AWL.nil ?_
  (refine hK _ ?_; clear hK K; (simp only [nA, Nat.reduceBEq, Nat.reduceEqDiff, ↓reduceIte, Nat.reduceAdd, Nat.reduceSub]))
  (refine AW.seq_k ?_; intro K hK)
  (refine AW.seq_k ?_; intro K hK)
  refine AW.region ?_
  refine awP (op_move rfl rfl) ?_
  refine awJ (OpQ.j (op_callQ (b := true) rfl en43 (C43) (RL.cons (by exact View.same rfl) (RL.cons (by exact View.same rfl) (RL.cons (by exact View.same rfl) (RL.nil)))) rfl)) ?_; (simp only [nA, ↓reduceIte])
  refine awP (op_not rfl rfl rfl) ?_
  refine AWL.nil ?_
  (refine hK _ ?_; clear hK K; (simp only [nA, Nat.reduceBEq, Nat.reduceEqDiff, ↓reduceIte, Nat.reduceAdd, Nat.reduceSub]))
  refine AW.cond rfl rfl rfl (fun hc => ?_) (fun hc => ?_)
  ·
   have hc1 := hc; have g1 : inB n 0 6 = false := (by simpa using hc1)
   (refine AW.seq_k ?_; intro K hK)
   refine AW.region ?_
   refine awP (op_assign rfl rfl) ?_
   refine awP (op_assign rfl rfl) ?_
   refine AWL.nil ?_
   (refine hK _ ?_; clear hK K; (simp only [nA, Nat.reduceBEq, Nat.reduceEqDiff, ↓reduceIte, Nat.reduceAdd, Nat.reduceSub]))
   refine AW.gh (Gh.nil (e := 26) 2 (bl rfl) rfl sz26) ?_; (simp only [nA, Nat.reduceBEq, Nat.reduceEqDiff, ↓reduceIte]); refine AW.gh (Gh.freeze 2 (bl rfl) rfl rfl (by simp) (es' := ([] : List Hand).map Hand.av) rfl) ?_; (simp only [nA, Nat.reduceBEq, Nat.reduceEqDiff, ↓reduceIte, Nat.reduceAdd, Nat.reduceSub])
   refine AW.ret ?_; (simp only [thenE, inBlk, Nat.reduceEqDiff, ↓reduceIte]); rw [(new_no g1).1, (new_no g1).2]; exact RQ.of0 rfl (.tmp (bl rfl) rfl rfl (.tmp (bl rfl) rfl rfl .nil))
  have hc1 := hc; have g1 : inB n 0 6 = true := (by simpa using hc1); obtain ⟨m, rfl⟩ : ∃ m : Nat, n = m := (by have h := g1; unfold inB at h; simp at h; exact ⟨n.toNat, by omega⟩); have hm6 : m ≤ 6 := (by have h := g1; unfold inB at h; simp at h; omega)
  refine AW.skip ?_
  (refine hK _ ?_; clear hK K; (skip))
  (refine AW.seq_k ?_; intro K hK)
  refine AW.region ?_
  refine awP (op_assign rfl rfl) ?_
  refine AWL.nil ?_
  (refine hK _ ?_; clear hK K; (simp only [nA, Nat.reduceBEq, Nat.reduceEqDiff, ↓reduceIte, Nat.reduceAdd, Nat.reduceSub]))
  (refine AW.seq_k ?_; intro K hK)
  (refine AW.seq_k ?_; intro K hK)
  refine AW.region ?_
  refine awP (op_move rfl rfl) ?_
  refine awP (op_move rfl rfl) ?_
  refine AWL.nil ?_
  (refine hK _ ?_; clear hK K; (simp only [nA, ↓reduceIte]))
  refine AW.block ?_
  refine AW.gh (Gh.nil (e := 26) 4 (bl rfl) rfl sz26) ?_; (simp only [nA, Nat.reduceBEq, Nat.reduceEqDiff, ↓reduceIte]); refine AW.loopI (fun (q : Nat × Nat × Nat) => [(4, .sl 0 q.2.1 0 q.1), (9, .v (.int .i64 (m : Nat))), (10, .v (.int .i64 (q.1 : Nat)))]) (fun q => ⟨[(q.2.1, .own 26 (newV q.1))], q.2.2⟩) (fun q => q.1 ≤ m) (fun q => m - q.1) (0, _, _) (by simp) ⟨rfl, rfl, rfl, trivial⟩ rfl ?_; rintro ⟨i, v, ep⟩ ρ hj; dsimp only at hj ⊢; simp only [updL]
  (refine AW.seq_k ?_; intro K hK)
  refine AW.region ?_
  refine awP (op_lss rfl rfl rfl) ?_
  refine AWL.nil ?_
  (refine hK _ ?_; clear hK K; (simp only [nA, Nat.reduceBEq, Nat.reduceEqDiff, ↓reduceIte, Nat.reduceAdd, Nat.reduceSub]))
  (refine AW.seq_k ?_; intro K hK)
  refine AW.cond rfl rfl rfl (fun hc => ?_) (fun hc => ?_)
  ·
   have hc2 := hc; have hlt : i < m := (by simpa using hc2)
   refine AW.skip ?_
   (refine hK _ ?_; clear hK K; (skip))
   (refine AW.seq_k ?_; intro K hK)
   refine AW.block ?_
   (refine AW.seq_k ?_; intro K hK)
   refine AW.region ?_
   refine awP (op_move rfl rfl) ?_
   refine awP (op_assign rfl rfl) ?_
   refine AWL.nil ?_
   (refine hK _ ?_; clear hK K; (simp only [nA, ↓reduceIte]))
   refine AW.region ?_
   refine awP (op_move rfl rfl) ?_
   refine awP (op_move rfl rfl) ?_
   (refine awP (op_addi rfl rfl rfl (by omega)) ?_)
   refine awP (op_build2 (xs := [_, _, .v (.int .i64 0), .v (.bool false), .v (.slice none 0 0), .v (.slice none 0 0), .v (.slice none 0 0)]) rfl pl26 ze26 [(0, [_]), (1, [_])] rfl rfl rfl) ?_
   refine awJ (OpJ.frz (op_buildSlice rfl [(0, onV ((i : Int) + 1) 1 0)] [onV ((i : Int) + 1) 1 0] Try.underlying38 ze26 rfl (by simp) rfl (by simp) rfl (bl rfl) (by simp [maxLen])) (by simp [flatA]) rfl) ?_; (simp only [nA, ↓reduceIte])
   refine awJ (op_app (r := 0) (rows := [onV ((i : Int) + 1) 1 0]) rfl rfl rfl rfl (by simp) .ro Try.underlying38 ze26 (by decide) (by simp) (by simp; omega) (by decide) (newV_succ i) (n := i + 1) (by simp)) ?_; (simp only [nA, Nat.reduceBEq, Nat.reduceEqDiff, ↓reduceIte, Nat.reduceAdd, Nat.reduceSub])
   refine awP (op_assign rfl rfl) ?_
   refine AWL.nil ?_
   simp only [thenE, inBlk, Nat.reduceEqDiff, ↓reduceIte]
   (refine hK _ ?_; clear hK K; (simp only [nA]))
   refine AW.region ?_
   (refine awP (op_addi rfl rfl rfl (by omega)) ?_)
   refine awP (op_move rfl rfl) ?_
   skip
   refine AWL.nil ?_
   refine ⟨(i + 1, _, _), by dsimp only; omega, by dsimp only; omega, ⟨rfl, rfl, rfl, trivial⟩, (by rfl), (by rfl)⟩
  have hc2 := hc; have hnl : ¬ i < m := (by simpa using hc2); obtain rfl : i = m := (by omega)
  refine AW.exit ?_; (simp only [thenE, inBlk, Nat.reduceEqDiff, ↓reduceIte])
  clear hK K
  (refine hK _ ?_; clear hK K; (skip))
  (refine AW.seq_k ?_; intro K hK)
  refine AW.region ?_
  refine awP (op_move rfl rfl) ?_
  refine awP (op_assign rfl rfl) ?_
  refine awP (op_assign rfl rfl) ?_
  refine AWL.nil ?_
  (refine hK _ ?_; clear hK K; (simp only [nA, ↓reduceIte]))
  refine AW.gh (Gh.slot2 (r := 0) (es' := ((List.range i).map (fun (k : Nat) => onH ((k : Int) + 1) 1 0)).map Hand.av) rfl (by simp) (newV_le _)) ?_; (simp only [nA, Nat.reduceBEq, Nat.reduceEqDiff, ↓reduceIte, Nat.reduceAdd, Nat.reduceSub]); refine AW.gh (Gh.freeze 2 (bl rfl) rfl rfl (hav_flat _) (es' := ((List.range i).map (fun (k : Nat) => onH ((k : Int) + 1) 1 0)).map Hand.av) (List.take_of_length_le (by simp))) ?_; (simp only [nA, Nat.reduceBEq, Nat.reduceEqDiff, ↓reduceIte, Nat.reduceAdd, Nat.reduceSub])
  refine AW.ret ?_; rw [(new_yes g1).1, (new_yes g1).2]; exact RQ.of0 rfl (.tmp (bl rfl) rfl rfl (.tmp (bl rfl) rfl rfl .nil))
theorem C14 {n : Int} : Fn Try.prog 14 [] [.v (.int .i64 n)] [.ro ((newL n).map Hand.av), .v (.int .i64 (newE n))] [] := by
  refine Spec.body Try.func14 rfl Try.ntmps14 (by simp) rfl ?_; intro S0 own0 v0 w0
  (refine AW.seq_k ?_; intro K hK)
  refine AW.region ?_
  refine awP (op_assign rfl rfl) ?_
  refine awP (op_assign rfl rfl) ?_
  refine AWL.nil ?_
  (refine hK _ ?_; clear hK K; (simp only [nA, Nat.reduceBEq, Nat.reduceEqDiff, ↓reduceIte, Nat.reduceAdd, Nat.reduceSub]))
  (refine AW.seq_k ?_; intro K hK)
  (refine AW.seq_k ?_; intro K hK)
  refine AW.region (AWL.quiet ?_)
  refine aqP (op_move rfl rfl) ?_
  refine aqP (op_lss rfl rfl rfl) ?_
  refine aqP (op_move rfl rfl) ?_
  refine' aqOr' [_, _] [9,10] rfl rfl rfl rfl rfl rfl rfl rfl rfl rfl rfl rfl (fun hb => ?_) ?_; rotate_left
  ·
   (try simp only [hcS] at hb)
   refine aqP (op_move rfl rfl) ?_
   refine aqP (op_gtr rfl rfl rfl) ?_
   (refine aqSeg rfl rfl rfl ?_; repeat (first | exact fun _ _ => rfl | refine upd_out rfl ?_))
  simp only [nA, ↓reduceIte]
  refine AQ.nil ?_
  (refine hK _ ?_; clear hK K; (skip))
  refine AW.cond rfl rfl rfl (fun hc => ?_) (fun hc => ?_)
  ·
   have hc1 := hc; have g1 : inB n 0 6 = false := (by have h : (decide (n < 0) || decide (n > 6)) = true := hc1; unfold inB; simp at h ⊢; omega)
   (refine AW.seq_k ?_; intro K hK)
   refine AW.region ?_
   refine awP (op_assign rfl rfl) ?_
   refine awP (op_assign rfl rfl) ?_
   refine AWL.nil ?_
   (refine hK _ ?_; clear hK K; (simp only [nA, Nat.reduceBEq, Nat.reduceEqDiff, ↓reduceIte, Nat.reduceAdd, Nat.reduceSub]))
   refine AW.gh (Gh.nil (e := 26) 2 (bl rfl) rfl sz26) ?_; (simp only [nA, Nat.reduceBEq, Nat.reduceEqDiff, ↓reduceIte]); refine AW.gh (Gh.freeze 2 (bl rfl) rfl rfl (by simp) (es' := ([] : List Hand).map Hand.av) rfl) ?_; (simp only [nA, Nat.reduceBEq, Nat.reduceEqDiff, ↓reduceIte, Nat.reduceAdd, Nat.reduceSub])
   refine AW.ret ?_; (simp only [thenE, inBlk, Nat.reduceEqDiff, ↓reduceIte]); rw [(new_no g1).1, (new_no g1).2]; exact RQ.of0 rfl (.tmp (bl rfl) rfl rfl (.tmp (bl rfl) rfl rfl .nil))
  have hc1 := hc; have g1 : inB n 0 6 = true := (by have h : (decide (n < 0) || decide (n > 6)) = false := hc1; unfold inB; simp at h ⊢; omega); obtain ⟨m, rfl⟩ : ∃ m : Nat, n = m := (by have h := g1; unfold inB at h; simp at h; exact ⟨n.toNat, by omega⟩); have hm6 : m ≤ 6 := (by have h := g1; unfold inB at h; simp at h; omega)
  refine AW.skip ?_
  (refine hK _ ?_; clear hK K; (skip))
  (refine AW.seq_k ?_; intro K hK)
  refine AW.region ?_
  refine awP (op_assign rfl rfl) ?_
  refine AWL.nil ?_
  (refine hK _ ?_; clear hK K; (simp only [nA, Nat.reduceBEq, Nat.reduceEqDiff, ↓reduceIte, Nat.reduceAdd, Nat.reduceSub]))
  (refine AW.seq_k ?_; intro K hK)
  (refine AW.seq_k ?_; intro K hK)
  refine AW.region ?_
  refine awP (op_assign rfl rfl) ?_
  refine AWL.nil ?_
  (refine hK _ ?_; clear hK K; (simp only [nA, Nat.reduceBEq, Nat.reduceEqDiff, ↓reduceIte, Nat.reduceAdd, Nat.reduceSub]))
  refine AW.block ?_
  refine AW.gh (Gh.nil (e := 26) 4 (bl rfl) rfl sz26) ?_; (simp only [nA, Nat.reduceBEq, Nat.reduceEqDiff, ↓reduceIte]); refine AW.loopI (fun (q : Nat × Nat × Nat) => [(0, .v (.int .i64 (m : Nat))), (4, .sl 0 q.2.1 0 q.1), (5, .v (.int .i64 ((q.1 : Nat) + 1)))]) (fun q => ⟨[(q.2.1, .own 26 (newV q.1))], q.2.2⟩) (fun q => q.1 ≤ m) (fun q => m - q.1) (0, _, _) (by simp) ⟨rfl, rfl, rfl, trivial⟩ rfl ?_; rintro ⟨i, v, ep⟩ ρ hj; dsimp only at hj ⊢; simp only [updL]
  (refine AW.seq_k ?_; intro K hK)
  (refine AW.seq_k ?_; intro K hK)
  refine AW.region ?_
  refine awP (op_move rfl rfl) ?_
  refine awP (op_move rfl rfl) ?_
  refine awP (op_leq rfl rfl rfl) ?_
  refine AWL.nil ?_
  (refine hK _ ?_; clear hK K; (simp only [nA, ↓reduceIte]))
  refine AW.cond rfl rfl rfl (fun hc => ?_) (fun hc => ?_)
  ·
   have hc2 := hc; have hlt : i < m := (by have h : decide ((i : Int) + 1 ≤ m) = true := hc2; simp at h; omega)
   refine AW.skip ?_
   (refine hK _ ?_; clear hK K; (skip))
   (refine AW.seq_k ?_; intro K hK)
   refine AW.block ?_
   refine AW.region ?_
   refine awP (op_move rfl rfl) ?_
   refine awP (op_move rfl rfl) ?_
   refine awP (op_build2 (xs := [_, _, .v (.int .i64 0), .v (.bool false), .v (.slice none 0 0), .v (.slice none 0 0), .v (.slice none 0 0)]) rfl pl26 ze26 [(0, [_]), (1, [_])] rfl rfl rfl) ?_
   refine awJ (OpJ.frz (op_buildSlice rfl [(0, onV ((i : Int) + 1) 1 0)] [onV ((i : Int) + 1) 1 0] Try.underlying38 ze26 rfl (by simp) rfl (by simp) rfl (bl rfl) (by simp [maxLen])) (by simp [flatA]) rfl) ?_; (simp only [nA, ↓reduceIte])
   refine awJ (op_app (r := 0) (rows := [onV ((i : Int) + 1) 1 0]) rfl rfl rfl rfl (by simp) .ro Try.underlying38 ze26 (by decide) (by simp) (by simp; omega) (by decide) (newV_succ i) (n := i + 1) (by simp)) ?_; (simp only [nA, Nat.reduceBEq, Nat.reduceEqDiff, ↓reduceIte, Nat.reduceAdd, Nat.reduceSub])
   refine awP (op_assign rfl rfl) ?_
   refine AWL.nil ?_
   simp only [thenE, inBlk, Nat.reduceEqDiff, ↓reduceIte]
   (refine hK _ ?_; clear hK K; (simp only [nA]))
   refine AW.region ?_
   refine awP (op_move rfl rfl) ?_
   (refine awP (op_addi rfl rfl rfl (by omega)) ?_)
   refine awP (op_assign rfl rfl) ?_
   skip
   refine AWL.nil ?_
   refine ⟨(i + 1, _, _), by dsimp only; omega, by dsimp only; omega, ⟨rfl, rfl, rfl, trivial⟩, (by rfl), (by rfl)⟩
  have hc2 := hc; have hnl : ¬ i < m := (by have h : decide ((i : Int) + 1 ≤ m) = false := hc2; simp at h; omega); obtain rfl : i = m := (by omega)
  refine AW.exit ?_; (simp only [thenE, inBlk, Nat.reduceEqDiff, ↓reduceIte])
  clear hK K
  (refine hK _ ?_; clear hK K; (skip))
  (refine AW.seq_k ?_; intro K hK)
  refine AW.region ?_
  refine awP (op_move rfl rfl) ?_
  refine awP (op_assign rfl rfl) ?_
  refine awP (op_assign rfl rfl) ?_
  refine AWL.nil ?_
  (refine hK _ ?_; clear hK K; (simp only [nA, ↓reduceIte]))
  refine AW.gh (Gh.slot2 (r := 0) (es' := ((List.range i).map (fun (k : Nat) => onH ((k : Int) + 1) 1 0)).map Hand.av) rfl (by simp) (newV_le _)) ?_; (simp only [nA, Nat.reduceBEq, Nat.reduceEqDiff, ↓reduceIte, Nat.reduceAdd, Nat.reduceSub]); refine AW.gh (Gh.freeze 2 (bl rfl) rfl rfl (hav_flat _) (es' := ((List.range i).map (fun (k : Nat) => onH ((k : Int) + 1) 1 0)).map Hand.av) (List.take_of_length_le (by simp))) ?_; (simp only [nA, Nat.reduceBEq, Nat.reduceEqDiff, ↓reduceIte, Nat.reduceAdd, Nat.reduceSub])
  refine AW.ret ?_; rw [(new_yes g1).1, (new_yes g1).2]; exact RQ.of0 rfl (.tmp (bl rfl) rfl rfl (.tmp (bl rfl) rfl rfl .nil))
end Go.Proofs.Ytdnofpggdddimaa
namespace Go.Proofs.Ytdnofpggdddimaa
open Go.RowKit
set_option linter.unusedSimpArgs false
set_option linter.unusedVariables false
set_option maxRecDepth 100000
abbrev exP : Piece := ⟨⟨0, 117, 1000⟩, 12, 0⟩
abbrev exQ : Piece := ⟨⟨0, 117, 1001⟩, 12, 0⟩
abbrev exC : Container := ⟨4, flightN 0, 31, 100, 9, 0, 0, []⟩
abbrev exG : Grant := ⟨exP, flightN 0⟩
abbrev exO (t s k : Int) : Op := ⟨t, 1, s, k, 4, exP⟩
abbrev exH (n l : Int) (log : List Op) : Hand := ⟨1, n, l, true, [exG], [exC], log⟩
theorem aw_off : offR (onH 1 1 0) [exG] [exC] = (exH 1 0 [], 0) := by
  have he : offE (onH 1 1 0) [exG] [exC] = 0 := by decide +kernel
  rw [off_ok he]; rfl
theorem aw_granted (p : Piece) : grantedB [exG] p (flightN 0) = piEq p exP := by
  unfold grantedB idxI
  have e : grEq ⟨p, flightN 0⟩ exG = piEq p exP := by
    unfold grEq
    rw [show flEq (flightN 0) (flightN 0) = true from flEq_iff.2 rfl, Bool.and_true]
  cases hp : piEq p exP <;> simp [List.findIdx_cons, e, hp]
theorem aw_load (n l : Int) (log : List Op) (p : Piece) (k : Int) : loadErr (exH n l log) p k = if k ≠ 4 then 6 else if piEq p exP = false then 10 else if loadedB log p.plate then 5 else 0 := by
  unfold loadErr
  have hi : idxI (fun c : Container => decide (c.number = k)) [exC] = if k = 4 then 0 else -1 := by
    unfold idxI
    by_cases hk : k = 4
    · subst hk; simp [List.findIdx_cons]
    simp [List.findIdx_cons, hk, Ne.symm hk]
  by_cases hk : k = 4
  · subst hk
    rw [show (exH n l log).conts = [exC] from rfl, hi, if_pos rfl, if_neg (by decide : ¬ ((0 : Int) < 0))]
    rw [show (exH n l log).grants = [exG] from rfl, show ([exC].getD (0 : Int).toNat default).flight = flightN 0 from rfl, aw_granted, if_neg (by decide : ¬ ((4 : Int) ≠ 4))]
  rw [show (exH n l log).conts = [exC] from rfl, hi, if_neg hk, if_pos (by decide), if_pos hk]
theorem aw_scan (n l : Int) (log : List Op) (p : Piece) (k c t : Int) (hv : valH (exH n l log) = 0) (hk : (!decide (k = 1) && !decide (k = 2)) = false) (hp : ((!piB p || !inB c 1 999) || !inB t 0 1048576) = false) (ht : ¬ t < l) (hn : (decide (n = 1048576) || decide ((log.length : Int) = 60)) = false) :
    scanE (exH n l log) k p c t = if decide (k = 1) then loadErr (exH n l log) p c else 0 := by
  unfold scanE
  rw [if_neg (by rw [hv]; decide), if_neg (by rw [hk]; decide), if_neg (by rw [hp]; decide), if_neg ht, if_neg (by show ¬ ((decide (n = 1048576) || (true && decide ((log.length : Int) = 60))) = true); rw [Bool.true_and, hn]; decide)]
  rfl
theorem aw_v1 : valH (exH 1 0 []) = 0 := by decide +kernel
theorem aw_v2 : valH (exH 2 10 [exO 10 1 1]) = 0 := by decide +kernel
theorem aw_v3 : valH (exH 3 11 [exO 10 1 1, exO 11 2 2]) = 0 := by decide +kernel
theorem aw_1 : scanR (exH 1 0 []) 1 exP 4 10 = (exH 2 10 [exO 10 1 1], exO 10 1 1, 0) := by
  have he : scanE (exH 1 0 []) 1 exP 4 10 = 0 := by
    rw [aw_scan _ _ _ _ _ _ _ aw_v1 (by decide) (by decide +kernel) (by decide) (by decide), if_pos (by decide), aw_load]
    decide +kernel
  rw [scan_on he rfl]; rfl
theorem aw_2 : (scanR (exH 2 10 [exO 10 1 1]) 1 exP 4 11) = (zeroH, zeroO, 5) := by
  refine scan_err ?_ (by decide)
  rw [aw_scan _ _ _ _ _ _ _ aw_v2 (by decide) (by decide +kernel) (by decide) (by decide), if_pos (by decide), aw_load]
  decide +kernel
theorem aw_3 : scanR (exH 2 10 [exO 10 1 1]) 2 exP 4 11 = (exH 3 11 [exO 10 1 1, exO 11 2 2], exO 11 2 2, 0) := by
  have he : scanE (exH 2 10 [exO 10 1 1]) 2 exP 4 11 = 0 := by
    rw [aw_scan _ _ _ _ _ _ _ aw_v2 (by decide) (by decide +kernel) (by decide) (by decide), if_neg (by decide)]
  rw [scan_on he rfl]; rfl
theorem aw_4 : scanR (exH 3 11 [exO 10 1 1, exO 11 2 2]) 1 exP 4 12 = (exH 4 12 [exO 10 1 1, exO 11 2 2, exO 12 3 1], exO 12 3 1, 0) := by
  have he : scanE (exH 3 11 [exO 10 1 1, exO 11 2 2]) 1 exP 4 12 = 0 := by
    rw [aw_scan _ _ _ _ _ _ _ aw_v3 (by decide) (by decide +kernel) (by decide) (by decide), if_pos (by decide), aw_load]
    decide +kernel
  rw [scan_on he rfl]; rfl
theorem aw_5 : scanR (exH 3 11 [exO 10 1 1, exO 11 2 2]) 1 exQ 4 12 = (zeroH, zeroO, 10) := by
  refine scan_err ?_ (by decide)
  rw [aw_scan _ _ _ _ _ _ _ aw_v3 (by decide) (by decide +kernel) (by decide) (by decide), if_pos (by decide), aw_load]
  decide +kernel
theorem aw_6 : scanR (exH 3 11 [exO 10 1 1, exO 11 2 2]) 1 exP 5 12 = (zeroH, zeroO, 6) := by
  refine scan_err ?_ (by decide)
  rw [aw_scan _ _ _ _ _ _ _ aw_v3 (by decide) (by decide +kernel) (by decide) (by decide), if_pos (by decide), aw_load]
  decide +kernel
theorem awH_sm (n l : Int) {log : List Op} (h : log.length ≤ 1000) : (exH n l log).Sm := ⟨by simp, by simp, h, by simp⟩
theorem awC26 {n l : Int} {log : List Op} {k c t : Int} {p : Piece} {x : Hand × Op × Int} (hl : log.length ≤ 1000) (h : scanR (exH n l log) k p c t = x) : Fn Try.prog 26 [] [.agg (exH n l log).av, .v (.int .i64 k), .agg p.av, .v (.int .i64 c), .v (.int .i64 t)] [.agg x.1.av, .agg x.2.1.av, .v (.int .i64 x.2.2)] [] := by
  subst h; exact C26 (awH_sm n l hl)
theorem awC57 {i : Nat} (h : i < 100) : Fn Try.prog 57 [] [.v (.int .i64 (i : Int))] [.agg (⟨0, 117, 1000 + i⟩ : Plate).av] [] := by
  have := C57 (i := (i : Int))
  rwa [plates_lt h] at this
theorem awC32 : Fn Try.prog 32 [] [.agg (onH 1 1 0).av, .ro ([exG].map Grant.av), .ro ([exC].map Container.av)] [.agg (exH 1 0 []).av, .v (.int .i64 0)] [] := by
  have := C32 (h := onH 1 1 0) (g := [exG]) (c := [exC]) (on_sm 1 1 0) (by simp) (by simp)
  rwa [aw_off] at this
theorem awC13 : Fn Try.prog 13 [] [.v (.int .i64 2)] [.ro ([onH 1 1 0, onH 2 1 0].map Hand.av), .v (.int .i64 0)] [] := C13 (n := 2)
end Go.Proofs.Ytdnofpggdddimaa
namespace Go.Proofs.Ytdnofpggdddimaa
open Go.RowKit
set_option linter.unusedSimpArgs false
set_option linter.unusedVariables false
set_option maxRecDepth 100000
theorem exC_le : RL (Le2 Try.prog) [nilC exC].flatten ([exC].map Container.av).flatten :=
  RL.cons .same (RL.cons .same (RL.cons .same (RL.cons .same (RL.cons .same (RL.cons .same (RL.cons .same (RL.cons .same (RL.cons .same (RL.cons .same (RL.cons .nil RL.nil))))))))))
theorem C24 : Fn Try.prog 24 [] [] [.v (.bool true)] [] := by
  refine Spec.body Try.func24 rfl Try.ntmps24 (by simp) rfl ?_; intro S0 own0 v0 w0
  (refine AW.seq_k ?_; intro K hK)
  refine AW.region ?_
  refine awP (op_assign rfl rfl) ?_
  refine AWL.nil ?_
  (refine hK _ ?_; clear hK K; (simp only [nA, Nat.reduceBEq, Nat.reduceEqDiff, ↓reduceIte, Nat.reduceAdd, Nat.reduceSub]))
  (refine AW.seq_k ?_; intro K hK)
  refine AW.region ?_
  refine awJ (op_call (b := false) rfl en45 (C45_0) (RL.cons (by exact View.same rfl) (RL.nil)) rfl (fun h => by cases h) rfl rfl) ?_; (simp only [nA, Nat.reduceBEq, Nat.reduceEqDiff, ↓reduceIte, Nat.reduceAdd, Nat.reduceSub])
  refine awP (op_build2 (xs := [_, _, _, _, _, _, _, _, .v (.int .i64 0), .v (.int .i64 0), .v (.slice none 0 0)]) rfl pl77 ze77 [(0, [_]), (1, [_, _, _, _]), (2, [_]), (3, [_]), (4, [_])] rfl rfl rfl) ?_
  refine awJ (op_buildSlice rfl [(0, nilC exC)] [nilC exC] Try.underlying23 ze77 rfl (by simp) rfl (by simp) rfl (bl rfl) (by simp [maxLen])) ?_; (simp only [nA, Nat.reduceBEq, Nat.reduceEqDiff, ↓reduceIte]); refine AWL.gh (Gh.slot2 (r := 0) (es' := [exC].map Container.av) rfl rfl exC_le) ?_; (simp only [nA, Nat.reduceBEq, Nat.reduceEqDiff, ↓reduceIte, Nat.reduceAdd, Nat.reduceSub]); refine AWL.gh (Gh.freeze 25 (bl rfl) rfl rfl (conv_flat [exC]) (es' := [exC].map Container.av) rfl) ?_; (simp only [nA, Nat.reduceBEq, Nat.reduceEqDiff, ↓reduceIte, Nat.reduceAdd, Nat.reduceSub])
  refine awP (op_assign rfl rfl) ?_
  refine AWL.nil ?_
  (refine hK _ ?_; clear hK K; (simp only [nA]))
  (refine AW.seq_k ?_; intro K hK)
  refine AW.region ?_
  refine awJ (op_call (b := false) rfl en57 (awC57 (i := 0) (by decide)) (RL.cons (by exact View.same rfl) (RL.nil)) rfl (fun h => by cases h) rfl rfl) ?_; (simp only [nA, Nat.reduceBEq, Nat.reduceEqDiff, ↓reduceIte, Nat.reduceAdd, Nat.reduceSub])
  refine awP (op_build2 (xs := [_, _, _, _, .v (.int .i64 0)]) rfl pl31 ze31 [(0, [_, _, _]), (1, [_])] rfl rfl rfl) ?_
  refine awJ (op_alloc rfl ze31 rfl) ?_; (simp only [nA, Nat.reduceBEq, Nat.reduceEqDiff, ↓reduceIte])
  refine awJ (op_store rfl rfl rfl rfl rfl rfl sz31 rfl (bl rfl) rfl) ?_; (simp only [nA, Nat.reduceBEq, Nat.reduceEqDiff, ↓reduceIte])
  refine AWL.nil ?_
  (refine hK _ ?_; clear hK K; (skip))
  (refine AW.seq_k ?_; intro K hK)
  refine AW.region ?_
  refine awJ (op_call (b := false) rfl en13 (awC13) (RL.cons (by exact View.same rfl) (RL.nil)) rfl (fun h => by cases h) rfl rfl) ?_; (simp only [nA, Nat.reduceBEq, Nat.reduceEqDiff, ↓reduceIte, Nat.reduceAdd, Nat.reduceSub])
  refine awP (op_move rfl rfl) ?_
  refine awP (op_extract rfl rfl rfl) ?_
  refine awP (op_extract rfl rfl rfl) ?_
  refine awP (op_assign rfl rfl) ?_
  refine awP (op_assign rfl rfl) ?_
  refine AWL.nil ?_
  (refine hK _ ?_; clear hK K; (simp only [nA, ↓reduceIte]))
  (refine AW.seq_k ?_; intro K hK)
  (refine AW.seq_k ?_; intro K hK)
  refine AW.region (AWL.quiet ?_)
  refine aqP (op_move rfl rfl) ?_
  (refine aqP (op_neq rfl rfl rfl) ?_)
  refine aqP (op_move rfl rfl) ?_
  refine' aqOr' [_, _, _] [35,36,37] rfl rfl rfl rfl rfl rfl rfl rfl rfl rfl rfl rfl (fun hb => ?_) ?_; rotate_left
  ·
   (try simp only [hcS] at hb)
   refine aqP (op_move rfl rfl) ?_
   refine aqP (op_len_ro (n := 2) rfl rfl Try.underlying38 (.inr (.inl ⟨_, rfl, rfl⟩))) ?_
   (refine aqP (op_neq rfl rfl rfl) ?_)
   (refine aqSeg rfl rfl rfl ?_; repeat (first | exact fun _ _ => rfl | refine upd_out rfl ?_))
  simp only [nA]
  refine AQ.nil ?_
  (refine hK _ ?_; clear hK K; (skip))
  refine AW.cond rfl rfl rfl (fun hc => ?_) (fun hc => ?_)
  · (cases hc; done)
  (try simp only [hcS] at hc); have hc1 := hc
  refine AW.skip ?_
  (refine hK _ ?_; clear hK K; (skip))
  (refine AW.seq_k ?_; intro K hK)
  refine AW.ad [(1, 2, .own 31 [exP.av])] mix rfl ?_
  refine adP 0 rfl (fun T' ok => op_move rfl rfl) (by exact ⟨rfl, trivial⟩) (by kernel_rfl) (by kernel_rfl) ?_
  refine adP 1 rfl (fun T' ok => op_ia_ro (es := [onH 1 1 0, onH 2 1 0].map Hand.av) 0 rfl (.inl rfl) rfl Try.underlying38 rfl rfl (by exact sz26) (bl rfl)) (by exact ⟨rfl, trivial⟩) (by kernel_rfl) (by kernel_rfl) ?_
  (refine adR 2 rfl (fun T' ok => op_load_rop rfl rfl ag26 sz26 (bl rfl) (by decide) rfl) (by exact ⟨rfl, trivial⟩) (by kernel_rfl) (by kernel_rfl) ?_)
  (refine adR 3 rfl (fun T' ok => op_load_ptr rfl rfl (by exact ok.1) rfl ag31 sz31 (bl rfl) rfl) (by exact ⟨rfl, trivial⟩) (by kernel_rfl) (by kernel_rfl) ?_)
  refine adP 7 rfl (fun T' ok => op_move rfl rfl) (by exact ⟨rfl, trivial⟩) (by kernel_rfl) (by kernel_rfl) ?_
  refine adF 4 rfl (fun T' ok => op_callS rfl en45 (C45_0) (RL.cons (by exact View.same rfl) (RL.nil)) rfl rfl rfl) (by exact ⟨rfl, trivial⟩) (by kernel_rfl) (by kernel_rfl) ?_; (simp only [nA, Nat.reduceBEq, Nat.reduceEqDiff, ↓reduceIte])
  refine adP 5 rfl (fun T' ok => op_build2 (xs := [_, _, _, _, _, _, _, _, _]) rfl pl75 ze75 [(0, [_, _, _, _, _]), (1, [_, _, _, _])] rfl rfl rfl) (by exact ⟨rfl, trivial⟩) (by kernel_rfl) (by kernel_rfl) ?_
  -- READY [6, 12]
  refine adF 6 rfl (fun T' ok => OpJ.frz (op_buildSlice rfl [(0, exG.av)] [exG.av] Try.underlying22 ze75 rfl (by simp) rfl (by simp) rfl (bl rfl) (by simp [maxLen])) (gav_flat [exG]) rfl) (by exact ⟨rfl, trivial⟩) (by kernel_rfl) (by kernel_rfl) ?_; (simp only [nA, Nat.reduceBEq, Nat.reduceEqDiff, ↓reduceIte, Nat.reduceAdd, Nat.reduceSub])
  refine adF 8 rfl (fun T' ok => op_callS rfl en32 (awC32) (RL.cons (by exact View.same rfl) (RL.cons (by exact View.same rfl) (RL.cons (by exact View.same rfl) (RL.nil)))) rfl rfl rfl) (by exact ⟨rfl, trivial⟩) (by kernel_rfl) (by kernel_rfl) ?_; (simp only [nA, Nat.reduceBEq, Nat.reduceEqDiff, ↓reduceIte, Nat.reduceAdd, Nat.reduceSub])
  refine adP 9 rfl (fun T' ok => op_move rfl rfl) (by exact ⟨rfl, trivial⟩) (by kernel_rfl) (by kernel_rfl) ?_
  refine adP 10 rfl (fun T' ok => op_extract rfl rfl rfl) (by exact ⟨rfl, trivial⟩) (by kernel_rfl) (by kernel_rfl) ?_
  refine adP 11 rfl (fun T' ok => op_extract rfl rfl rfl) (by exact ⟨rfl, trivial⟩) (by kernel_rfl) (by kernel_rfl) ?_
  refine adJ 12 rfl (op_alloc rfl ze26 rfl) (by kernel_rfl) (by exact ⟨rfl, trivial⟩) ?_; (simp only [nA, Nat.reduceBEq, Nat.reduceEqDiff, ↓reduceIte])
  refine adJ 13 rfl (op_store rfl rfl rfl rfl rfl rfl sz26 rfl (bl rfl) rfl) (by kernel_rfl) (by exact ⟨rfl, trivial⟩) ?_; (simp only [nA, Nat.reduceBEq, Nat.reduceEqDiff, ↓reduceIte])
  refine adP 14 rfl (fun T' ok => op_assign rfl rfl) (by exact ⟨rfl, trivial⟩) (by kernel_rfl) (by kernel_rfl) ?_
  refine adDone (by kernel_rfl) ?_
  (refine hK _ ?_; clear hK K; (simp only [nA, ↓reduceIte]))
  (refine AW.seq_k ?_; intro K hK)
  refine AW.region ?_
  (refine awR (op_load_ptr rfl rfl rfl rfl ag26 sz26 (bl rfl) rfl) ?_)
  (refine awR (op_load_ptr rfl rfl rfl rfl ag31 sz31 (bl rfl) rfl) ?_)
  refine awJ (op_call (b := false) rfl en26 (awC26 (by simp) aw_1) (RL.cons (by exact View.same rfl) (RL.cons (by exact View.same rfl) (RL.cons (by exact View.same rfl) (RL.cons (by exact View.same rfl) (RL.cons (by exact View.same rfl) (RL.nil)))))) rfl (fun h => by cases h) rfl rfl) ?_; (simp only [nA, Nat.reduceBEq, Nat.reduceEqDiff, ↓reduceIte, Nat.reduceAdd, Nat.reduceSub])
  refine awP (op_move rfl rfl) ?_
  refine awP (op_extract rfl rfl rfl) ?_
  refine awP (op_extract rfl rfl rfl) ?_
  refine awP (op_extract rfl rfl rfl) ?_
  refine awJ (op_alloc rfl ze33 rfl) ?_; (simp only [nA, Nat.reduceBEq, Nat.reduceEqDiff, ↓reduceIte])
  refine awJ (op_store rfl rfl rfl rfl rfl rfl sz26 rfl (bl rfl) rfl) ?_; (simp only [nA, Nat.reduceBEq, Nat.reduceEqDiff, ↓reduceIte, Nat.reduceAdd, Nat.reduceSub])
  refine awJ (op_store rfl rfl rfl rfl rfl rfl sz33 rfl (bl rfl) rfl) ?_; (simp only [nA, Nat.reduceBEq, Nat.reduceEqDiff, ↓reduceIte])
  refine awP (op_assign rfl rfl) ?_
  refine AWL.nil ?_
  (refine hK _ ?_; clear hK K; (simp only [nA, ↓reduceIte]))
  (refine AW.seq_k ?_; intro K hK)
  refine AW.region ?_
  (refine awR (op_load_ptr rfl rfl rfl rfl ag26 sz26 (bl rfl) rfl) ?_)
  (refine awR (op_load_ptr rfl rfl rfl rfl ag31 sz31 (bl rfl) rfl) ?_)
  refine awJ (op_call (b := false) rfl en26 (awC26 (by simp) aw_2) (RL.cons (by exact View.same rfl) (RL.cons (by exact View.same rfl) (RL.cons (by exact View.same rfl) (RL.cons (by exact View.same rfl) (RL.cons (by exact View.same rfl) (RL.nil)))))) rfl (fun h => by cases h) rfl rfl) ?_; (simp only [nA, Nat.reduceBEq, Nat.reduceEqDiff, ↓reduceIte, Nat.reduceAdd, Nat.reduceSub])
  refine awP (op_move rfl rfl) ?_
  refine awP (op_extract rfl rfl rfl) ?_
  refine awP (op_extract rfl rfl rfl) ?_
  refine awP (op_extract rfl rfl rfl) ?_
  refine awJ (op_alloc rfl ze26 rfl) ?_; (simp only [nA, Nat.reduceBEq, Nat.reduceEqDiff, ↓reduceIte])
  refine awJ (op_alloc rfl ze33 rfl) ?_; (simp only [nA, Nat.reduceBEq, Nat.reduceEqDiff, ↓reduceIte])
  refine awJ (op_store rfl rfl rfl rfl rfl rfl sz26 rfl (bl rfl) rfl) ?_; (simp only [nA, Nat.reduceBEq, Nat.reduceEqDiff, ↓reduceIte])
  refine awJ (op_store rfl rfl rfl rfl rfl rfl sz33 rfl (bl rfl) rfl) ?_; (simp only [nA, Nat.reduceBEq, Nat.reduceEqDiff, ↓reduceIte])
  refine awP (op_assign rfl rfl) ?_
  refine AWL.nil ?_
  (refine hK _ ?_; clear hK K; (simp only [nA, ↓reduceIte]))
  (refine AW.seq_k ?_; intro K hK)
  refine AW.region ?_
  (refine awR (op_load_ptr rfl rfl rfl rfl ag26 sz26 (bl rfl) rfl) ?_)
  (refine awR (op_load_ptr rfl rfl rfl rfl ag31 sz31 (bl rfl) rfl) ?_)
  refine awJ (op_call (b := false) rfl en26 (awC26 (by simp) aw_3) (RL.cons (by exact View.same rfl) (RL.cons (by exact View.same rfl) (RL.cons (by exact View.same rfl) (RL.cons (by exact View.same rfl) (RL.cons (by exact View.same rfl) (RL.nil)))))) rfl (fun h => by cases h) rfl rfl) ?_; (simp only [nA, Nat.reduceBEq, Nat.reduceEqDiff, ↓reduceIte, Nat.reduceAdd, Nat.reduceSub])
  refine awP (op_move rfl rfl) ?_
  refine awP (op_extract rfl rfl rfl) ?_
  refine awP (op_extract rfl rfl rfl) ?_
  refine awP (op_extract rfl rfl rfl) ?_
  refine awJ (op_alloc rfl ze33 rfl) ?_; (simp only [nA, Nat.reduceBEq, Nat.reduceEqDiff, ↓reduceIte])
  refine awJ (op_store rfl rfl rfl rfl rfl rfl sz26 rfl (bl rfl) rfl) ?_; (simp only [nA, Nat.reduceBEq, Nat.reduceEqDiff, ↓reduceIte, Nat.reduceAdd, Nat.reduceSub])
  refine awJ (op_store rfl rfl rfl rfl rfl rfl sz33 rfl (bl rfl) rfl) ?_; (simp only [nA, Nat.reduceBEq, Nat.reduceEqDiff, ↓reduceIte])
  refine awP (op_assign rfl rfl) ?_
  refine AWL.nil ?_
  (refine hK _ ?_; clear hK K; (simp only [nA, ↓reduceIte]))
  (refine AW.seq_k ?_; intro K hK)
  refine AW.region ?_
  (refine awR (op_load_ptr rfl rfl rfl rfl ag26 sz26 (bl rfl) rfl) ?_)
  (refine awR (op_load_ptr rfl rfl rfl rfl ag31 sz31 (bl rfl) rfl) ?_)
  refine awJ (op_call (b := false) rfl en26 (awC26 (by simp) aw_4) (RL.cons (by exact View.same rfl) (RL.cons (by exact View.same rfl) (RL.cons (by exact View.same rfl) (RL.cons (by exact View.same rfl) (RL.cons (by exact View.same rfl) (RL.nil)))))) rfl (fun h => by cases h) rfl rfl) ?_; (simp only [nA, Nat.reduceBEq, Nat.reduceEqDiff, ↓reduceIte, Nat.reduceAdd, Nat.reduceSub])
  refine awP (op_move rfl rfl) ?_
  refine awP (op_extract rfl rfl rfl) ?_
  refine awP (op_extract rfl rfl rfl) ?_
  refine awP (op_extract rfl rfl rfl) ?_
  refine awJ (op_alloc rfl ze26 rfl) ?_; (simp only [nA, Nat.reduceBEq, Nat.reduceEqDiff, ↓reduceIte])
  refine awJ (op_alloc rfl ze33 rfl) ?_; (simp only [nA, Nat.reduceBEq, Nat.reduceEqDiff, ↓reduceIte])
  refine awJ (op_store rfl rfl rfl rfl rfl rfl sz26 rfl (bl rfl) rfl) ?_; (simp only [nA, Nat.reduceBEq, Nat.reduceEqDiff, ↓reduceIte])
  refine awJ (op_store rfl rfl rfl rfl rfl rfl sz33 rfl (bl rfl) rfl) ?_; (simp only [nA, Nat.reduceBEq, Nat.reduceEqDiff, ↓reduceIte])
  refine awP (op_assign rfl rfl) ?_
  refine AWL.nil ?_
  (refine hK _ ?_; clear hK K; (simp only [nA, ↓reduceIte]))
  refine AW.joinG (fun (e : Nat) => [(2, .ptr 1 2 0 0), (5, .ptr 2 3 0 0), (6, .v (.int .i64 0)), (7, .ptr 3 4 0 0), (8, .v (.int .i64 0)), (11, .v (.int .i64 5)), (13, .v (.int .i64 0)), (15, .ptr 8 9 0 0), (16, .v (.int .i64 0)), (19, .v (.int .i64 10))]) (fun e => ⟨[(1, .any), (2, .own 31 [exP.av]), (3, .own 26 [((exH 3 11 [exO 10 1 1, exO 11 2 2])).av]), (4, .own 33 [(exO 10 1 1).av]), (5, .own 26 [zeroH.av]), (6, .own 33 [zeroO.av]), (7, .own 33 [(exO 11 2 2).av]), (8, .own 26 [(exH 4 12 [exO 10 1 1, exO 11 2 2, exO 12 3 1]).av]), (9, .own 33 [(exO 12 3 1).av])], e⟩) (fun _ => True) ?_ ?_
  · refine AW.ado (fun T' => T'.slots[2]? = some (3, .own 26 [((exH 3 11 [exO 10 1 1, exO 11 2 2])).av])) mix rfl ?_
    refine adRo 0 rfl (fun T' ok => op_load_ptr rfl rfl ok rfl ag26 sz26 (bl rfl) rfl) rfl (by kernel_rfl) (by kernel_rfl) ?_; (simp only [nA, Nat.reduceBEq, Nat.reduceEqDiff, ↓reduceIte])
    refine adFo 1 rfl (fun T' ok => op_callS rfl en57 (awC57 (i := 1) (by decide)) (RL.cons (by exact View.same rfl) RL.nil) rfl rfl rfl) rfl (by kernel_rfl) (by kernel_rfl) ?_; (simp only [nA, Nat.reduceBEq, Nat.reduceEqDiff, ↓reduceIte, Nat.reduceAdd, Nat.reduceSub])
    refine adPo 2 rfl (fun T' ok => op_build2 (xs := exQ.av) rfl pl31 ze31 [(0, [_, _, _]), (1, [_])] rfl rfl rfl) rfl (by kernel_rfl) (by kernel_rfl) ?_; (simp only [nA, Nat.reduceBEq, Nat.reduceEqDiff, ↓reduceIte, Nat.reduceAdd, Nat.reduceSub])
    refine adFo 3 rfl (fun T' ok => op_callS rfl en26 (awC26 (by simp) aw_5) (RL.cons (by exact View.same rfl) (RL.cons (by exact View.same rfl) (RL.cons (by exact View.same rfl) (RL.cons (by exact View.same rfl) (RL.cons (by exact View.same rfl) RL.nil))))) rfl rfl rfl) rfl (by kernel_rfl) (by kernel_rfl) ?_; (simp only [nA, Nat.reduceBEq, Nat.reduceEqDiff, ↓reduceIte, Nat.reduceAdd, Nat.reduceSub])
    refine adPo 4 rfl (fun T' ok => op_move rfl rfl) rfl (by kernel_rfl) (by kernel_rfl) ?_; (simp only [nA])
    refine adPo 5 rfl (fun T' ok => op_extract rfl rfl rfl) rfl (by kernel_rfl) (by kernel_rfl) ?_; (simp only [nA, Nat.reduceBEq, Nat.reduceEqDiff, ↓reduceIte, Nat.reduceAdd, Nat.reduceSub])
    refine adPo 6 rfl (fun T' ok => op_extract rfl rfl rfl) rfl (by kernel_rfl) (by kernel_rfl) ?_; (simp only [nA, Nat.reduceBEq, Nat.reduceEqDiff, ↓reduceIte, Nat.reduceAdd, Nat.reduceSub])
    refine adPo 7 rfl (fun T' ok => op_extract rfl rfl rfl) rfl (by kernel_rfl) (by kernel_rfl) ?_; (simp only [nA, Nat.reduceBEq, Nat.reduceEqDiff, ↓reduceIte, Nat.reduceAdd, Nat.reduceSub])
    refine adJ2o 8 9 rfl rfl (op_alloc rfl ze26 rfl) (op_alloc rfl ze33 rfl) (by kernel_rfl) rfl rfl ?_ ?_
    · (simp only [nA, Nat.reduceBEq, Nat.reduceEqDiff, ↓reduceIte]); refine adJo 9 rfl (op_alloc rfl ze33 rfl) (by kernel_rfl) rfl ?_; (simp only [nA, Nat.reduceBEq, Nat.reduceEqDiff, ↓reduceIte])
      refine adJo 10 rfl (op_store rfl rfl rfl rfl rfl rfl sz26 rfl (bl rfl) rfl) (by kernel_rfl) rfl ?_; (simp only [nA, Nat.reduceBEq, Nat.reduceEqDiff, ↓reduceIte])
      refine adJo 11 rfl (op_store rfl rfl rfl rfl rfl rfl sz33 rfl (bl rfl) rfl) (by kernel_rfl) rfl ?_; (simp only [nA, Nat.reduceBEq, Nat.reduceEqDiff, ↓reduceIte])
      refine adPo 12 rfl (fun T' ok => op_assign rfl rfl) rfl (by kernel_rfl) (by kernel_rfl) ?_; (simp only [nA, ↓reduceIte]); refine adDoneo (by kernel_rfl) ?_; exact ⟨_, Gh.drop 9, _, trivial, ⟨rfl, rfl, rfl, rfl, rfl, rfl, rfl, rfl, rfl, rfl, trivial⟩, rfl, rfl⟩
    (simp only [nA, Nat.reduceBEq, Nat.reduceEqDiff, ↓reduceIte]); refine adJo 8 rfl (op_alloc rfl ze26 rfl) (by kernel_rfl) rfl ?_; (simp only [nA, Nat.reduceBEq, Nat.reduceEqDiff, ↓reduceIte])
    refine adJo 10 rfl (op_store rfl rfl rfl rfl rfl rfl sz26 rfl (bl rfl) rfl) (by kernel_rfl) rfl ?_; (simp only [nA, Nat.reduceBEq, Nat.reduceEqDiff, ↓reduceIte])
    refine adJo 11 rfl (op_store rfl rfl rfl rfl rfl rfl sz33 rfl (bl rfl) rfl) (by kernel_rfl) rfl ?_; (simp only [nA, Nat.reduceBEq, Nat.reduceEqDiff, ↓reduceIte])
    refine adPo 12 rfl (fun T' ok => op_assign rfl rfl) rfl (by kernel_rfl) (by kernel_rfl) ?_; (simp only [nA, ↓reduceIte]); refine adDoneo (by kernel_rfl) ?_; exact ⟨_, Gh.drop 9, _, trivial, ⟨rfl, rfl, rfl, rfl, rfl, rfl, rfl, rfl, rfl, rfl, trivial⟩, rfl, rfl⟩
  intro e ρ _; simp only [updL]
  (refine AW.seq_k ?_; intro K hK)
  refine AW.region ?_
  (refine awR (op_load_ptr rfl rfl rfl rfl ag26 sz26 (bl rfl) rfl) ?_)
  (refine awR (op_load_ptr rfl rfl rfl rfl ag31 sz31 (bl rfl) rfl) ?_)
  refine awJ (op_call (b := false) rfl en26 (awC26 (by simp) aw_6) (RL.cons (by exact View.same rfl) (RL.cons (by exact View.same rfl) (RL.cons (by exact View.same rfl) (RL.cons (by exact View.same rfl) (RL.cons (by exact View.same rfl) (RL.nil)))))) rfl (fun h => by cases h) rfl rfl) ?_; (simp only [nA, Nat.reduceBEq, Nat.reduceEqDiff, ↓reduceIte, Nat.reduceAdd, Nat.reduceSub])
  refine awP (op_move rfl rfl) ?_
  refine awP (op_extract rfl rfl rfl) ?_
  refine awP (op_extract rfl rfl rfl) ?_
  refine awP (op_extract rfl rfl rfl) ?_
  refine awJ (op_alloc rfl ze26 rfl) ?_; (simp only [nA, Nat.reduceBEq, Nat.reduceEqDiff, ↓reduceIte])
  refine awJ (op_alloc rfl ze33 rfl) ?_; (simp only [nA, Nat.reduceBEq, Nat.reduceEqDiff, ↓reduceIte])
  refine awJ (op_store rfl rfl rfl rfl rfl rfl sz26 rfl (bl rfl) rfl) ?_; (simp only [nA, Nat.reduceBEq, Nat.reduceEqDiff, ↓reduceIte])
  refine awJ (op_store rfl rfl rfl rfl rfl rfl sz33 rfl (bl rfl) rfl) ?_; (simp only [nA, Nat.reduceBEq, Nat.reduceEqDiff, ↓reduceIte])
  refine awP (op_assign rfl rfl) ?_
  refine AWL.nil ?_
  (refine hK _ ?_; clear hK K; (simp only [nA, ↓reduceIte]))
  (refine AW.seq_k ?_; intro K hK)
  refine AW.region (AWL.quiet ?_)
  refine aqP (op_move rfl rfl) ?_
  (refine aqP (op_eql rfl rfl rfl) ?_)
  refine aqP (op_move rfl rfl) ?_
  refine' aqAnd' [_, _] [97,98] rfl rfl rfl rfl rfl rfl rfl rfl rfl rfl rfl rfl (fun hb => ?_) ?_; rotate_left
  ·
   (try simp only [hcS] at hb)
   refine aqP (op_move rfl rfl) ?_
   (refine aqP (op_eql rfl rfl rfl) ?_)
   (refine aqSeg rfl rfl rfl ?_; repeat (first | exact fun _ _ => rfl | refine upd_out rfl ?_))
  simp only [nA, ↓reduceIte]
  refine aqP (op_move rfl rfl) ?_
  refine' aqAnd' [_, _, _] [101,102,103] rfl rfl rfl rfl rfl rfl rfl rfl rfl rfl rfl rfl (fun hb => ?_) ?_; rotate_left
  ·
   (try simp only [hcS] at hb)
   (refine aqP (op_fa_ptr rfl rfl rfl fl33_2 (by exact sz3) (by decide) rfl) ?_)
   (refine aqR (op_load_ptr1 rfl rfl rfl rfl ag3 rfl rfl) ?_)
   (refine aqP (op_eql rfl rfl rfl) ?_)
   (refine aqSeg rfl rfl rfl ?_; repeat (first | exact fun _ _ => rfl | refine upd_out rfl ?_))
  simp only [nA]
  refine aqP (op_move rfl rfl) ?_
  refine' aqAnd' [_, _] [106,107] rfl rfl rfl rfl rfl rfl rfl rfl rfl rfl rfl rfl (fun hb => ?_) ?_; rotate_left
  ·
   (try simp only [hcS] at hb)
   refine aqP (op_move rfl rfl) ?_
   (refine aqP (op_eql rfl rfl rfl) ?_)
   (refine aqSeg rfl rfl rfl ?_; repeat (first | exact fun _ _ => rfl | refine upd_out rfl ?_))
  simp only [nA]
  refine aqP (op_move rfl rfl) ?_
  refine' aqAnd' [_, _] [110,111] rfl rfl rfl rfl rfl rfl rfl rfl rfl rfl rfl rfl (fun hb => ?_) ?_; rotate_left
  ·
   (try simp only [hcS] at hb)
   refine aqP (op_move rfl rfl) ?_
   (refine aqP (op_eql rfl rfl rfl) ?_)
   (refine aqSeg rfl rfl rfl ?_; repeat (first | exact fun _ _ => rfl | refine upd_out rfl ?_))
  simp only [nA]
  refine aqP (op_move rfl rfl) ?_
  refine' aqAnd' [_, _] [114,115] rfl rfl rfl rfl rfl rfl rfl rfl rfl rfl rfl rfl (fun hb => ?_) ?_; rotate_left
  ·
   (try simp only [hcS] at hb)
   refine aqP (op_move rfl rfl) ?_
   (refine aqP (op_eql rfl rfl rfl) ?_)
   (refine aqSeg rfl rfl rfl ?_; repeat (first | exact fun _ _ => rfl | refine upd_out rfl ?_))
  simp only [nA]
  refine aqP (op_move rfl rfl) ?_
  refine' aqAnd' [_, _, _] [118,119,120] rfl rfl rfl rfl rfl rfl rfl rfl rfl rfl rfl rfl (fun hb => ?_) ?_; rotate_left
  ·
   (try simp only [hcS] at hb)
   (refine aqP (op_fa_ptr rfl rfl rfl fl33_2 (by exact sz3) (by decide) rfl) ?_)
   (refine aqR (op_load_ptr1 rfl rfl rfl rfl ag3 rfl rfl) ?_)
   (refine aqP (op_eql rfl rfl rfl) ?_)
   (refine aqSeg rfl rfl rfl ?_; repeat (first | exact fun _ _ => rfl | refine upd_out rfl ?_))
  simp only [nA]
  refine aqP (op_move rfl rfl) ?_
  refine' aqAnd' [_, _] [123,124] rfl rfl rfl rfl rfl rfl rfl rfl rfl rfl rfl rfl (fun hb => ?_) ?_; rotate_left
  ·
   (try simp only [hcS] at hb)
   refine aqP (op_move rfl rfl) ?_
   (refine aqP (op_eql rfl rfl rfl) ?_)
   (refine aqSeg rfl rfl rfl ?_; repeat (first | exact fun _ _ => rfl | refine upd_out rfl ?_))
  simp only [nA]
  refine aqP (op_move rfl rfl) ?_
  refine' aqAnd' [_, _] [127,128] rfl rfl rfl rfl rfl rfl rfl rfl rfl rfl rfl rfl (fun hb => ?_) ?_; rotate_left
  ·
   (try simp only [hcS] at hb)
   refine aqP (op_move rfl rfl) ?_
   (refine aqP (op_eql rfl rfl rfl) ?_)
   (refine aqSeg rfl rfl rfl ?_; repeat (first | exact fun _ _ => rfl | refine upd_out rfl ?_))
  simp only [nA]
  refine aqP (op_assign rfl rfl) ?_
  refine AQ.nil ?_
  (refine hK _ ?_; clear hK K; (simp only [nA]))
  skip
  refine AW.ret ?_; exact RQ.of0 rfl (.tmp (bl rfl) rfl rfl .nil)
end Go.Proofs.Ytdnofpggdddimaa
namespace Go.Proofs.Ytdnofpggdddimaa
open Go.RowKit
set_option linter.unusedSimpArgs false
set_option linter.unusedVariables false
set_option maxRecDepth 100000
abbrev gr0 (i j : Int) : Grant := ⟨⟨platesP i, 10 + i, 0⟩, flightN j⟩
def grS (l : List Int) : Nat → Nat → Nat → List Grant → Nat × List Grant
  | 0, _, k, a => (k, a)
  | f + 1, i, k, a => if gmod (rawV l k) 2 = 0 then grS l f (i + 1) (rawN l (rawN l k)) (a ++ [gr0 i (gmod (rawV l (rawN l k)) 3)]) else grS l f (i + 1) (rawN l k) a
theorem grS_succ (l : List Int) (f i k : Nat) (a : List Grant) : grS l (f + 1) i k a = if gmod (rawV l k) 2 = 0 then grS l f (i + 1) (rawN l (rawN l k)) (a ++ [gr0 i (gmod (rawV l (rawN l k)) 3)]) else grS l f (i + 1) (rawN l k) a := rfl
theorem C30 {l : List Int} {k0 n : Nat} (hl : l.length ≤ 2000) (hn : n ≤ 100) : Fn Try.prog 30 [.own 81 [srcRow l k0]] [.ptr 0 0 0 0, .v (.int .i64 (n : Nat))] [.ro ((grS l n 0 k0 []).2.map Grant.av)] [.own 81 [srcRow l (grS l n 0 k0 []).1]] := by
  refine Spec.body Try.func30 rfl Try.ntmps30 (by simp) rfl ?_; intro S0 own0 v0 w0
  (refine AW.seq_k ?_; intro K hK)
  refine AW.region ?_
  refine awP (op_assign rfl rfl) ?_
  refine AWL.nil ?_
  (refine hK _ ?_; clear hK K; (simp only [nA, Nat.reduceBEq, Nat.reduceEqDiff, ↓reduceIte, Nat.reduceAdd, Nat.reduceSub]))
  (refine AW.seq_k ?_; intro K hK)
  refine AW.region ?_
  refine awP (op_assign rfl rfl) ?_
  refine AWL.nil ?_
  (refine hK _ ?_; clear hK K; (simp only [nA, Nat.reduceBEq, Nat.reduceEqDiff, ↓reduceIte, Nat.reduceAdd, Nat.reduceSub]))
  (refine AW.seq_k ?_; intro K hK)
  (refine AW.seq_k ?_; intro K hK)
  refine AW.region ?_
  refine awP (op_assign rfl rfl) ?_
  refine AWL.nil ?_
  (refine hK _ ?_; clear hK K; (simp only [nA, Nat.reduceBEq, Nat.reduceEqDiff, ↓reduceIte, Nat.reduceAdd, Nat.reduceSub]))
  refine AW.block ?_
  refine AW.gh (Gh.nil (e := 75) 5 (bl rfl) rfl sz75) ?_; (simp only [nA, Nat.reduceBEq, Nat.reduceEqDiff, ↓reduceIte]); refine AW.loopI (fun (q : Nat × Nat × Nat × List Grant × Nat × Nat) => [(0, .ptr 0 0 0 0), (1, .v (.int .i64 (n : Nat))), (5, .sl 1 q.2.2.2.2.1 0 q.2.2.2.1.length), (6, .v (.int .i64 (q.2.1 : Nat)))]) (fun q => ⟨[(0, .own 81 [srcRow l q.2.2.1]), (q.2.2.2.2.1, .own 75 (q.2.2.2.1.map Grant.av))], q.2.2.2.2.2⟩) (fun q => q.1 + q.2.1 = n ∧ q.2.2.2.1.length ≤ q.2.1 ∧ grS l q.1 q.2.1 q.2.2.1 q.2.2.2.1 = grS l n 0 k0 []) (fun q => q.1) (n, 0, k0, [], _, _) ⟨by simp, by simp, rfl⟩ ⟨rfl, rfl, rfl, rfl, trivial⟩ rfl ?_; rintro ⟨f, i, k, a, v, ep⟩ ρ hI; dsimp only at hI ⊢; simp only [updL]
  (refine AW.seq_k ?_; intro K hK)
  (refine AW.seq_k ?_; intro K hK)
  refine AW.region ?_
  refine awP (op_move rfl rfl) ?_
  refine awP (op_move rfl rfl) ?_
  refine awP (op_lss rfl rfl rfl) ?_
  refine AWL.nil ?_
  (refine hK _ ?_; clear hK K; (simp only [nA, ↓reduceIte]))
  refine AW.cond rfl rfl rfl (fun hc => ?_) (fun hc => ?_)
  ·
   (try simp only [hcS] at hc); have hc1 := hc; obtain ⟨f, rfl⟩ : ∃ g, f = g + 1 := (by have h : (i : Int) < n := (by simpa using hc1); exact ⟨f - 1, by omega⟩); have hR := hI.2.2; rw [grS_succ] at hR; have hg3 := gmod_bd (x := rawV l (rawN l k)) (n := 3) (by decide)
   refine AW.skip ?_
   (refine hK _ ?_; clear hK K; (skip))
   (refine AW.seq_k ?_; intro K hK)
   refine AW.block ?_
   (refine AW.seq_k ?_; intro K hK)
   refine AW.region ?_
   refine awP (op_move rfl rfl) ?_
   refine awJ (op_call1 rfl en12 (C12 (n := 2) hl (by decide)) (by exact rfl) (RL.cons .ptr (RL.cons (.base (by exact View.same rfl)) (RL.nil))) (by exact ⟨_, _, _, rfl, rfl, rfl⟩) (by exact rfl) (by exact rfl) (by exact rfl)) ?_; (simp only [nA, ↓reduceIte])
   (refine awP (op_eql rfl rfl rfl) ?_)
   refine AWL.nil ?_
   (refine hK _ ?_; clear hK K; (simp only [nA, Nat.reduceBEq, Nat.reduceEqDiff, ↓reduceIte, Nat.reduceAdd, Nat.reduceSub]))
   refine AW.cond rfl rfl rfl (fun hc => ?_) (fun hc => ?_)
   ·
    (try simp only [hcS] at hc); have hc2 := hc
    refine AW.region ?_
    refine awP (op_move rfl rfl) ?_
    refine awP (op_move rfl rfl) ?_
    refine awJ (op_call (b := false) rfl en57 (C57 (i := (i : Nat))) (RL.cons (by exact View.same rfl) (RL.nil)) rfl (fun h => by cases h) rfl rfl) ?_; (simp only [nA, ↓reduceIte])
    refine awP (op_move rfl rfl) ?_
    (refine awP (op_addi rfl rfl rfl (by omega)) ?_)
    refine awP (op_build2 (xs := [_, _, _, _, .v (.int .i64 0)]) rfl pl31 ze31 [(0, [_, _, _]), (1, [_])] rfl rfl rfl) ?_
    refine awP (op_move rfl rfl) ?_
    refine awJ (op_call1 rfl en12 (C12 (n := 3) hl (by decide)) (by exact rfl) (RL.cons .ptr (RL.cons (.base (by exact View.same rfl)) (RL.nil))) (by exact ⟨_, _, _, rfl, rfl, rfl⟩) (by exact rfl) (by exact rfl) (by exact rfl)) ?_; (simp only [nA, ↓reduceIte])
    refine awJ (op_call (b := false) rfl en45 (C45 _ hg3) (RL.cons (by exact View.same rfl) (RL.nil)) rfl (fun h => by cases h) rfl rfl) ?_; (simp only [nA, Nat.reduceBEq, Nat.reduceEqDiff, ↓reduceIte, Nat.reduceAdd, Nat.reduceSub])
    refine awP (op_build2 (xs := [_, _, _, _, _, _, _, _, _]) rfl pl75 ze75 [(0, [_, _, _, _, _]), (1, [_, _, _, _])] rfl rfl rfl) ?_
    refine awJ (OpJ.frz (op_buildSlice rfl [(0, ((gr0 (i : Nat) (gmod (rawV l (rawN l k)) 3))).av)] [((gr0 (i : Nat) (gmod (rawV l (rawN l k)) 3))).av] Try.underlying22 ze75 rfl (by simp) rfl (by simp) rfl (bl rfl) (by simp [maxLen])) (gav_flat [(gr0 (i : Nat) (gmod (rawV l (rawN l k)) 3))]) rfl) ?_; (simp only [nA, Nat.reduceBEq, Nat.reduceEqDiff, ↓reduceIte, Nat.reduceAdd, Nat.reduceSub])
    refine awJ (op_app (r := 1) (rows := [((gr0 (i : Nat) (gmod (rawV l (rawN l k)) 3))).av]) rfl rfl rfl rfl (by simp) .ro Try.underlying22 ze75 (by decide) (gav_len [(gr0 (i : Nat) (gmod (rawV l (rawN l k)) 3))]) (by simp; omega) (by decide) (es' := (a ++ [(gr0 (i : Nat) (gmod (rawV l (rawN l k)) 3))]).map Grant.av) (by simp) (n := (a ++ [(gr0 (i : Nat) (gmod (rawV l (rawN l k)) 3))]).length) (by simp)) ?_; (simp only [nA, Nat.reduceBEq, Nat.reduceEqDiff, ↓reduceIte, Nat.reduceAdd, Nat.reduceSub])
    refine awP (op_assign rfl rfl) ?_
    refine AWL.nil ?_
    simp only [thenE, inBlk, Nat.reduceEqDiff, ↓reduceIte]
    (refine hK _ ?_; clear hK K; (simp only [nA]))
    refine AW.region ?_
    refine awP (op_move rfl rfl) ?_
    (refine awP (op_addi rfl rfl rfl (by omega)) ?_)
    refine awP (op_assign rfl rfl) ?_
    skip
    refine AWL.nil ?_
    refine ⟨(f, i + 1, rawN l (rawN l k), a ++ [(gr0 (i : Nat) (gmod (rawV l (rawN l k)) 3))], _, _), ⟨by dsimp only; omega, by simp; omega, by rw [← hR, if_pos (by simpa using hc2)]⟩, by dsimp only; omega, ⟨rfl, rfl, rfl, rfl, trivial⟩, (by rfl), (by rfl)⟩
   (try simp only [hcS] at hc); have hc2 := hc
   refine AW.skip ?_
   simp only [thenE, inBlk, Nat.reduceEqDiff, ↓reduceIte]
   (refine hK _ ?_; clear hK K; (skip))
   refine AW.region ?_
   refine awP (op_move rfl rfl) ?_
   (refine awP (op_addi rfl rfl rfl (by omega)) ?_)
   refine awP (op_assign rfl rfl) ?_
   skip
   refine AWL.nil ?_
   refine ⟨(f, i + 1, rawN l k, a, _, _), ⟨by dsimp only; omega, by dsimp only; omega, by rw [← hR, if_neg (by simpa using hc2)]⟩, by dsimp only; omega, ⟨rfl, rfl, rfl, rfl, trivial⟩, (by rfl), (by rfl)⟩
  (try simp only [hcS] at hc); have hc1 := hc; obtain rfl : f = 0 := (by have h : ¬ ((i : Int) < n) := (by simpa using hc1); omega); have hE : grS l n 0 k0 [] = (k, a) := hI.2.2.symm
  refine AW.exit ?_; (simp only [thenE, inBlk, Nat.reduceEqDiff, ↓reduceIte])
  clear hK K
  (refine hK _ ?_; clear hK K; (skip))
  (refine AW.seq_k ?_; intro K hK)
  refine AW.region ?_
  refine awP (op_move rfl rfl) ?_
  refine awP (op_assign rfl rfl) ?_
  refine AWL.nil ?_
  (refine hK _ ?_; clear hK K; (simp only [nA, ↓reduceIte]))
  refine AW.gh (Gh.freeze 4 (bl rfl) rfl rfl (gav_flat a) (es' := a.map Grant.av) (List.take_of_length_le (by simp))) ?_; (simp only [nA, Nat.reduceBEq, Nat.reduceEqDiff, ↓reduceIte, Nat.reduceAdd, Nat.reduceSub])
  refine AW.ret ?_; rw [hE]; exact RQ.of (.inl rfl) rfl (.tmp (bl rfl) rfl rfl .nil) (by simp) rfl (one_out rfl)
abbrev em0 (m j : Int) : Container := ⟨m, flightN j, 31, 500, 20, m, 0, []⟩
def emS (l : List Int) : Nat → Nat → List Container → Nat × List Container
  | 0, k, a => (k, a)
  | f + 1, k, a => emS l f (rawN l k) (a ++ [em0 ((a.length : Int) + 1) (gmod (rawV l k) 3)])
theorem em_le (m j : Int) (cs : List Container) : RL (Le2 Try.prog) (cs.map Container.av ++ [nilC (em0 m j)]).flatten ((cs ++ [em0 m j]).map Container.av).flatten := by
  rw [List.map_append, List.flatten_append, List.flatten_append]
  refine RL.append (RL.refl_le _) ?_
  exact RL.cons .same (RL.cons .same (RL.cons .same (RL.cons .same (RL.cons .same (RL.cons .same (RL.cons .same (RL.cons .same (RL.cons .same (RL.cons .same (RL.cons .nil RL.nil))))))))))
def emptiesV (l : List Int) (k n : Nat) : Nat × List Container := emS l (idxV l k (n + 1)) (rawN l k) []
theorem C38 {l : List Int} {k0 n : Nat} (hl : l.length ≤ 2000) (hn : n ≤ 100) : Fn Try.prog 38 [.own 81 [srcRow l k0]] [.ptr 0 0 0 0, .v (.int .i64 (n : Nat))] [.ro ((emptiesV l k0 n).2.map Container.av)] [.own 81 [srcRow l (emptiesV l k0 n).1]] := by
  have hk0 := idxV_lt l k0 (n := n + 1) (by omega)
  refine Spec.body Try.func38 rfl Try.ntmps38 (by simp) rfl ?_; intro S0 own0 v0 w0
  (refine AW.seq_k ?_; intro K hK)
  refine AW.region ?_
  refine awP (op_assign rfl rfl) ?_
  refine AWL.nil ?_
  (refine hK _ ?_; clear hK K; (simp only [nA, Nat.reduceBEq, Nat.reduceEqDiff, ↓reduceIte, Nat.reduceAdd, Nat.reduceSub]))
  (refine AW.seq_k ?_; intro K hK)
  refine AW.region ?_
  refine awP (op_assign rfl rfl) ?_
  refine AWL.nil ?_
  (refine hK _ ?_; clear hK K; (simp only [nA, Nat.reduceBEq, Nat.reduceEqDiff, ↓reduceIte, Nat.reduceAdd, Nat.reduceSub]))
  (refine AW.seq_k ?_; intro K hK)
  (refine AW.seq_k ?_; intro K hK)
  refine AW.region ?_
  refine awP (op_move rfl rfl) ?_
  refine awP (op_move rfl rfl) ?_
  (refine awP (op_addi rfl rfl rfl (by omega)) ?_)
  refine awJ (op_call1 rfl en12 (C12n (n := n + 1) hl (by omega) (by omega)) (by exact rfl) (RL.cons .ptr (RL.cons (.base (by exact View.same rfl)) (RL.nil))) (by exact ⟨_, _, _, rfl, rfl, rfl⟩) (by exact rfl) (by exact rfl) (by exact rfl)) ?_; (simp only [nA, ↓reduceIte])
  refine awP (op_assign rfl rfl) ?_
  refine AWL.nil ?_
  (refine hK _ ?_; clear hK K; (simp only [nA]))
  refine AW.block ?_
  refine AW.gh (Gh.nil (e := 77) 5 (bl rfl) rfl sz77) ?_; (simp only [nA, Nat.reduceBEq, Nat.reduceEqDiff, ↓reduceIte]); refine AW.loopI (fun (q : Nat × Nat × List Container × Nat × Nat) => [(0, .ptr 0 0 0 0), (5, .sl 1 q.2.2.2.1 0 q.2.2.1.length), (6, .v (.int .i64 (q.1 : Nat)))]) (fun q => ⟨[(0, .own 81 [srcRow l q.2.1]), (q.2.2.2.1, .own 77 (q.2.2.1.map Container.av))], q.2.2.2.2⟩) (fun q => q.2.2.1.length + q.1 = idxV l k0 (n + 1) ∧ emS l q.1 q.2.1 q.2.2.1 = emptiesV l k0 n) (fun q => q.1) (idxV l k0 (n + 1), rawN l k0, [], _, _) ⟨by simp, rfl⟩ ⟨rfl, rfl, rfl, trivial⟩ rfl ?_; rintro ⟨f, k, a, v, ep⟩ ρ hI; dsimp only at hI ⊢; simp only [updL]
  (refine AW.seq_k ?_; intro K hK)
  (refine AW.seq_k ?_; intro K hK)
  refine AW.region ?_
  refine awP (op_move rfl rfl) ?_
  refine awP (op_gtr rfl rfl rfl) ?_
  refine AWL.nil ?_
  (refine hK _ ?_; clear hK K; (simp only [nA, ↓reduceIte]))
  refine AW.cond rfl rfl rfl (fun hc => ?_) (fun hc => ?_)
  ·
   (try simp only [hcS] at hc); have hc1 := hc; obtain ⟨f, rfl⟩ : ∃ g, f = g + 1 := (by have h : (f : Int) > 0 := (by simpa using hc1); exact ⟨f - 1, by omega⟩); have hR := hI.2; unfold emS at hR; have hg3 := gmod_bd (x := rawV l k) (n := 3) (by decide)
   refine AW.skip ?_
   (refine hK _ ?_; clear hK K; (skip))
   (refine AW.seq_k ?_; intro K hK)
   refine AW.block ?_
   refine AW.region ?_
   refine awP (op_move rfl rfl) ?_
   refine awP (op_move rfl rfl) ?_
   (refine awP (op_len_sl rfl rfl rfl Try.underlying23) ?_)
   (refine awP (op_addi rfl rfl rfl (by omega)) ?_)
   refine awP (op_move rfl rfl) ?_
   refine awJ (op_call1 rfl en12 (C12 (n := 3) hl (by decide)) (by exact rfl) (RL.cons .ptr (RL.cons (.base (by exact View.same rfl)) (RL.nil))) (by exact ⟨_, _, _, rfl, rfl, rfl⟩) (by exact rfl) (by exact rfl) (by exact rfl)) ?_; (simp only [nA, ↓reduceIte])
   refine awJ (op_call (b := false) rfl en45 (C45 _ hg3) (RL.cons (by exact View.same rfl) (RL.nil)) rfl (fun h => by cases h) rfl rfl) ?_; (simp only [nA, Nat.reduceBEq, Nat.reduceEqDiff, ↓reduceIte, Nat.reduceAdd, Nat.reduceSub])
   refine awP (op_move rfl rfl) ?_
   (refine awP (op_len_sl rfl rfl rfl Try.underlying23) ?_)
   (refine awP (op_addi rfl rfl rfl (by omega)) ?_)
   refine awP (op_build2 (xs := [_, _, _, _, _, _, _, _, _, .v (.int .i64 0), .v (.slice none 0 0)]) rfl pl77 ze77 [(0, [_]), (1, [_, _, _, _]), (2, [_]), (3, [_]), (4, [_]), (5, [_])] rfl rfl rfl) ?_
   refine awJ (OpJ.frz (op_buildSlice rfl [(0, nilC ((em0 ((a.length : Int) + 1) (gmod (rawV l k) 3))))] [nilC ((em0 ((a.length : Int) + 1) (gmod (rawV l k) 3)))] Try.underlying23 ze77 rfl (by simp) rfl (by simp) rfl (bl rfl) (by simp [maxLen])) (by simp [flatA]) rfl) ?_; (simp only [nA, ↓reduceIte])
   refine awJ (op_app (r := 1) (rows := [nilC ((em0 ((a.length : Int) + 1) (gmod (rawV l k) 3)))]) rfl rfl rfl rfl (by simp) .ro Try.underlying23 ze77 (by decide) (by simp) (by simp; omega) (by decide) (es' := a.map Container.av ++ [nilC ((em0 ((a.length : Int) + 1) (gmod (rawV l k) 3)))]) rfl (n := (a ++ [(em0 ((a.length : Int) + 1) (gmod (rawV l k) 3))]).length) (by simp)) ?_; (simp only [nA, Nat.reduceBEq, Nat.reduceEqDiff, ↓reduceIte, Nat.reduceAdd, Nat.reduceSub]); refine AWL.gh (Gh.slot2 (r := 1) (es' := (a ++ [(em0 ((a.length : Int) + 1) (gmod (rawV l k) 3))]).map Container.av) rfl (by simp) (em_le _ _ _)) ?_; (simp only [nA, Nat.reduceBEq, Nat.reduceEqDiff, ↓reduceIte, Nat.reduceAdd, Nat.reduceSub])
   refine awP (op_assign rfl rfl) ?_
   refine AWL.nil ?_
   simp only [thenE, inBlk, Nat.reduceEqDiff, ↓reduceIte]
   (refine hK _ ?_; clear hK K; (simp only [nA]))
   refine AW.region ?_
   refine awP (op_move rfl rfl) ?_
   (refine awP (op_subi rfl rfl rfl (by omega)) ?_)
   refine awP (op_assign rfl rfl) ?_
   skip
   refine AWL.nil ?_
   refine ⟨(f, rawN l k, a ++ [(em0 ((a.length : Int) + 1) (gmod (rawV l k) 3))], _, _), ⟨by simp; omega, by rw [← hR]⟩, by dsimp only; omega, ⟨rfl, rfl, (by show AV.v (Value.int .i64 (((f + 1 : Nat) : Int) - 1)) = AV.v (Value.int .i64 (f : Nat)); congr 2; omega), trivial⟩, (by rfl), (by rfl)⟩
  (try simp only [hcS] at hc); have hc1 := hc; obtain rfl : f = 0 := (by have h : ¬ ((f : Int) > 0) := (by simpa using hc1); omega); have hE : emptiesV l k0 n = (k, a) := hI.2.symm
  refine AW.exit ?_; (simp only [thenE, inBlk, Nat.reduceEqDiff, ↓reduceIte])
  clear hK K
  (refine hK _ ?_; clear hK K; (skip))
  (refine AW.seq_k ?_; intro K hK)
  refine AW.region ?_
  refine awP (op_move rfl rfl) ?_
  refine awP (op_assign rfl rfl) ?_
  refine AWL.nil ?_
  (refine hK _ ?_; clear hK K; (simp only [nA, ↓reduceIte]))
  refine AW.gh (Gh.freeze 4 (bl rfl) rfl rfl (conv_flat a) (es' := a.map Container.av) (List.take_of_length_le (by simp))) ?_; (simp only [nA, Nat.reduceBEq, Nat.reduceEqDiff, ↓reduceIte, Nat.reduceAdd, Nat.reduceSub])
  refine AW.ret ?_; rw [hE]; exact RQ.of (.inl rfl) rfl (.tmp (bl rfl) rfl rfl .nil) (by simp) rfl (one_out rfl)
end Go.Proofs.Ytdnofpggdddimaa
namespace Go.Proofs.Ytdnofpggdddimaa
open Go.RowKit
set_option linter.unusedSimpArgs false
set_option linter.unusedVariables false
set_option maxRecDepth 100000
structure GoodC (ys : List Container) : Prop where
  val : ∀ c ∈ ys, valC c = 0
  asc : ys.Pairwise fun c d => c.number < d.number
  pos : ∀ (i : Nat) (h : i < ys.length), ys[i].position = 0 ∨ ys[i].position = i + 1
  disj : ys.Pairwise fun c d => ∀ x ∈ c.pieces, ∀ y ∈ d.pieces, x.plate ≠ y.plate
theorem InvB.good {i : Nat} {cs : List Container} (h : InvB i cs) : GoodC cs := ⟨fun c hc => h.val hc, h.asc, h.pos, h.disj⟩
theorem chkP_some : ∀ (l : List Piece) (pl : List Plate), AscP l → (∀ x ∈ l, x.plate ∉ pl) → ∃ pl', chkP l pl = some pl' ∧ ∀ q, q ∈ pl' → q ∈ pl ∨ ∃ x ∈ l, x.plate = q
  | [], pl, _, _ => ⟨pl, rfl, fun q h => .inl h⟩
  | p :: l, pl, ha, hn => by
    have h1 := List.pairwise_cons.1 ha
    rw [chkP_cons, if_neg (hn p (by simp))]
    obtain ⟨pl', h2, h3⟩ := chkP_some l (p.plate :: pl) h1.2 (fun x hx hm => by
      rcases List.mem_cons.1 hm with e | hm
      · have := h1.1 x hx; rw [e] at this; exact PLt.irrefl _ this
      exact hn x (by simp [hx]) hm)
    refine ⟨pl', h2, fun q hq => ?_⟩
    rcases h3 q hq with h | ⟨x, hx, e⟩
    · rcases List.mem_cons.1 h with rfl | h
      · exact .inr ⟨p, by simp, rfl⟩
      exact .inl h
    exact .inr ⟨x, by simp [hx], e⟩
theorem chk_zero : ∀ (cs : List Container) (o : Option Int) (sp : List Container) (pl : List Plate), (∀ c ∈ cs, valC c = 0) → (cs.Pairwise fun c d => c.number < d.number) → (∀ m, o = some m → ∀ c ∈ cs, m < c.number) →
    (cs.Pairwise fun c d => c.position ≠ 0 → c.position ≠ d.position) → (∀ s ∈ sp, ∀ c ∈ cs, s.position ≠ c.position) → (∀ c ∈ cs, ∀ x ∈ c.pieces, x.plate ∉ pl) → (cs.Pairwise fun c d => ∀ x ∈ c.pieces, ∀ y ∈ d.pieces, x.plate ≠ y.plate) → chk o cs sp pl = 0
  | [], _, _, _, _, _, _, _, _, _, _ => rfl
  | c :: cs, o, sp, pl, hv, ha, ho, hp, hs, hpl, hd => by
    have ha1 := List.pairwise_cons.1 ha
    have hp1 := List.pairwise_cons.1 hp
    have hd1 := List.pairwise_cons.1 hd
    obtain ⟨pl', h2, h3⟩ := chkP_some c.pieces pl (val_asc (hv c (by simp))) (hpl c (by simp))
    unfold chk
    rw [if_neg (by simp [hv c (by simp)]), if_neg (by
      cases o with
      | none => simp [prevBad]
      | some m => have := ho m rfl c (by simp); unfold prevBad; simp; omega), if_neg (by
      rintro ⟨_, hm⟩
      obtain ⟨s, h4, h5⟩ := List.mem_map.1 hm
      exact hs s h4 c (by simp) (congrArg Spot.position h5)), h2]
    simp only
    refine chk_zero cs _ _ pl' (fun d hd => hv d (by simp [hd])) ha1.2 (fun m hm d hd => by injection hm with hm; rw [← hm]; exact ha1.1 d hd) hp1.2 (fun s h4 d hdm => ?_) (fun d hdm x hx hm => ?_) hd1.2
    · by_cases h0 : c.position ≠ 0
      · rw [if_pos h0] at h4
        rcases List.mem_cons.1 h4 with e | h4
        · rw [e]; exact hp1.1 d hdm h0
        exact hs s h4 d (List.mem_cons_of_mem _ hdm)
      rw [if_neg h0] at h4
      exact hs s h4 d (List.mem_cons_of_mem _ hdm)
    rcases h3 _ hm with h | ⟨y, hy, e⟩
    · exact hpl d (List.mem_cons_of_mem _ hdm) x hx h
    exact hd1.1 d hdm y hy x hx e
theorem GoodC.chk {ys : List Container} (h : GoodC ys) (hl : ys.length ≤ 24) : chkL ys = 0 := by
  unfold chkL
  rw [if_neg (by omega)]
  refine chk_zero ys none [] [] h.val h.asc (by simp) (List.pairwise_iff_getElem.2 fun i j hi hj hij h0 => ?_) (by simp) (by simp) h.disj
  rcases h.pos i hi with h1 | h1 <;> rcases h.pos j hj with h2 | h2 <;> omega
theorem co_bare (c : Container) : coB (bareC c) = coB c := rfl
theorem val_bare {c : Container} (h : valC c = 0) : valC (bareC c) = 0 :=
  val_intro (by rw [co_bare]; exact (val_inv h).1) (by simp [bareC]) (by simp [bareC]) (show Asc [] from ascP_iff.1 List.Pairwise.nil)
theorem chk_bare0 : ∀ (cs : List Container) (o : Option Int) (sp : List Container) (pl pl2 : List Plate), chk o cs sp pl = 0 → chk o (cs.map bareC) (sp.map bareC) pl2 = 0
  | [], _, _, _, _, _ => rfl
  | c :: cs, o, sp, pl, pl2, h => by
    unfold chk at h
    by_cases h1 : valC c ≠ 0
    · rw [if_pos h1] at h; exact absurd h h1
    rw [if_neg h1] at h
    by_cases h2 : prevBad o c.number = true
    · rw [if_pos h2] at h; cases h
    rw [if_neg h2] at h
    by_cases h3 : c.position ≠ 0 ∧ spotOf c ∈ sp.map spotOf
    · rw [if_pos h3] at h; cases h
    rw [if_neg h3] at h
    have e : (sp.map bareC).map spotOf = sp.map spotOf := by rw [List.map_map]; rfl
    rw [List.map_cons]
    unfold chk
    rw [if_neg (by simp [val_bare (by simpa using h1)]), if_neg (show ¬ prevBad o (bareC c).number = true from h2), if_neg (show ¬ ((bareC c).position ≠ 0 ∧ spotOf (bareC c) ∈ (sp.map bareC).map spotOf) by rw [e]; exact h3), show chkP (bareC c).pieces pl2 = some pl2 from rfl]
    simp only
    cases hp : chkP c.pieces pl with
    | none => rw [hp] at h; cases h
    | some pl' =>
      rw [hp] at h
      simp only at h
      have := chk_bare0 cs (some c.number) _ pl' pl2 h
      by_cases h0 : c.position ≠ 0
      · rw [if_pos h0] at this
        rw [if_pos (show (bareC c).position ≠ 0 from h0)]
        exact this
      rw [if_neg h0] at this
      rw [if_neg (show ¬ (bareC c).position ≠ 0 from h0)]
      exact this
theorem chk_bare {cs : List Container} (h : chkL cs = 0) : chkL (cs.map bareC) = 0 := by
  unfold chkL at h ⊢
  rw [List.length_map]
  by_cases hl : (cs.length : Int) > 24
  · rw [if_pos hl] at h; cases h
  rw [if_neg hl] at h ⊢
  exact chk_bare0 cs none [] [] [] h
theorem emp_bare {cs : List Container} (h : chkL cs = 0) : empB (cs.map bareC) = true := by
  unfold empB
  rw [chk_bare h, List.all_eq_true.2 fun c hc => by obtain ⟨d, _, rfl⟩ := List.mem_map.1 hc; rfl]
  rfl
theorem chk_len {cs : List Container} (h : chkL cs = 0) : cs.length ≤ 24 := by
  unfold chkL at h
  by_cases hl : (cs.length : Int) > 24
  · rw [if_pos hl] at h; cases h
  omega
theorem grsE_all {g : List Grant} (h : grsE g = 0) : ∀ k, k < g.length → grErr g k = 0 := by
  intro k hk
  refine Classical.byContradiction fun hne => ?_
  have : ∃ i, i < g.length ∧ grErr g i ≠ 0 ∧ ∀ j, j < i → grErr g j = 0 := by
    revert hk hne
    induction k using Nat.strongRecOn with
    | _ k ih =>
      intro hk hne
      by_cases hall : ∀ j, j < k → grErr g j = 0
      · exact ⟨k, hk, hne, hall⟩
      obtain ⟨j, hj⟩ := Classical.not_forall.1 hall
      obtain ⟨hjk, hj0⟩ := Classical.not_imp.1 hj
      exact ih j hjk (by omega) hj0
  obtain ⟨i, hi, hne, hz⟩ := this
  rw [grsE_at hi hz rfl hne] at h
  exact hne h
theorem grBad_of {g : List Grant} {k : Nat} (h : grErr g k = 0) : grBad g k = false := by
  unfold grErr at h
  unfold grBad
  by_cases h1 : grB (g.getD k default) = false
  · rw [if_pos h1] at h; cases h
  rw [if_neg h1] at h
  by_cases h2 : (decide ((k : Int) > 0) && decide (cmpP (g.getD (k - 1) default).piece.plate (g.getD k default).piece.plate ≥ 0)) = true
  · rw [if_pos h2] at h; cases h
  rw [show (decide ((k : Int) > 0) && decide (cmpP (g.getD (k - 1) default).piece.plate (g.getD k default).piece.plate ≥ 0)) = false by simpa using h2, show grB (g.getD k default) = true by simpa using h1]
  rfl
theorem grs_of {g : List Grant} (h : grsE g = 0) (hl : ¬ (g.length : Int) > 60) : grsB g = true := by
  rw [grs_yes (i := g.length) (by omega) fun k hk => grBad_of (grsE_all h k hk), decide_eq_true (by omega)]
theorem off_parts {h : Hand} {g : List Grant} {c : List Container} (he : offE h g c = 0) : valH h = 0 ∧ h.offline = false ∧ ¬ (g.length : Int) > 60 ∧ grsE g = 0 ∧ chkL c = 0 := by
  unfold offE at he
  by_cases h1 : valH h ≠ 0
  · rw [if_pos h1] at he; exact absurd he h1
  rw [if_neg h1] at he
  by_cases h2 : h.offline = true
  · rw [if_pos h2] at he; cases he
  rw [if_neg h2] at he
  by_cases h3 : (g.length : Int) > 60
  · rw [if_pos h3] at he; cases he
  rw [if_neg h3] at he
  by_cases h4 : grsE g ≠ 0
  · rw [if_pos h4] at he; exact absurd he h4
  rw [if_neg h4] at he
  exact ⟨by simpa using h1, by simpa using h2, h3, by simpa using h4, he⟩
theorem off_valid {h : Hand} {g : List Grant} {c : List Container} (he : offE h g c = 0) (hl : h.log = []) : valH (offH h g c) = 0 := by
  obtain ⟨h1, h2, h3, h4, h5⟩ := off_parts he
  have hv := val_parts h1
  refine val_0 hv.1 rfl (grs_of h4 h3) (emp_bare h5) ?_
  unfold logB lgLast offH
  rw [hl]
  rfl
theorem emp_parts {cs : List Container} (h : empB cs = true) : chkL cs = 0 := by
  unfold empB at h
  simp only [Bool.and_eq_true, decide_eq_true_eq] at h
  exact h.2
theorem scan_parts {h : Hand} {k : Int} {p : Piece} {n t : Int} (he : scanE h k p n t = 0) : valH h = 0 ∧ (k = 1 ∨ k = 2) ∧ piB p = true ∧ inB n 1 999 = true ∧ inB t 0 1048576 = true ∧ h.last ≤ t ∧ h.next ≠ 1048576 ∧ (h.offline = true → (h.log.length : Int) ≠ 60) ∧ (h.offline = true → k = 1 → loadErr h p n = 0) := by
  have hv := scan_val he
  unfold scanE at he
  rw [if_neg (by rw [hv]; decide)] at he
  by_cases h2 : (!decide (k = 1) && !decide (k = 2)) = true
  · rw [if_pos h2] at he; cases he
  rw [if_neg h2] at he
  by_cases h3 : ((!piB p || !inB n 1 999) || !inB t 0 1048576) = true
  · rw [if_pos h3] at he; cases he
  rw [if_neg h3] at he
  by_cases h4 : t < h.last
  · rw [if_pos h4] at he; cases he
  rw [if_neg h4] at he
  by_cases h5 : (decide (h.next = 1048576) || (h.offline && decide ((h.log.length : Int) = 60))) = true
  · rw [if_pos h5] at he; cases he
  rw [if_neg h5] at he
  simp only [Bool.or_eq_true, Bool.not_eq_true', not_or, Bool.not_eq_false] at h3
  simp only [Bool.or_eq_true, Bool.and_eq_true, decide_eq_true_eq, not_or, not_and] at h5
  refine ⟨hv, ?_, h3.1.1, h3.1.2, h3.2, by omega, h5.1, fun ho => h5.2 ho, fun ho hk => ?_⟩
  · by_cases hk : k = 1
    · exact .inl hk
    refine .inr ?_
    simp [hk] at h2
    exact h2
  rw [if_pos (by rw [ho, hk]; rfl)] at he; exact he
theorem getD_append_l {α : Type} [Inhabited α] {l : List α} {x : α} {i : Nat} (h : i < l.length) : (l ++ [x]).getD i default = l.getD i default := by
  rw [List.getD_eq_getElem?_getD, List.getD_eq_getElem?_getD, List.getElem?_append_left h]
theorem getD_append_r {α : Type} [Inhabited α] {l : List α} {x : α} : (l ++ [x]).getD l.length default = x := by
  rw [List.getD_eq_getElem?_getD, List.getElem?_append_right (Nat.le_refl _)]; simp
theorem log_parts {h : Hand} (hl : logB h = true) : (h.log.length : Int) ≤ 60 ∧ (∀ i, i < h.log.length → lgBad h i = false) ∧ lgLast h = true := by
  unfold logB at hl
  simp only [Bool.and_eq_true, decide_eq_true_eq, List.all_eq_true, Bool.not_eq_true'] at hl
  exact ⟨hl.1.1, fun i hi => hl.1.2 i (List.mem_range.2 hi), hl.2⟩
theorem log_intro {h : Hand} (h1 : (h.log.length : Int) ≤ 60) (h2 : ∀ i, i < h.log.length → lgBad h i = false) (h3 : lgLast h = true) : logB h = true := by
  rw [log_yes (i := h.log.length) (by omega) h2, h3, decide_eq_true h1]; rfl
theorem in_spec {n lo hi : Int} : inB n lo hi = true ↔ lo ≤ n ∧ n ≤ hi := by
  unfold inB
  simp only [Bool.and_eq_true, decide_eq_true_eq]
theorem op_new {h : Hand} {k : Int} {p : Piece} {n t : Int} (he : scanE h k p n t = 0) : opB (newOp h k p n t) = true := by
  obtain ⟨hv, hk, hp, hn, ht, -, -, -, -⟩ := scan_parts he
  have hnum := (val_parts hv).1
  unfold numB at hnum
  simp only [Bool.and_eq_true] at hnum
  unfold opB newOp
  simp only
  rw [if_neg (by rw [ht, hnum.1.1, hnum.1.2]; decide), hn, hp]
  rcases hk with rfl | rfl <;> simp
theorem scan_valid {h : Hand} {k : Int} {p : Piece} {n t : Int} (he : scanE h k p n t = 0) : valH (scanH h k p n t) = 0 := by
  obtain ⟨hv, hk, hp, hn, ht, hlt, hnx, h60, -⟩ := scan_parts he
  obtain ⟨v1, v2, v3, v4, v5⟩ := val_parts hv
  have hne := num_next v1
  have hnum := v1
  unfold numB at hnum
  simp only [Bool.and_eq_true] at hnum
  refine val_0 ?_ ?_ v3 (emp_bare (emp_parts v4)) ?_
  · unfold numB scanH
    simp only
    rw [hnum.1.1, ht, in_spec.2 (by omega)]; rfl
  · unfold barB scanH at *
    simp only [List.length_map] at *
    by_cases ho : h.offline = true
    · rw [ho]; rfl
    rw [if_neg ho]; exact v2
  by_cases ho : h.offline = true
  · obtain ⟨l1, l2, l3⟩ := log_parts v5
    have e : scanH h k p n t = ⟨h.number, h.next + 1, t, h.offline, h.grants, h.conts.map bareC, h.log ++ [newOp h k p n t]⟩ := by unfold scanH; rw [if_pos ho]
    rw [e]
    refine log_intro (by have := h60 ho; simp; omega) (fun i hi => ?_) ?_
    · simp only [List.length_append, List.length_cons, List.length_nil] at hi
      unfold lgBad
      simp only [List.length_append, List.length_cons, List.length_nil]
      rcases Nat.lt_or_ge i h.log.length with hi' | hi'
      · have := l2 i hi'
        unfold lgBad at this
        rw [getD_append_l hi', getD_append_l (l := h.log) (by omega : i - 1 < h.log.length), show h.next + 1 - ((h.log.length + (0 + 1) : Nat) : Int) = h.next - h.log.length by omega]
        exact this
      obtain rfl : i = h.log.length := by omega
      rw [getD_append_r, op_new he, show h.next + 1 - ((h.log.length + (0 + 1) : Nat) : Int) + (h.log.length : Nat) = h.next by omega]
      simp only [newOp, Bool.not_true, decide_true, Bool.or_false, Bool.false_or]
      rw [Bool.and_eq_false_iff]
      rcases Nat.eq_zero_or_pos h.log.length with h0 | h0
      · left; rw [h0]; rfl
      right
      have e2 := getD_append_l (l := h.log) (x := newOp h k p n t) (by omega : h.log.length - 1 < h.log.length)
      unfold lgLast at l3
      rw [decide_eq_false (by omega), Bool.false_or, decide_eq_true_eq] at l3
      refine decide_eq_false ?_
      show ¬ t < ((h.log ++ [newOp h k p n t]).getD (h.log.length - 1) default).time
      rw [e2]
      omega
    unfold lgLast
    simp only [List.length_append, List.length_cons, List.length_nil]
    rw [show h.log.length + (0 + 1) - 1 = h.log.length by omega, getD_append_r]
    simp [newOp]
  have hb := v2
  unfold barB at hb
  rw [show h.offline = false by simpa using ho, Bool.false_or, decide_eq_true_eq] at hb
  have h0 : h.log = [] := List.eq_nil_of_length_eq_zero (by omega)
  unfold scanH
  rw [if_neg ho, h0]
  rfl
theorem scan_sm {h : Hand} {k : Int} {p : Piece} {n t : Int} (hs : h.Sm) (he : scanE h k p n t = 0) : (scanH h k p n t).Sm := by
  have hl := (log_parts (val_parts (scan_val he)).2.2.2.2).1
  refine ⟨hs.g, by simpa [scanH] using hs.c, ?_, fun c hc => ?_⟩
  · unfold scanH
    simp only
    split
    · simp; omega
    omega
  obtain ⟨d, _, rfl⟩ := List.mem_map.1 (show c ∈ h.conts.map bareC from hc)
  simp [bareC]
theorem off_sm {h : Hand} {g : List Grant} {c : List Container} (hs : h.Sm) (hg : g.length ≤ 1000) (hc : c.length ≤ 1000) : (offH h g c).Sm :=
  ⟨hg, by simpa [offH] using hc, hs.l, fun x hx => by obtain ⟨d, _, rfl⟩ := List.mem_map.1 (show x ∈ c.map bareC from hx); simp [bareC]⟩
end Go.Proofs.Ytdnofpggdddimaa
namespace Go.Proofs.Ytdnofpggdddimaa
open Go.RowKit
set_option linter.unusedSimpArgs false
set_option linter.unusedVariables false
set_option maxRecDepth 100000
structure GoodG (n : Nat) (a : List Grant) : Prop where
  len : a.length ≤ n
  of : ∀ x ∈ a, ∃ m : Nat, ∃ j : Int, m < n ∧ 0 ≤ j ∧ j < 3 ∧ x = gr0 m j
  asc : a.Pairwise fun x y => x.piece.plate.serial < y.piece.plate.serial
theorem gr0_plate {m : Nat} {j : Int} (h : m < 100) : (gr0 (m : Int) j).piece.plate = ⟨0, 117, 1000 + m⟩ := plates_lt h
theorem goodG_S (l : List Int) : ∀ (f i k : Nat) (a : List Grant), f + i ≤ 100 → GoodG i a → GoodG (f + i) (grS l f i k a).2
  | 0, i, k, a, _, h => by rw [Nat.zero_add]; exact h
  | f + 1, i, k, a, hf, h => by
    rw [grS_succ]
    have hg3 := gmod_bd (x := rawV l (rawN l k)) (n := 3) (by decide)
    have up : GoodG (i + 1) a := ⟨by have := h.len; omega, fun x hx => by obtain ⟨m, j, h1, h2⟩ := h.of x hx; exact ⟨m, j, by omega, h2⟩, h.asc⟩
    split
    · rw [show f + 1 + i = f + (i + 1) by omega]
      refine goodG_S l f (i + 1) _ _ (by omega) ⟨by have := h.len; simp; omega, fun x hx => ?_, List.pairwise_append.2 ⟨h.asc, List.pairwise_singleton _ _, fun x hx y hy => ?_⟩⟩
      · rcases List.mem_append.1 hx with hx | hx
        · exact up.of x hx
        exact ⟨i, _, by omega, hg3.1, hg3.2, List.mem_singleton.1 hx⟩
      obtain ⟨m, j, h1, h2, h3, rfl⟩ := h.of x hx
      rw [List.mem_singleton.1 hy, gr0_plate (by omega), gr0_plate (by omega)]
      show (1000 : Int) + m < 1000 + i
      omega
    rw [show f + 1 + i = f + (i + 1) by omega]
    exact goodG_S l f (i + 1) _ _ (by omega) up
theorem goodG (l : List Int) (n k : Nat) (hn : n ≤ 100) : GoodG n (grS l n 0 k []).2 := by
  have := goodG_S l n 0 k [] (by omega) ⟨by simp, by simp, List.Pairwise.nil⟩
  rwa [Nat.add_zero] at this
theorem gr0_ok {m : Nat} {j : Int} (h : m < 100) (h1 : 0 ≤ j) (h2 : j < 3) : grB (gr0 (m : Int) j) = true := by
  unfold grB piB
  rw [show plB (gr0 (m : Int) j).piece.plate = true from plates_ok _, flB_N ⟨h1, h2⟩, show inB (gr0 (m : Int) j).piece.weight 1 999 = true from in_spec.2 (by show 1 ≤ 10 + (m : Int) ∧ 10 + (m : Int) ≤ 999; omega)]
  rfl
theorem cmp_serial {a b : Int} (h : a < b) : cmpP ⟨0, 117, a⟩ ⟨0, 117, b⟩ = -1 := by
  rw [cmpP_3 (by simp [cmpI]) (by simp [cmpI])]
  show cmpI a b = -1
  unfold cmpI
  rw [if_pos h]
theorem GoodG.err {n : Nat} {a : List Grant} (h : GoodG n a) (hn : n ≤ 100) : grsE a = 0 := by
  refine grsE_ok (i := a.length) (by omega) fun k hk => ?_
  unfold grErr
  have hm : a.getD k default ∈ a := by rw [getD_of hk]; exact List.getElem_mem hk
  obtain ⟨m, j, h1, h2, h3, e⟩ := h.of _ hm
  rw [if_neg (by rw [e, gr0_ok (by omega) h2 h3]; decide), if_neg]
  intro hc
  simp only [Bool.and_eq_true, decide_eq_true_eq] at hc
  have hk1 : k - 1 < a.length := by omega
  have hm2 : a.getD (k - 1) default ∈ a := by rw [getD_of hk1]; exact List.getElem_mem hk1
  obtain ⟨m2, j2, q1, q2, q3, e2⟩ := h.of _ hm2
  have hlt := (List.pairwise_iff_getElem.1 h.asc) (k - 1) k hk1 hk (by omega)
  rw [← getD_of hk1, ← getD_of hk, e, e2, gr0_plate (by omega), gr0_plate (by omega)] at hlt
  rw [e, e2, gr0_plate (by omega), gr0_plate (by omega), cmp_serial hlt] at hc
  omega
structure GoodM (a : List Container) : Prop where
  of : ∀ (i : Nat) (h : i < a.length), ∃ j : Int, 0 ≤ j ∧ j < 3 ∧ a[i] = em0 ((i : Int) + 1) j
theorem goodM_S (l : List Int) : ∀ (f k : Nat) (a : List Container), GoodM a → GoodM (emS l f k a).2 ∧ (emS l f k a).2.length = a.length + f
  | 0, k, a, h => ⟨h, rfl⟩
  | f + 1, k, a, h => by
    have hg3 := gmod_bd (x := rawV l k) (n := 3) (by decide)
    have := goodM_S l f (rawN l k) (a ++ [em0 ((a.length : Int) + 1) (gmod (rawV l k) 3)]) ⟨fun i hi => by
      rcases Nat.lt_or_ge i a.length with h' | h'
      · rw [List.getElem_append_left h']; exact h.of i h'
      simp at hi
      obtain rfl : i = a.length := by omega
      exact ⟨_, hg3.1, hg3.2, by simp⟩⟩
    refine ⟨this.1, ?_⟩
    show (emS l f (rawN l k) (a ++ [em0 ((a.length : Int) + 1) (gmod (rawV l k) 3)])).2.length = _
    rw [this.2]; simp; omega
theorem goodM (l : List Int) (k n : Nat) : GoodM (emptiesV l k n).2 ∧ (emptiesV l k n).2.length ≤ n := by
  have hk := idxV_lt l k (n := n + 1) (by omega)
  have := goodM_S l (idxV l k (n + 1)) (rawN l k) [] ⟨fun i hi => by simp at hi⟩
  exact ⟨this.1, by unfold emptiesV; rw [this.2]; simp; omega⟩
theorem GoodM.good {a : List Container} (h : GoodM a) (hl : a.length ≤ 24) : GoodC a := by
  have get : ∀ c ∈ a, ∃ i : Nat, ∃ j : Int, i < a.length ∧ 0 ≤ j ∧ j < 3 ∧ c = em0 ((i : Int) + 1) j := fun c hc => by
    obtain ⟨i, hi, rfl⟩ := List.getElem_of_mem hc
    obtain ⟨j, h1, h2, h3⟩ := h.of i hi
    exact ⟨i, j, hi, h1, h2, h3⟩
  refine ⟨fun c hc => ?_, List.pairwise_iff_getElem.2 fun i j hi hj hij => ?_, fun i hi => ?_, List.pairwise_iff_getElem.2 fun i j hi hj hij x hx => ?_⟩
  · obtain ⟨i, j, h0, h1, h2, rfl⟩ := get c hc
    refine val_intro ?_ (by simp) (by simp) (show Asc [] from ascP_iff.1 List.Pairwise.nil)
    unfold coB
    simp only [Bool.and_eq_true]
    exact ⟨⟨⟨⟨⟨⟨in_spec.2 (by show 1 ≤ (i : Int) + 1 ∧ (i : Int) + 1 ≤ 999; omega), flB_N ⟨h1, h2⟩⟩, in_spec.2 (by decide)⟩, in_spec.2 (by decide)⟩, in_spec.2 (by decide)⟩, in_spec.2 (by show 0 ≤ (i : Int) + 1 ∧ (i : Int) + 1 ≤ 24; omega)⟩, in_spec.2 (by decide)⟩
  · obtain ⟨_, _, _, e1⟩ := h.of i hi
    obtain ⟨_, _, _, e2⟩ := h.of j hj
    rw [e1, e2]
    show (i : Int) + 1 < j + 1
    omega
  · obtain ⟨_, _, _, e1⟩ := h.of i hi
    rw [e1]; exact .inr rfl
  obtain ⟨_, _, _, e1⟩ := h.of i hi
  rw [e1] at hx; cases hx
theorem goodM_chk (l : List Int) (k n : Nat) (hn : n ≤ 24) : chkL (emptiesV l k n).2 = 0 := by
  obtain ⟨h1, h2⟩ := goodM l k n
  exact (h1.good (by omega)).chk (by omega)
theorem valOn {nb nx ls : Int} (h1 : 1 ≤ nb ∧ nb ≤ 6) (h2 : 1 ≤ nx ∧ nx ≤ 1048576) (h3 : 0 ≤ ls ∧ ls ≤ 1048576) : valH (onH nb nx ls) = 0 :=
  val_0 (by unfold numB; simp only [Bool.and_eq_true]; exact ⟨⟨in_spec.2 h1, in_spec.2 h2⟩, in_spec.2 h3⟩) rfl rfl rfl rfl
theorem off_intro {h : Hand} {g : List Grant} {c : List Container} (hv : valH h = 0) (ho : h.offline = false) (hg : g.length ≤ 60) (he : grsE g = 0) (hc : chkL c = 0) : offE h g c = 0 := by
  unfold offE
  rw [if_neg (by rw [hv]; decide), if_neg (by rw [ho]; decide), if_neg (by omega), if_neg (by rw [he]; decide), hc]
end Go.Proofs.Ytdnofpggdddimaa
namespace Go.Proofs.Ytdnofpggdddimaa
open Go.RowKit
set_option linter.unusedSimpArgs false
set_option linter.unusedVariables false
set_option maxRecDepth 100000
theorem grEq_self (g : Grant) : grEq g g = true := by
  unfold grEq
  rw [piEq_self, flEq_iff.2 rfl]; rfl
theorem opEq_self (o : Op) : opEq o o = true := by
  unfold opEq
  rw [piEq_self]; simp
theorem listEq_self {α : Type} [Inhabited α] {eq : α → α → Bool} (h : ∀ x, eq x x = true) (l : List α) : listEq eq l l = true := by
  unfold listEq
  simp [h]
theorem sameH_self (h : Hand) : sameH h h = true := by
  unfold sameH headNeH
  rw [listEq_self sameC_self, listEq_self opEq_self]
  simp [grEq_self]
theorem hl20 (l : List Int) : (l.take 2000).length ≤ 2000 := by simp; omega
end Go.Proofs.Ytdnofpggdddimaa
namespace Go.Proofs.Ytdnofpggdddimaa
open Go.RowKit
set_option linter.unusedSimpArgs false
set_option linter.unusedVariables false
set_option maxRecDepth 100000
def scF (l : List Int) (fl : Flight) : List Container → Nat → Int → Nat × Int
  | [], k, c => (k, c)
  | x :: r, k, c => if flEq x.flight fl then (if gmod (rawV l k) 3 > 0 then scF l fl r (rawN l k) x.number else scF l fl r (rawN l k) c) else scF l fl r k c
theorem scF_at {l : List Int} {fl : Flight} {cs : List Container} {i k : Nat} {c : Int} (hi : i < cs.length) : scF l fl (cs.drop i) k c = if flEq (cs.getD i default).flight fl then (if gmod (rawV l k) 3 > 0 then scF l fl (cs.drop (i + 1)) (rawN l k) (cs.getD i default).number else scF l fl (cs.drop (i + 1)) (rawN l k) c) else scF l fl (cs.drop (i + 1)) k c := by
  rw [List.drop_eq_getElem_cons hi, getD_of hi]; rfl
abbrev scK (l : List Int) (k : Nat) : Nat := rawN l (rawN l (rawN l k))
def scanV (l : List Int) (h : Hand) (k : Nat) : Nat × Piece × Int :=
  if h.grants.length = 0 then (rawN l (scK l k), pieceV l k 10, 1 + gmod (rawV l (scK l k)) 6)
  else if gmod (rawV l (rawN l (scK l k))) 5 > 0 then
    let g := h.grants.getD (idxV l (rawN l (rawN l (scK l k))) h.grants.length) default
    let r := scF l g.flight h.conts (rawN l (rawN l (rawN l (scK l k)))) (1 + gmod (rawV l (scK l k)) 6)
    (r.1, g.piece, r.2)
  else (rawN l (rawN l (scK l k)), pieceV l k 10, 1 + gmod (rawV l (scK l k)) 6)
theorem C25 {l : List Int} {k : Nat} {h : Hand} (hl : l.length ≤ 2000) (hs : h.Sm) : Fn Try.prog 25 [.own 81 [srcRow l k]] [.ptr 0 0 0 0, .agg h.av] [.agg (scanV l h k).2.1.av, .v (.int .i64 (scanV l h k).2.2)] [.own 81 [srcRow l (scanV l h k).1]] := by
  have hsg := hs.g
  have hsc := hs.c
  have hg6 := gmod_bd (x := rawV l (rawN l (rawN l (rawN l k)))) (n := 6) (by decide)
  refine Spec.body Try.func25 rfl Try.ntmps25 (by simp) rfl ?_; intro S0 own0 v0 w0
  (refine AW.seq_k ?_; intro K hK)
  refine AW.region ?_
  refine awJ (op_box rfl rfl rfl sz26 rfl) ?_; (simp only [nA, Nat.reduceBEq, Nat.reduceEqDiff, ↓reduceIte])
  refine awJ (op_alloc rfl ze31 rfl) ?_; (simp only [nA, Nat.reduceBEq, Nat.reduceEqDiff, ↓reduceIte])
  refine awP (op_assign rfl rfl) ?_
  refine AWL.nil ?_
  (refine hK _ ?_; clear hK K; (simp only [nA, Nat.reduceBEq, Nat.reduceEqDiff, ↓reduceIte, Nat.reduceAdd, Nat.reduceSub]))
  (refine AW.seq_k ?_; intro K hK)
  refine AW.region ?_
  refine awP (op_move rfl rfl) ?_
  refine awJ (op_call1 rfl en23 (C23 (n := 10) hl (by decide)) (by exact rfl) (RL.cons .ptr (RL.cons (.base (by exact View.same rfl)) (RL.nil))) (by exact ⟨_, _, _, rfl, rfl, rfl⟩) (by exact rfl) (by exact rfl) (by exact rfl)) ?_; (simp only [nA, ↓reduceIte])
  refine awP (op_move rfl rfl) ?_
  refine awJ (op_call1 rfl en12 (C12 (n := 6) hl (by decide)) (by exact rfl) (RL.cons .ptr (RL.cons (.base (by exact View.same rfl)) (RL.nil))) (by exact ⟨_, _, _, rfl, rfl, rfl⟩) (by exact rfl) (by exact rfl) (by exact rfl)) ?_; (simp only [nA, ↓reduceIte])
  (refine awP (op_addi rfl rfl rfl (by omega)) ?_)
  refine awJ (op_alloc rfl ze31 rfl) ?_; (simp only [nA, Nat.reduceBEq, Nat.reduceEqDiff, ↓reduceIte])
  refine awJ (op_store rfl rfl rfl rfl rfl rfl sz31 rfl (bl rfl) rfl) ?_; (simp only [nA, Nat.reduceBEq, Nat.reduceEqDiff, ↓reduceIte])
  refine awP (op_assign rfl rfl) ?_
  refine AWL.nil ?_
  (refine hK _ ?_; clear hK K; (simp only [nA, ↓reduceIte]))
  (refine AW.seq_k ?_; intro K hK)
  (refine AW.seq_k ?_; intro K hK)
  rcases Bool.eq_false_or_eq_true (decide (((h.grants.length : Nat) : Int) > 0)) with hgd1 | hgd1   -- by_cases on the guard
  · -- guard holds
   have hgl : 0 < h.grants.length := (by simpa using hgd1)
   refine AW.region ?_
   (refine awP (op_fa_ptr rfl rfl rfl fl26_4 (by exact sz22) (by decide) rfl) ?_)
   (refine awR (op_load_ptr1 rfl rfl rfl rfl ag22 rfl rfl) ?_)
   refine awP (op_len_ro (n := h.grants.length) rfl rfl Try.underlying22 (.inr (.inl ⟨_, rfl, by simp⟩))) ?_
   refine awP (op_gtr rfl rfl rfl) ?_
   refine awP (op_move rfl rfl) ?_
   refine awYes 4 19 (OpP.j (op_move rfl rfl)) ?_ (congrArg (fun z => AV.v (.bool z)) hgd1) rfl rfl rfl rfl; (simp only [nA, ↓reduceIte])
   refine awYes 4 19 (op_call1 rfl en12 (C12 (n := 5) hl (by decide)) (by exact rfl) (RL.cons .ptr (RL.cons (.base (by exact View.same rfl)) (RL.nil))) (by exact ⟨_, _, _, rfl, rfl, rfl⟩) (by exact rfl) (by exact rfl) (by exact rfl)) ?_ (congrArg (fun z => AV.v (.bool z)) hgd1) rfl rfl rfl rfl; (simp only [nA, Nat.reduceBEq, Nat.reduceEqDiff, ↓reduceIte, Nat.reduceAdd, Nat.reduceSub])
   refine awYes 4 19 (OpP.j (op_gtr rfl rfl rfl)) ?_ (congrArg (fun z => AV.v (.bool z)) hgd1) rfl rfl rfl rfl; (simp only [nA, Nat.reduceBEq, Nat.reduceEqDiff, ↓reduceIte, Nat.reduceAdd, Nat.reduceSub])
   refine awP (op_pick rfl (congrArg (fun z => AV.v (.bool z)) hgd1) rfl) ?_
   refine AWL.nil ?_
   (refine hK _ ?_; clear hK K; (simp only [nA]))
   refine AW.cond rfl rfl rfl (fun hc => ?_) (fun hc => ?_)
   ·
    have hc1 := hc; have hix : (idxV l (rawN l (rawN l (rawN l (rawN l (rawN l k))))) h.grants.length) < h.grants.length := idxV_lt l _ hgl
    refine AW.joinG (fun (e : Nat) => [(0, .ptr 0 0 0 0), (3, .ptr 1 1 0 0), (4, .ptr 2 2 0 0), (6, .ptr 3 3 0 0), (7, .v (.int .i64 (1 + gmod (rawV l (rawN l (rawN l (rawN l k)))) 6))), (8, .ptr 4 4 0 0)]) (fun e => ⟨[(0, .own 81 [srcRow l (rawN l (rawN l (rawN l (rawN l (rawN l (rawN l k))))))]), (1, .own 26 [h.av]), (2, .own 31 [[.v (.int .i64 0), .v (.int .i64 0), .v (.int .i64 0), .v (.int .i64 0), .v (.int .i64 0)]]), (3, .own 31 [(pieceV l k 10).av]), (4, .own 75 [((h.grants.getD (idxV l (rawN l (rawN l (rawN l (rawN l (rawN l k))))) h.grants.length) default)).av])], e⟩) (fun _ => True) ?_ ?_
    · refine AW.ado (fun T' => T'.slots[1]? = some (1, .own 26 [h.av])) mix rfl ?_
      refine adPo 0 rfl (fun T' ok => op_fa_ptr rfl rfl ok fl26_4 (by exact sz22) (by decide) rfl) rfl (by kernel_rfl) (by kernel_rfl) ?_; (simp only [nA, Nat.reduceBEq, Nat.reduceEqDiff, ↓reduceIte])
      refine adRo 1 rfl (fun T' ok => op_load_ptr1 rfl rfl ok rfl ag22 rfl rfl) rfl (by kernel_rfl) (by kernel_rfl) ?_; (simp only [nA, Nat.reduceBEq, Nat.reduceEqDiff, ↓reduceIte, Nat.reduceAdd, Nat.reduceSub])
      refine adPo 2 rfl (fun T' ok => op_move rfl rfl) rfl (by kernel_rfl) (by kernel_rfl) ?_; (simp only [nA, ↓reduceIte])
      refine adPo 3 rfl (fun T' ok => op_fa_ptr rfl rfl ok fl26_4 (by exact sz22) (by decide) rfl) rfl (by kernel_rfl) (by kernel_rfl) ?_; (simp only [nA, Nat.reduceBEq, Nat.reduceEqDiff, ↓reduceIte, Nat.reduceAdd, Nat.reduceSub])
      refine adRo 4 rfl (fun T' ok => op_load_ptr1 rfl rfl ok rfl ag22 rfl rfl) rfl (by kernel_rfl) (by kernel_rfl) ?_; (simp only [nA, Nat.reduceBEq, Nat.reduceEqDiff, ↓reduceIte, Nat.reduceAdd, Nat.reduceSub])
      refine adPo 5 rfl (fun T' ok => op_len_ro (n := h.grants.length) rfl rfl Try.underlying22 (.inr (.inl ⟨_, rfl, by simp⟩))) rfl (by kernel_rfl) (by kernel_rfl) ?_; (simp only [nA, Nat.reduceBEq, Nat.reduceEqDiff, ↓reduceIte, Nat.reduceAdd, Nat.reduceSub])
      refine adJ2o 6 9 rfl rfl (op_call1 rfl en12 (C12n (n := h.grants.length) hl (by omega) (by omega)) (by exact rfl) (RL.cons .ptr (RL.cons (.base (by exact View.same rfl)) (RL.nil))) (by exact ⟨_, _, _, rfl, rfl, rfl⟩) (by exact rfl) (by exact rfl) (by exact rfl)) (op_alloc rfl ze75 rfl) (by kernel_rfl) rfl rfl ?_ ?_
      · (simp only [nA, Nat.reduceBEq, Nat.reduceEqDiff, ↓reduceIte, Nat.reduceAdd, Nat.reduceSub]); refine adPo 7 rfl (fun T' ok => op_ia_ro (idxV l (rawN l (rawN l (rawN l (rawN l (rawN l k))))) h.grants.length) rfl (.inl rfl) rfl Try.underlying22 rfl (get_mapD hix) (by exact sz75) (bl rfl)) rfl (by kernel_rfl) (by kernel_rfl) ?_; (simp only [nA, Nat.reduceBEq, Nat.reduceEqDiff, ↓reduceIte, Nat.reduceAdd, Nat.reduceSub]); refine adRo 8 rfl (fun T' ok => op_load_rop rfl rfl ag75 sz75 (bl rfl) (by decide) rfl) rfl (by kernel_rfl) (by kernel_rfl) ?_; (simp only [nA, Nat.reduceBEq, Nat.reduceEqDiff, ↓reduceIte, Nat.reduceAdd, Nat.reduceSub])
        refine adJo 9 rfl (op_alloc rfl ze75 rfl) (by kernel_rfl) rfl ?_; (simp only [nA, Nat.reduceBEq, Nat.reduceEqDiff, ↓reduceIte])
        refine adJo 10 rfl (op_store rfl rfl rfl rfl rfl rfl sz75 rfl (bl rfl) rfl) (by kernel_rfl) rfl ?_; (simp only [nA, Nat.reduceBEq, Nat.reduceEqDiff, ↓reduceIte])
        refine adDoneo (by kernel_rfl) ?_; exact ⟨_, Gh.refl, _, trivial, ⟨rfl, rfl, rfl, rfl, rfl, rfl, trivial⟩, rfl, rfl⟩
      (simp only [nA, Nat.reduceBEq, Nat.reduceEqDiff, ↓reduceIte]); refine adJo 6 rfl (op_call1 rfl en12 (C12n (n := h.grants.length) hl (by omega) (by omega)) (by exact rfl) (RL.cons .ptr (RL.cons (.base (by exact View.same rfl)) (RL.nil))) (by exact ⟨_, _, _, rfl, rfl, rfl⟩) (by exact rfl) (by exact rfl) (by exact rfl)) (by kernel_rfl) rfl ?_; (simp only [nA, Nat.reduceBEq, Nat.reduceEqDiff, ↓reduceIte, Nat.reduceAdd, Nat.reduceSub])
      refine adPo 7 rfl (fun T' ok => op_ia_ro (idxV l (rawN l (rawN l (rawN l (rawN l (rawN l k))))) h.grants.length) rfl (.inl rfl) rfl Try.underlying22 rfl (get_mapD hix) (by exact sz75) (bl rfl)) rfl (by kernel_rfl) (by kernel_rfl) ?_; (simp only [nA, Nat.reduceBEq, Nat.reduceEqDiff, ↓reduceIte, Nat.reduceAdd, Nat.reduceSub]); refine adRo 8 rfl (fun T' ok => op_load_rop rfl rfl ag75 sz75 (bl rfl) (by decide) rfl) rfl (by kernel_rfl) (by kernel_rfl) ?_; (simp only [nA, Nat.reduceBEq, Nat.reduceEqDiff, ↓reduceIte, Nat.reduceAdd, Nat.reduceSub])
      refine adJo 10 rfl (op_store rfl rfl rfl rfl rfl rfl sz75 rfl (bl rfl) rfl) (by kernel_rfl) rfl ?_; (simp only [nA, Nat.reduceBEq, Nat.reduceEqDiff, ↓reduceIte])
      refine adDoneo (by kernel_rfl) ?_; exact ⟨_, Gh.refl, _, trivial, ⟨rfl, rfl, rfl, rfl, rfl, rfl, trivial⟩, rfl, rfl⟩
    intro e ρ _; simp only [updL]
    (refine AW.seq_k ?_; intro K hK)
    refine AW.region ?_
    (refine awP (op_fa_ptr rfl rfl rfl fl75_0 (by exact sz31) (by decide) rfl) ?_)
    (refine awR (op_load_ptr rfl rfl rfl rfl ag31 sz31 (bl rfl) rfl) ?_)
    refine awJ (op_store rfl rfl rfl rfl rfl rfl sz31 rfl (bl rfl) rfl) ?_; (simp only [nA, Nat.reduceBEq, Nat.reduceEqDiff, ↓reduceIte, Nat.reduceAdd, Nat.reduceSub])
    refine AWL.nil ?_
    (refine hK _ ?_; clear hK K; (skip))
    (refine AW.seq_k ?_; intro K hK)
    refine AW.region ?_
    (refine awP (op_fa_ptr rfl rfl rfl fl26_5 (by exact sz23) (by decide) rfl) ?_)
    (refine awR (op_load_ptr1 rfl rfl rfl rfl ag23 rfl rfl) ?_)
    refine awP (op_len_ro (n := h.conts.length) rfl rfl Try.underlying23 (.inr (.inl ⟨_, rfl, by simp⟩))) ?_
    refine awP (op_move rfl rfl) ?_
    refine AWL.nil ?_
    (refine hK _ ?_; clear hK K; (simp only [nA, Nat.reduceBEq, Nat.reduceEqDiff, ↓reduceIte, Nat.reduceAdd, Nat.reduceSub]))
    refine AW.block ?_
    refine AW.loopI (fun (q : Nat × Nat × Int) => [(0, .ptr 0 0 0 0), (3, .ptr 1 1 0 0), (4, .ptr 2 2 0 0), (6, .ptr 3 3 0 0), (7, .v (.int .i64 q.2.2)), (8, .ptr 4 4 0 0), (37, .v (.int .i64 (h.conts.length : Nat))), (38, .v (.int .i64 (q.1 : Nat)))]) (fun q => ⟨[(0, .own 81 [srcRow l q.2.1]), (1, .own 26 [h.av]), (2, .own 31 [[.v (.int .i64 0), .v (.int .i64 0), .v (.int .i64 0), .v (.int .i64 0), .v (.int .i64 0)]]), (3, .own 31 [((h.grants.getD (idxV l (rawN l (rawN l (rawN l (rawN l (rawN l k))))) h.grants.length) default)).piece.av]), (4, .own 75 [((h.grants.getD (idxV l (rawN l (rawN l (rawN l (rawN l (rawN l k))))) h.grants.length) default)).av])], _⟩) (fun q => q.1 ≤ h.conts.length ∧ scF l ((h.grants.getD (idxV l (rawN l (rawN l (rawN l (rawN l (rawN l k))))) h.grants.length) default)).flight (h.conts.drop q.1) q.2.1 q.2.2 = scF l ((h.grants.getD (idxV l (rawN l (rawN l (rawN l (rawN l (rawN l k))))) h.grants.length) default)).flight h.conts (rawN l (rawN l (rawN l (rawN l (rawN l (rawN l k)))))) (1 + gmod (rawV l (rawN l (rawN l (rawN l k)))) 6)) (fun q => h.conts.length - q.1) (0, (rawN l (rawN l (rawN l (rawN l (rawN l (rawN l k)))))), (1 + gmod (rawV l (rawN l (rawN l (rawN l k)))) 6)) ⟨by simp, rfl⟩ ⟨rfl, rfl, rfl, rfl, rfl, rfl, rfl, rfl, trivial⟩ rfl ?_; rintro ⟨i, kk, c⟩ ρ hI; dsimp only at hI ⊢; simp only [updL]
    (refine AW.seq_k ?_; intro K hK)
    refine AW.region ?_
    refine awP (op_lss rfl rfl rfl) ?_
    refine AWL.nil ?_
    (refine hK _ ?_; clear hK K; (simp only [nA, Nat.reduceBEq, Nat.reduceEqDiff, ↓reduceIte, Nat.reduceAdd, Nat.reduceSub]))
    (refine AW.seq_k ?_; intro K hK)
    refine AW.cond rfl rfl rfl (fun hc => ?_) (fun hc => ?_)
    ·
     have hc2 := hc; have hlt : i < h.conts.length := (by simpa using hc2); have hst := hI.2; rw [scF_at hlt] at hst
     refine AW.skip ?_
     (refine hK _ ?_; clear hK K; (skip))
     (refine AW.seq_k ?_; intro K hK)
     refine AW.block ?_
     (refine AW.seq_k ?_; intro K hK)
     refine AW.region ?_
     refine awP (op_move rfl rfl) ?_
     refine awP (op_assign rfl rfl) ?_
     refine AWL.nil ?_
     (refine hK _ ?_; clear hK K; (simp only [nA, ↓reduceIte]))
     (refine AW.seq_k ?_; intro K hK)
     rcases Bool.eq_false_or_eq_true (flEq (h.conts.getD i default).flight ((h.grants.getD (idxV l (rawN l (rawN l (rawN l (rawN l (rawN l k))))) h.grants.length) default)).flight) with hgd2 | hgd2   -- by_cases on the guard
     · -- guard holds
      rw [if_pos hgd2] at hst
      refine AW.quiet_tail 11 mix (by kernel_rfl) rfl rfl ?_
      (refine aqP (op_fa_ptr rfl rfl rfl fl26_5 (by exact sz23) (by decide) rfl) ?_)
      (refine aqR (op_load_ptr1 rfl rfl rfl rfl ag23 rfl rfl) ?_)
      refine aqP (op_move rfl rfl) ?_
      refine aqP (op_ia_ro i rfl (.inl rfl) rfl Try.underlying23 rfl (get_mapD hlt) (by exact sz77) (bl rfl)) ?_
      (refine aqP (op_fa_rop rfl rfl fl77_1 (by exact sz73) (by decide) (bl rfl) rfl) ?_)
      (refine aqR (op_load_rop rfl rfl ag73 sz73 (bl rfl) (by decide) rfl) ?_)
      (refine aqP (op_fa_ptr rfl rfl rfl fl75_1 (by exact sz73) (by decide) rfl) ?_)
      (refine aqR (op_load_ptr rfl rfl rfl rfl ag73 sz73 (bl rfl) rfl) ?_)
      refine aqP (op_eq73 (p := (h.conts.getD i default).flight) (q := ((h.grants.getD (idxV l (rawN l (rawN l (rawN l (rawN l (rawN l k))))) h.grants.length) default)).flight) rfl rfl rfl) ?_; (simp only [nA, ↓reduceIte])
      refine aqP (op_move rfl rfl) ?_
      refine aqYes 9 50 (OpP.q (op_move rfl rfl)) ?_ (congrArg (fun z => AV.v (.bool z)) hgd2) rfl rfl rfl rfl; (simp only [nA, ↓reduceIte])
      refine AQ.nil ?_
      refine awYes 9 50 (op_call1 rfl en12 (C12 (n := 3) hl (by decide)) (by exact rfl) (RL.cons .ptr (RL.cons (.base (by exact View.same rfl)) (RL.nil))) (by exact ⟨_, _, _, rfl, rfl, rfl⟩) (by exact rfl) (by exact rfl) (by exact rfl)) ?_ (congrArg (fun z => AV.v (.bool z)) hgd2) rfl rfl rfl rfl; (simp only [nA, Nat.reduceBEq, Nat.reduceEqDiff, ↓reduceIte, Nat.reduceAdd, Nat.reduceSub])
      refine awYes 9 50 (OpP.j (op_gtr rfl rfl rfl)) ?_ (congrArg (fun z => AV.v (.bool z)) hgd2) rfl rfl rfl rfl; (simp only [nA, Nat.reduceBEq, Nat.reduceEqDiff, ↓reduceIte, Nat.reduceAdd, Nat.reduceSub])
      refine awP (op_pick rfl (congrArg (fun z => AV.v (.bool z)) hgd2) rfl) ?_
      refine AWL.nil ?_
      (refine hK _ ?_; clear hK K; (simp only [nA]))
      refine AW.cond rfl rfl rfl (fun hc => ?_) (fun hc => ?_)
      ·
       have hc3 := hc; rw [if_pos (by simpa using hc3)] at hst
       refine AW.region ?_
       (refine awP (op_fa_ptr rfl rfl rfl fl26_5 (by exact sz23) (by decide) rfl) ?_)
       (refine awR (op_load_ptr1 rfl rfl rfl rfl ag23 rfl rfl) ?_)
       refine awP (op_move rfl rfl) ?_
       refine awP (op_ia_ro i rfl (.inl rfl) rfl Try.underlying23 rfl (get_mapD hlt) (by exact sz77) (bl rfl)) ?_
       (refine awP (op_fa_rop rfl rfl fl77_0 (by exact sz3) (by decide) (bl rfl) rfl) ?_)
       (refine awR (op_load_rop1 rfl rfl ag3) ?_)
       refine awP (op_assign rfl rfl) ?_
       refine AWL.nil ?_
       simp only [thenE, inBlk, Nat.reduceEqDiff, ↓reduceIte]
       (refine hK _ ?_; clear hK K; (simp only [nA, ↓reduceIte]))
       refine AW.region ?_
       (refine awP (op_addi rfl rfl rfl (by omega)) ?_)
       refine awP (op_move rfl rfl) ?_
       skip
       refine AWL.nil ?_
       refine ⟨(i + 1, rawN l kk, (h.conts.getD i default).number), ⟨by dsimp only; omega, hst⟩, by dsimp only; omega, ⟨rfl, rfl, rfl, rfl, rfl, rfl, rfl, rfl, trivial⟩, (by rfl), (by rfl)⟩
      have hc3 := hc; rw [if_neg (by simpa using hc3)] at hst
      refine AW.skip ?_
      simp only [thenE, inBlk, Nat.reduceEqDiff, ↓reduceIte]
      (refine hK _ ?_; clear hK K; (skip))
      refine AW.region ?_
      (refine awP (op_addi rfl rfl rfl (by omega)) ?_)
      refine awP (op_move rfl rfl) ?_
      skip
      refine AWL.nil ?_
      refine ⟨(i + 1, rawN l kk, c), ⟨by dsimp only; omega, hst⟩, by dsimp only; omega, ⟨rfl, rfl, rfl, rfl, rfl, rfl, rfl, rfl, trivial⟩, (by rfl), (by rfl)⟩
     · -- guard fails
      rw [if_neg (by rw [hgd2]; decide)] at hst
      refine AW.quiet_tail 11 mix (by kernel_rfl) rfl rfl ?_
      (refine aqP (op_fa_ptr rfl rfl rfl fl26_5 (by exact sz23) (by decide) rfl) ?_)
      (refine aqR (op_load_ptr1 rfl rfl rfl rfl ag23 rfl rfl) ?_)
      refine aqP (op_move rfl rfl) ?_
      refine aqP (op_ia_ro i rfl (.inl rfl) rfl Try.underlying23 rfl (get_mapD hlt) (by exact sz77) (bl rfl)) ?_
      (refine aqP (op_fa_rop rfl rfl fl77_1 (by exact sz73) (by decide) (bl rfl) rfl) ?_)
      (refine aqR (op_load_rop rfl rfl ag73 sz73 (bl rfl) (by decide) rfl) ?_)
      (refine aqP (op_fa_ptr rfl rfl rfl fl75_1 (by exact sz73) (by decide) rfl) ?_)
      (refine aqR (op_load_ptr rfl rfl rfl rfl ag73 sz73 (bl rfl) rfl) ?_)
      refine aqP (op_eq73 (p := (h.conts.getD i default).flight) (q := ((h.grants.getD (idxV l (rawN l (rawN l (rawN l (rawN l (rawN l k))))) h.grants.length) default)).flight) rfl rfl rfl) ?_; (simp only [nA, ↓reduceIte])
      refine aqP (op_move rfl rfl) ?_
      refine aqNo 9 50 ?_ (congrArg (fun z => AV.v (.bool z)) hgd2) rfl rfl rfl rfl; (simp only [nA])
      refine AQ.nil ?_
      refine awNo 9 50 ?_ (congrArg (fun z => AV.v (.bool z)) hgd2) rfl rfl rfl rfl; (simp only [nA, Nat.reduceBEq, Nat.reduceEqDiff, ↓reduceIte, Nat.reduceAdd, Nat.reduceSub])
      refine awNo 9 50 ?_ (congrArg (fun z => AV.v (.bool z)) hgd2) rfl rfl rfl rfl; (simp only [nA, Nat.reduceBEq, Nat.reduceEqDiff, ↓reduceIte, Nat.reduceAdd, Nat.reduceSub])
      refine awP (op_pick rfl (congrArg (fun z => AV.v (.bool z)) hgd2) rfl) ?_
      refine AWL.nil ?_
      (refine hK _ ?_; clear hK K; (simp only [nA]))
      refine AW.cond rfl rfl rfl (fun hc => ?_) (fun hc => ?_)
      · (cases hc; done)
      have hc4 := hc
      refine AW.skip ?_
      simp only [thenE, inBlk, Nat.reduceEqDiff, ↓reduceIte]
      (refine hK _ ?_; clear hK K; (skip))
      refine AW.region ?_
      (refine awP (op_addi rfl rfl rfl (by omega)) ?_)
      refine awP (op_move rfl rfl) ?_
      skip
      refine AWL.nil ?_
      refine ⟨(i + 1, kk, c), ⟨by dsimp only; omega, hst⟩, by dsimp only; omega, ⟨rfl, rfl, rfl, rfl, rfl, rfl, rfl, rfl, trivial⟩, (by rfl), (by rfl)⟩
    have hc2 := hc; have hil : i = h.conts.length := (by have : ¬ i < h.conts.length := (by simpa using hc2); have := hI.1; omega)
    refine AW.exit ?_; (simp only [thenE, inBlk, Nat.reduceEqDiff, ↓reduceIte])
    clear hK K
    (refine hK _ ?_; clear hK K; (skip))
    (refine AW.seq_k ?_; intro K hK)
    refine AW.region ?_
    (refine awR (op_load_ptr rfl rfl rfl rfl ag31 sz31 (bl rfl) rfl) ?_)
    refine awP (op_move rfl rfl) ?_
    refine awJ (op_store rfl rfl rfl rfl rfl rfl sz31 rfl (bl rfl) rfl) ?_; (simp only [nA, ↓reduceIte])
    refine awP (op_assign rfl rfl) ?_
    refine AWL.nil ?_
    (refine hK _ ?_; clear hK K; (simp only [nA]))
    skip
    refine AW.ret ?_; have hE : scanV l h k = (kk, ((h.grants.getD (idxV l (rawN l (rawN l (rawN l (rawN l (rawN l k))))) h.grants.length) default)).piece, c) := (by have h2 := hI.2; rw [hil, List.drop_length] at h2; unfold scanV; rw [if_neg (by omega), if_pos (by simpa using hc1)]; dsimp only [scK]; rw [← h2]; rfl); rw [hE]; exact RQ.of (.inl rfl) rfl (.cell (bl rfl) rfl rfl rfl ag31 sz31 (bl rfl) rfl rfl (.tmp (bl rfl) rfl rfl .nil)) (by simp) rfl (one_out rfl)
   have hc1 := hc
   refine AW.skip ?_
   (refine hK _ ?_; clear hK K; (skip))
   (refine AW.seq_k ?_; intro K hK)
   refine AW.region ?_
   (refine awR (op_load_ptr rfl rfl rfl rfl ag31 sz31 (bl rfl) rfl) ?_)
   refine awP (op_move rfl rfl) ?_
   refine awJ (op_store rfl rfl rfl rfl rfl rfl sz31 rfl (bl rfl) rfl) ?_; (simp only [nA, Nat.reduceBEq, Nat.reduceEqDiff, ↓reduceIte])
   refine awP (op_assign rfl rfl) ?_
   refine AWL.nil ?_
   (refine hK _ ?_; clear hK K; (simp only [nA]))
   skip
   refine AW.ret ?_; have hE : scanV l h k = (rawN l (rawN l (scK l k)), pieceV l k 10, (1 + gmod (rawV l (rawN l (rawN l (rawN l k)))) 6)) := (by unfold scanV; rw [if_neg (by omega), if_neg (by simpa using hc1)]); rw [hE]; exact RQ.of (.inl rfl) rfl (.cell (bl rfl) rfl rfl rfl ag31 sz31 (bl rfl) rfl rfl (.tmp (bl rfl) rfl rfl .nil)) (by simp) rfl (one_out rfl)
  · -- guard fails
   have hgl : h.grants.length = 0 := (by simpa using hgd1)
   refine AW.region ?_
   (refine awP (op_fa_ptr rfl rfl rfl fl26_4 (by exact sz22) (by decide) rfl) ?_)
   (refine awR (op_load_ptr1 rfl rfl rfl rfl ag22 rfl rfl) ?_)
   refine awP (op_len_ro (n := h.grants.length) rfl rfl Try.underlying22 (.inr (.inl ⟨_, rfl, by simp⟩))) ?_
   refine awP (op_gtr rfl rfl rfl) ?_
   refine awP (op_move rfl rfl) ?_
   refine awNo 4 19 ?_ (congrArg (fun z => AV.v (.bool z)) hgd1) rfl rfl rfl rfl; (simp only [nA])
   refine awNo 4 19 ?_ (congrArg (fun z => AV.v (.bool z)) hgd1) rfl rfl rfl rfl; (simp only [nA, Nat.reduceBEq, Nat.reduceEqDiff, ↓reduceIte, Nat.reduceAdd, Nat.reduceSub])
   refine awNo 4 19 ?_ (congrArg (fun z => AV.v (.bool z)) hgd1) rfl rfl rfl rfl; (simp only [nA, Nat.reduceBEq, Nat.reduceEqDiff, ↓reduceIte, Nat.reduceAdd, Nat.reduceSub])
   refine awP (op_pick rfl (congrArg (fun z => AV.v (.bool z)) hgd1) rfl) ?_
   refine AWL.nil ?_
   (refine hK _ ?_; clear hK K; (simp only [nA]))
   refine AW.cond rfl rfl rfl (fun hc => ?_) (fun hc => ?_)
   · (cases hc; done)
   have hc5 := hc
   refine AW.skip ?_
   (refine hK _ ?_; clear hK K; (skip))
   (refine AW.seq_k ?_; intro K hK)
   refine AW.region ?_
   (refine awR (op_load_ptr rfl rfl rfl rfl ag31 sz31 (bl rfl) rfl) ?_)
   refine awP (op_move rfl rfl) ?_
   refine awJ (op_store rfl rfl rfl rfl rfl rfl sz31 rfl (bl rfl) rfl) ?_; (simp only [nA, Nat.reduceBEq, Nat.reduceEqDiff, ↓reduceIte])
   refine awP (op_assign rfl rfl) ?_
   refine AWL.nil ?_
   (refine hK _ ?_; clear hK K; (simp only [nA]))
   skip
   refine AW.ret ?_; have hE : scanV l h k = (rawN l (scK l k), pieceV l k 10, (1 + gmod (rawV l (rawN l (rawN l (rawN l k)))) 6)) := (by unfold scanV; rw [if_pos hgl]); rw [hE]; exact RQ.of (.inl rfl) rfl (.cell (bl rfl) rfl rfl rfl ag31 sz31 (bl rfl) rfl rfl (.tmp (bl rfl) rfl rfl .nil)) (by simp) rfl (one_out rfl)
end Go.Proofs.Ytdnofpggdddimaa
