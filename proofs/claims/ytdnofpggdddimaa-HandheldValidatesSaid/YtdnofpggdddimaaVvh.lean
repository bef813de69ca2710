import Derived.Test.YtdnofpggdddimaaVvg
import Derived.Deep.Slices
import Derived.OpenShut
import Derived.WalkKit
import Derived.ProofKit
namespace Go.Proofs.Ytdnofpggdddimaa
open Go.RowKit
set_option linter.unusedSimpArgs false
set_option linter.unusedVariables false
set_option maxRecDepth 100000
def stepV (l : List Int) (h : Hand) (k : Nat) : Nat × Hand :=
  let q := scanV l h k
  let r := scanR h (1 + gmod (rawV l q.1) 2) q.2.1 q.2.2 (h.last + gmod (rawV l (rawN l q.1)) 3)
  (rawN l (rawN l q.1), if r.2.2 = 0 then r.1 else h)
def devS (l : List Int) : Nat → Nat → Hand → Nat × Hand
  | 0, k, h => (k, h)
  | f + 1, k, h => devS l f (stepV l h k).1 (stepV l h k).2
abbrev dvN (l : List Int) (k : Nat) : Int := 1 + gmod (rawV l k) 6
abbrev dvX (l : List Int) (k : Nat) : Int := 1 + gmod (rawV l (rawN l k)) 5
def devA (l : List Int) (k : Nat) : Nat × Hand :=
  if gmod (rawV l (rawN l (rawN l k))) 4 > 0 then
    ((emptiesV l (grS l 8 0 (rawN l (rawN l (rawN l k))) []).1 5).1, (offR (onH (dvN l k) (dvX l k) 0) (grS l 8 0 (rawN l (rawN l (rawN l k))) []).2 (emptiesV l (grS l 8 0 (rawN l (rawN l (rawN l k))) []).1 5).2).1)
  else (rawN l (rawN l (rawN l k)), onH (dvN l k) (dvX l k) 0)
def devV (l : List Int) (k : Nat) : Nat × Hand := devS l (gmod (rawV l (devA l k).1) 8).toNat (rawN l (devA l k).1) (devA l k).2
theorem scanR_0 {h : Hand} {k : Int} {p : Piece} {n t : Int} (h0 : (scanR h k p n t).2.2 = 0) : scanE h k p n t = 0 ∧ (scanR h k p n t).1 = scanH h k p n t ∧ (scanR h k p n t).2.1 = newOp h k p n t := by
  by_cases he : scanE h k p n t = 0
  · unfold scanR; rw [if_pos he]; exact ⟨he, rfl, rfl⟩
  unfold scanR at h0; rw [if_neg he] at h0; exact absurd h0 he
/-- What every device of the source keeps. -/
structure DevI (h : Hand) : Prop where
  v : valH h = 0
  s : h.Sm
  l0 : 0 ≤ h.last
  l1 : h.last ≤ 1048576
theorem DevI.scan {h : Hand} (hd : DevI h) {k : Int} {p : Piece} {n t : Int} (he : scanE h k p n t = 0) : DevI (scanH h k p n t) := by
  have hp := scan_parts he
  have ht := hp.2.2.2.2.1
  unfold inB at ht
  simp only [Bool.and_eq_true, decide_eq_true_eq] at ht
  exact ⟨scan_valid he, scan_sm hd.s he, ht.1, ht.2⟩
theorem DevI.step {l : List Int} {h : Hand} (hd : DevI h) (k : Nat) : DevI (stepV l h k).2 := by
  unfold stepV
  dsimp only
  split
  · rename_i h0
    obtain ⟨he, h1, _⟩ := scanR_0 h0
    rw [h1]
    exact hd.scan he
  exact hd
theorem DevI.devS {l : List Int} : ∀ (f k : Nat) {h : Hand}, DevI h → DevI (devS l f k h).2
  | 0, _, _, hd => hd
  | f + 1, k, _, hd => DevI.devS f _ (hd.step k)
theorem devA_I (l : List Int) (k : Nat) : DevI (devA l k).2 := by
  have h6 := gmod_bd (x := rawV l k) (n := 6) (by decide)
  have h5 := gmod_bd (x := rawV l (rawN l k)) (n := 5) (by decide)
  have hv : valH (onH (dvN l k) (dvX l k) 0) = 0 := valOn ⟨by unfold dvN; omega, by unfold dvN; omega⟩ ⟨by unfold dvX; omega, by unfold dvX; omega⟩ (by decide)
  unfold devA
  split
  · have hG := goodG l 8 (rawN l (rawN l (rawN l k))) (by decide)
    have hM := goodM l (grS l 8 0 (rawN l (rawN l (rawN l k))) []).1 5
    have hc := goodM_chk l (grS l 8 0 (rawN l (rawN l (rawN l k))) []).1 5 (by decide)
    have hgl := hG.len
    have he := off_intro (h := onH (dvN l k) (dvX l k) 0) hv rfl (by omega) (hG.err (by decide)) hc
    dsimp only
    rw [off_ok he]
    exact ⟨off_valid he rfl, off_sm (on_sm _ _ _) (by omega) (by have := hM.2; omega), by show (0 : Int) ≤ 0; decide, by show (0 : Int) ≤ 1048576; decide⟩
  exact ⟨hv, on_sm _ _ _, by show (0 : Int) ≤ 0; decide, by show (0 : Int) ≤ 1048576; decide⟩
theorem devV_I (l : List Int) (k : Nat) : DevI (devV l k).2 := DevI.devS _ _ (devA_I l k)
set_option maxHeartbeats 8000000 in
theorem C16 {l : List Int} {k0 : Nat} (hl : l.length ≤ 2000) : Fn Try.prog 16 [.own 81 [srcRow l k0]] [.ptr 0 0 0 0] [.agg (devV l k0).2.av] [.own 81 [srcRow l (devV l k0).1]] := by
  have h6 := gmod_bd (x := rawV l k0) (n := 6) (by decide)
  have h5 := gmod_bd (x := rawV l (rawN l k0)) (n := 5) (by decide)
  have hG := goodG l 8 (rawN l (rawN l (rawN l k0))) (by decide)
  have hM := goodM l (grS l 8 0 (rawN l (rawN l (rawN l k0))) []).1 5
  have hgl := hG.len
  have hml := hM.2
  have hcp : ∀ x ∈ (emptiesV l (grS l 8 0 (rawN l (rawN l (rawN l k0))) []).1 5).2, x.pieces.length ≤ 1000000000 := fun x hx => by
    obtain ⟨i, hi, rfl⟩ := List.getElem_of_mem hx
    obtain ⟨j, _, _, e⟩ := hM.1.of i hi
    rw [e]; simp
  have h8 := gmod_bd (x := rawV l (devA l k0).1) (n := 8) (by decide)
  have hN0 : gmod (rawV l (devA l k0).1) 8 = (((gmod (rawV l (devA l k0).1) 8).toNat : Nat) : Int) := by omega
  refine Spec.body Try.func16 rfl Try.ntmps16 (by simp) rfl ?_; intro S0 own0 v0 w0
  (refine AW.seq_k ?_; intro K hK)
  refine AW.region ?_
  refine awJ (op_alloc rfl ze26 rfl) ?_; (simp only [nA, Nat.reduceBEq, Nat.reduceEqDiff, ↓reduceIte])
  refine AWL.nil ?_
  (refine hK _ ?_; clear hK K; (simp only [nA, Nat.reduceBEq, Nat.reduceEqDiff, ↓reduceIte, Nat.reduceAdd, Nat.reduceSub]))
  (refine AW.seq_k ?_; intro K hK)
  refine AW.region ?_
  refine awP (op_move rfl rfl) ?_
  refine awJ (op_call1 rfl en12 (C12 (n := 6) hl (by decide)) (by exact rfl) (RL.cons .ptr (RL.cons (.base (by exact View.same rfl)) (RL.nil))) (by exact ⟨_, _, _, rfl, rfl, rfl⟩) (by exact rfl) (by exact rfl) (by exact rfl)) ?_; (simp only [nA, ↓reduceIte])
  (refine awP (op_addi rfl rfl rfl (by omega)) ?_)
  refine awP (op_move rfl rfl) ?_
  refine awJ (op_call1 rfl en12 (C12 (n := 5) hl (by decide)) (by exact rfl) (RL.cons .ptr (RL.cons (.base (by exact View.same rfl)) (RL.nil))) (by exact ⟨_, _, _, rfl, rfl, rfl⟩) (by exact rfl) (by exact rfl) (by exact rfl)) ?_; (simp only [nA, ↓reduceIte])
  (refine awP (op_addi rfl rfl rfl (by omega)) ?_)
  refine awP (op_build2 (xs := [_, _, .v (.int .i64 0), .v (.bool false), .v (.slice none 0 0), .v (.slice none 0 0), .v (.slice none 0 0)]) rfl pl26 ze26 [(0, [_]), (1, [_])] rfl rfl rfl) ?_
  refine awJ (op_alloc rfl ze26 rfl) ?_; (simp only [nA, Nat.reduceBEq, Nat.reduceEqDiff, ↓reduceIte])
  refine awJ (op_store rfl rfl rfl rfl rfl rfl sz26 rfl (bl rfl) rfl) ?_; (simp only [nA, Nat.reduceBEq, Nat.reduceEqDiff, ↓reduceIte])
  refine AWL.nil ?_
  (refine hK _ ?_; clear hK K; (skip))
  refine AW.joinG (fun (e : Nat) => [(0, .ptr 0 0 0 0), (2, .ptr 1 1 0 0), (3, .ptr 2 2 0 0)]) (fun e => ⟨[(0, .own 81 [srcRow l (devA l k0).1]), (1, .own 26 [[.v (.int .i64 0), .v (.int .i64 0), .v (.int .i64 0), .v (.bool false), .v (.slice none 0 0), .v (.slice none 0 0), .v (.slice none 0 0)]]), (2, .own 26 [(devA l k0).2.av])], e⟩) (fun _ => True) ?_ ?_
  ·
   (refine AW.seq_k ?_; intro K hK)
   refine AW.region ?_
   refine awP (op_move rfl rfl) ?_
   refine awJ (op_call1 rfl en12 (C12 (n := 4) hl (by decide)) (by exact rfl) (RL.cons .ptr (RL.cons (.base (by exact View.same rfl)) (RL.nil))) (by exact ⟨_, _, _, rfl, rfl, rfl⟩) (by exact rfl) (by exact rfl) (by exact rfl)) ?_; (simp only [nA, ↓reduceIte])
   refine awP (op_gtr rfl rfl rfl) ?_
   refine AWL.nil ?_
   (refine hK _ ?_; clear hK K; (simp only [nA, Nat.reduceBEq, Nat.reduceEqDiff, ↓reduceIte, Nat.reduceAdd, Nat.reduceSub]))
   refine AW.cond rfl rfl rfl (fun hc => ?_) (fun hc => ?_)
   ·
    have hc1 := hc
    refine AW.ado (fun _ => True) mix rfl ?_
    refine adPo 1 rfl (fun T' ok => op_move rfl rfl) trivial (by kernel_rfl) (by kernel_rfl) ?_; (simp only [nA, Nat.reduceBEq, Nat.reduceEqDiff, ↓reduceIte])
    refine adPo 3 rfl (fun T' ok => op_move rfl rfl) trivial (by kernel_rfl) (by kernel_rfl) ?_; (simp only [nA, ↓reduceIte])
    refine adJ2o 0 2 rfl rfl (OpR.j (op_load_ptr rfl rfl rfl rfl ag26 sz26 (bl rfl) rfl)) (op_call1 rfl en30 (C30 (n := 8) hl (by decide)) (by exact rfl) (RL.cons .ptr (RL.cons (.base (by exact View.same rfl)) (RL.nil))) (by exact ⟨_, _, _, rfl, rfl, rfl⟩) (by exact rfl) (by exact rfl) (by exact rfl)) (by kernel_rfl) trivial trivial ?_ ?_
    · (simp only [nA, Nat.reduceBEq, Nat.reduceEqDiff, ↓reduceIte, Nat.reduceAdd, Nat.reduceSub]); refine adJo 2 rfl (op_call1 rfl en30 (C30 (n := 8) hl (by decide)) (by exact rfl) (RL.cons .ptr (RL.cons (.base (by exact View.same rfl)) (RL.nil))) (by exact ⟨_, _, _, rfl, rfl, rfl⟩) (by exact rfl) (by exact rfl) (by exact rfl)) (by kernel_rfl) trivial ?_; (simp only [nA, Nat.reduceBEq, Nat.reduceEqDiff, ↓reduceIte, Nat.reduceAdd, Nat.reduceSub])
      refine adJo 4 rfl (op_call1 rfl en38 (C38 (n := 5) hl (by decide)) (by exact rfl) (RL.cons .ptr (RL.cons (.base (by exact View.same rfl)) (RL.nil))) (by exact ⟨_, _, _, rfl, rfl, rfl⟩) (by exact rfl) (by exact rfl) (by exact rfl)) (by kernel_rfl) trivial ?_; (simp only [nA, Nat.reduceBEq, Nat.reduceEqDiff, ↓reduceIte, Nat.reduceAdd, Nat.reduceSub])
      refine adFo 5 rfl (fun T' ok => op_callS rfl en33 (C33 (g := (grS l 8 0 (rawN l (rawN l (rawN l k0))) []).2) (c := (emptiesV l (grS l 8 0 (rawN l (rawN l (rawN l k0))) []).1 5).2) (nb := dvN l k0) (nx := dvX l k0) (ls := 0) (by omega) (by omega) hcp) (RL.cons (by exact View.same rfl) (RL.cons (by exact View.same rfl) (RL.cons (by exact View.same rfl) (RL.nil)))) rfl rfl rfl) trivial (by kernel_rfl) (by kernel_rfl) ?_; (simp only [nA, Nat.reduceBEq, Nat.reduceEqDiff, ↓reduceIte, Nat.reduceAdd, Nat.reduceSub]); refine adPo 6 rfl (fun T' ok => op_move rfl rfl) trivial (by kernel_rfl) (by kernel_rfl) ?_; (simp only [nA]); refine adPo 7 rfl (fun T' ok => op_extract rfl rfl rfl) trivial (by kernel_rfl) (by kernel_rfl) ?_; (simp only [nA, Nat.reduceBEq, Nat.reduceEqDiff, ↓reduceIte, Nat.reduceAdd, Nat.reduceSub]); refine adPo 8 rfl (fun T' ok => op_extract rfl rfl rfl) trivial (by kernel_rfl) (by kernel_rfl) ?_; (simp only [nA, Nat.reduceBEq, Nat.reduceEqDiff, ↓reduceIte, Nat.reduceAdd, Nat.reduceSub]); refine adJo 9 rfl (op_store rfl rfl rfl rfl rfl rfl sz26 rfl (bl rfl) rfl) (by kernel_rfl) trivial ?_; (simp only [nA, Nat.reduceBEq, Nat.reduceEqDiff, ↓reduceIte, Nat.reduceAdd, Nat.reduceSub]); refine adDoneo (by kernel_rfl) ?_; have hA : devA l k0 = ((emptiesV l (grS l 8 0 (rawN l (rawN l (rawN l k0))) []).1 5).1, (offR (onH (dvN l k0) (dvX l k0) 0) (grS l 8 0 (rawN l (rawN l (rawN l k0))) []).2 (emptiesV l (grS l 8 0 (rawN l (rawN l (rawN l k0))) []).1 5).2).1) := (if_pos (by simpa using hc1)); rw [hA]; exact ⟨_, Gh.refl, _, trivial, ⟨rfl, rfl, rfl, trivial⟩, rfl, rfl⟩
    (simp only [nA, Nat.reduceBEq, Nat.reduceEqDiff, ↓reduceIte, Nat.reduceAdd, Nat.reduceSub]); refine adJ2o 0 4 rfl rfl (OpR.j (op_load_ptr rfl rfl rfl rfl ag26 sz26 (bl rfl) rfl)) (op_call1 rfl en38 (C38 (n := 5) hl (by decide)) (by exact rfl) (RL.cons .ptr (RL.cons (.base (by exact View.same rfl)) (RL.nil))) (by exact ⟨_, _, _, rfl, rfl, rfl⟩) (by exact rfl) (by exact rfl) (by exact rfl)) (by kernel_rfl) trivial trivial ?_ ?_
    · (simp only [nA, Nat.reduceBEq, Nat.reduceEqDiff, ↓reduceIte, Nat.reduceAdd, Nat.reduceSub]); refine adJo 4 rfl (op_call1 rfl en38 (C38 (n := 5) hl (by decide)) (by exact rfl) (RL.cons .ptr (RL.cons (.base (by exact View.same rfl)) (RL.nil))) (by exact ⟨_, _, _, rfl, rfl, rfl⟩) (by exact rfl) (by exact rfl) (by exact rfl)) (by kernel_rfl) trivial ?_; (simp only [nA, Nat.reduceBEq, Nat.reduceEqDiff, ↓reduceIte, Nat.reduceAdd, Nat.reduceSub])
      refine adFo 5 rfl (fun T' ok => op_callS rfl en33 (C33 (g := (grS l 8 0 (rawN l (rawN l (rawN l k0))) []).2) (c := (emptiesV l (grS l 8 0 (rawN l (rawN l (rawN l k0))) []).1 5).2) (nb := dvN l k0) (nx := dvX l k0) (ls := 0) (by omega) (by omega) hcp) (RL.cons (by exact View.same rfl) (RL.cons (by exact View.same rfl) (RL.cons (by exact View.same rfl) (RL.nil)))) rfl rfl rfl) trivial (by kernel_rfl) (by kernel_rfl) ?_; (simp only [nA, Nat.reduceBEq, Nat.reduceEqDiff, ↓reduceIte, Nat.reduceAdd, Nat.reduceSub]); refine adPo 6 rfl (fun T' ok => op_move rfl rfl) trivial (by kernel_rfl) (by kernel_rfl) ?_; (simp only [nA]); refine adPo 7 rfl (fun T' ok => op_extract rfl rfl rfl) trivial (by kernel_rfl) (by kernel_rfl) ?_; (simp only [nA, Nat.reduceBEq, Nat.reduceEqDiff, ↓reduceIte, Nat.reduceAdd, Nat.reduceSub]); refine adPo 8 rfl (fun T' ok => op_extract rfl rfl rfl) trivial (by kernel_rfl) (by kernel_rfl) ?_; (simp only [nA, Nat.reduceBEq, Nat.reduceEqDiff, ↓reduceIte, Nat.reduceAdd, Nat.reduceSub]); refine adJo 9 rfl (op_store rfl rfl rfl rfl rfl rfl sz26 rfl (bl rfl) rfl) (by kernel_rfl) trivial ?_; (simp only [nA, Nat.reduceBEq, Nat.reduceEqDiff, ↓reduceIte, Nat.reduceAdd, Nat.reduceSub]); refine adDoneo (by kernel_rfl) ?_; have hA : devA l k0 = ((emptiesV l (grS l 8 0 (rawN l (rawN l (rawN l k0))) []).1 5).1, (offR (onH (dvN l k0) (dvX l k0) 0) (grS l 8 0 (rawN l (rawN l (rawN l k0))) []).2 (emptiesV l (grS l 8 0 (rawN l (rawN l (rawN l k0))) []).1 5).2).1) := (if_pos (by simpa using hc1)); rw [hA]; exact ⟨_, Gh.refl, _, trivial, ⟨rfl, rfl, rfl, trivial⟩, rfl, rfl⟩
    (simp only [nA, Nat.reduceBEq, Nat.reduceEqDiff, ↓reduceIte, Nat.reduceAdd, Nat.reduceSub]); refine adJo 0 rfl (OpR.j (op_load_ptr rfl rfl rfl rfl ag26 sz26 (bl rfl) rfl)) (by kernel_rfl) trivial ?_; (simp only [nA, Nat.reduceBEq, Nat.reduceEqDiff, ↓reduceIte, Nat.reduceAdd, Nat.reduceSub])
    refine adFo 5 rfl (fun T' ok => op_callS rfl en33 (C33 (g := (grS l 8 0 (rawN l (rawN l (rawN l k0))) []).2) (c := (emptiesV l (grS l 8 0 (rawN l (rawN l (rawN l k0))) []).1 5).2) (nb := dvN l k0) (nx := dvX l k0) (ls := 0) (by omega) (by omega) hcp) (RL.cons (by exact View.same rfl) (RL.cons (by exact View.same rfl) (RL.cons (by exact View.same rfl) (RL.nil)))) rfl rfl rfl) trivial (by kernel_rfl) (by kernel_rfl) ?_; (simp only [nA, Nat.reduceBEq, Nat.reduceEqDiff, ↓reduceIte, Nat.reduceAdd, Nat.reduceSub]); refine adPo 6 rfl (fun T' ok => op_move rfl rfl) trivial (by kernel_rfl) (by kernel_rfl) ?_; (simp only [nA]); refine adPo 7 rfl (fun T' ok => op_extract rfl rfl rfl) trivial (by kernel_rfl) (by kernel_rfl) ?_; (simp only [nA, Nat.reduceBEq, Nat.reduceEqDiff, ↓reduceIte, Nat.reduceAdd, Nat.reduceSub]); refine adPo 8 rfl (fun T' ok => op_extract rfl rfl rfl) trivial (by kernel_rfl) (by kernel_rfl) ?_; (simp only [nA, Nat.reduceBEq, Nat.reduceEqDiff, ↓reduceIte, Nat.reduceAdd, Nat.reduceSub]); refine adJo 9 rfl (op_store rfl rfl rfl rfl rfl rfl sz26 rfl (bl rfl) rfl) (by kernel_rfl) trivial ?_; (simp only [nA, Nat.reduceBEq, Nat.reduceEqDiff, ↓reduceIte, Nat.reduceAdd, Nat.reduceSub]); refine adDoneo (by kernel_rfl) ?_; have hA : devA l k0 = ((emptiesV l (grS l 8 0 (rawN l (rawN l (rawN l k0))) []).1 5).1, (offR (onH (dvN l k0) (dvX l k0) 0) (grS l 8 0 (rawN l (rawN l (rawN l k0))) []).2 (emptiesV l (grS l 8 0 (rawN l (rawN l (rawN l k0))) []).1 5).2).1) := (if_pos (by simpa using hc1)); rw [hA]; exact ⟨_, Gh.refl, _, trivial, ⟨rfl, rfl, rfl, trivial⟩, rfl, rfl⟩
   have hc1 := hc
   refine AW.skip ?_
   have hA : devA l k0 = (rawN l (rawN l (rawN l k0)), onH (dvN l k0) (dvX l k0) 0) := (if_neg (by simpa using hc1)); rw [hA]; exact ⟨_, Gh.slot2 (r := 2) (es' := [(onH (dvN l k0) (dvX l k0) 0).av]) rfl rfl (show RL (Le2 Try.prog) (onV (dvN l k0) (dvX l k0) 0 ++ []) ((onH (dvN l k0) (dvX l k0) 0).av ++ []) from by rw [List.append_nil, List.append_nil]; exact on_le _ _ 0), _, trivial, ⟨rfl, rfl, rfl, trivial⟩, rfl, rfl⟩
  intro e ρ _; simp only [updL]
  (refine AW.seq_k ?_; intro K hK)
  (refine AW.seq_k ?_; intro K hK)
  refine AW.region ?_
  refine awP (op_move rfl rfl) ?_
  refine awJ (op_call1 rfl en12 (C12 (n := 8) hl (by decide)) (by exact rfl) (RL.cons .ptr (RL.cons (.base (by exact View.same rfl)) (RL.nil))) (by exact ⟨_, _, _, rfl, rfl, rfl⟩) (by exact rfl) (by exact rfl) (by exact rfl)) ?_; (simp only [nA])
  refine awP (op_assign rfl rfl) ?_
  refine AWL.nil ?_
  (refine hK _ ?_; clear hK K; (simp only [nA]))
  refine AW.block ?_
  refine AW.loopI (fun (q : Nat × Nat × Hand × Nat) => [(0, .ptr 0 0 0 0), (2, .ptr 1 1 0 0), (3, .ptr 2 2 0 0), (4, .v (.int .i64 (q.1 : Nat)))]) (fun q => ⟨[(0, .own 81 [srcRow l q.2.1]), (1, .own 26 [[.v (.int .i64 0), .v (.int .i64 0), .v (.int .i64 0), .v (.bool false), .v (.slice none 0 0), .v (.slice none 0 0), .v (.slice none 0 0)]]), (2, .own 26 [q.2.2.1.av])], q.2.2.2⟩) (fun q => q.1 ≤ 8 ∧ q.2.2.1.Sm ∧ DevI q.2.2.1 ∧ devS l q.1 q.2.1 q.2.2.1 = devV l k0) (fun q => q.1) ((gmod (rawV l (devA l k0).1) 8).toNat, rawN l (devA l k0).1, (devA l k0).2, _) ⟨by dsimp only; omega, (devA_I l k0).s, devA_I l k0, rfl⟩ ⟨rfl, rfl, rfl, (congrArg (fun z => AV.v (.int .i64 z)) hN0), trivial⟩ rfl ?_; rintro ⟨f, k, h, ep⟩ ρ hI; dsimp only at hI ⊢; simp only [updL]
  (refine AW.seq_k ?_; intro K hK)
  (refine AW.seq_k ?_; intro K hK)
  refine AW.region ?_
  refine awP (op_move rfl rfl) ?_
  refine awP (op_gtr rfl rfl rfl) ?_
  refine AWL.nil ?_
  (refine hK _ ?_; clear hK K; (simp only [nA, ↓reduceIte]))
  refine AW.cond rfl rfl rfl (fun hc => ?_) (fun hc => ?_)
  ·
   have hc2 := hc; obtain ⟨g, rfl⟩ : ∃ g, f = g + 1 := (by have h : (f : Int) > 0 := (by simpa using hc2); exact ⟨f - 1, by omega⟩); have hgz : ((g + 1 : Nat) : Int) - 1 = (g : Nat) := (by omega); have hR := hI.2.2.2; have hl0 := hI.2.2.1.l0; have hl1 := hI.2.2.1.l1; have hk2 := gmod_bd (x := rawV l (scanV l h k).1) (n := 2) (by decide); have hk3 := gmod_bd (x := rawV l (rawN l (scanV l h k).1)) (n := 3) (by decide)
   refine AW.skip ?_
   (refine hK _ ?_; clear hK K; (skip))
   (refine AW.seq_k ?_; intro K hK)
   refine AW.block ?_
   (refine AW.seq_k ?_; intro K hK)
   refine AW.region ?_
   refine awP (op_move rfl rfl) ?_
   (refine awR (op_load_ptr rfl rfl rfl rfl ag26 sz26 (bl rfl) rfl) ?_)
   refine awJ (op_call1 rfl en25 (C25 hl hI.2.1) (by exact rfl) (RL.cons .ptr (RL.cons (.base (by exact View.same rfl)) (RL.nil))) (by exact ⟨_, _, _, rfl, rfl, rfl⟩) (by exact rfl) (by exact rfl) (by exact rfl)) ?_; (simp only [nA, ↓reduceIte])
   refine awP (op_move rfl rfl) ?_
   refine awP (op_extract rfl rfl rfl) ?_
   refine awP (op_extract rfl rfl rfl) ?_
   refine awJ (op_alloc rfl ze31 rfl) ?_; (simp only [nA, Nat.reduceBEq, Nat.reduceEqDiff, ↓reduceIte])
   refine awJ (op_store rfl rfl rfl rfl rfl rfl sz31 rfl (bl rfl) rfl) ?_; (simp only [nA, Nat.reduceBEq, Nat.reduceEqDiff, ↓reduceIte])
   refine awP (op_assign rfl rfl) ?_
   refine AWL.nil ?_
   (refine hK _ ?_; clear hK K; (simp only [nA, ↓reduceIte]))
   (refine AW.seq_k ?_; intro K hK)
   refine AW.ado (fun T' => T'.slots[2]? = some (2, .own 26 [h.av]) ∧ T'.slots[3]? = some (ep, .own 31 [(scanV l h k).2.1.av])) mix rfl ?_
   refine adRo 0 rfl (fun T' ok => op_load_ptr rfl rfl ok.1 rfl ag26 sz26 (bl rfl) rfl) ⟨rfl, rfl⟩ (by kernel_rfl) (by kernel_rfl) ?_; (simp only [nA, Nat.reduceBEq, Nat.reduceEqDiff, ↓reduceIte])
   refine adPo 1 rfl (fun T' ok => op_move rfl rfl) ⟨rfl, rfl⟩ (by kernel_rfl) (by kernel_rfl) ?_; (simp only [nA, ↓reduceIte])
   refine adRo 4 rfl (fun T' ok => op_load_ptr rfl rfl ok.2 rfl ag31 sz31 (bl rfl) rfl) ⟨rfl, rfl⟩ (by kernel_rfl) (by kernel_rfl) ?_; (simp only [nA, Nat.reduceBEq, Nat.reduceEqDiff, ↓reduceIte, Nat.reduceAdd, Nat.reduceSub])
   refine adPo 5 rfl (fun T' ok => op_move rfl rfl) ⟨rfl, rfl⟩ (by kernel_rfl) (by kernel_rfl) ?_; (simp only [nA, ↓reduceIte])
   refine adPo 6 rfl (fun T' ok => op_fa_ptr rfl rfl ok.1 fl26_2 (by exact sz3) (by decide) rfl) ⟨rfl, rfl⟩ (by kernel_rfl) (by kernel_rfl) ?_; (simp only [nA, Nat.reduceBEq, Nat.reduceEqDiff, ↓reduceIte, Nat.reduceAdd, Nat.reduceSub])
   refine adRo 7 rfl (fun T' ok => op_load_ptr1 rfl rfl ok.1 rfl ag3 rfl rfl) ⟨rfl, rfl⟩ (by kernel_rfl) (by kernel_rfl) ?_; (simp only [nA, Nat.reduceBEq, Nat.reduceEqDiff, ↓reduceIte, Nat.reduceAdd, Nat.reduceSub])
   refine adPo 8 rfl (fun T' ok => op_move rfl rfl) ⟨rfl, rfl⟩ (by kernel_rfl) (by kernel_rfl) ?_; (simp only [nA, ↓reduceIte])
   refine adJ3o 2 16 17 rfl rfl rfl (op_call1 rfl en12 (C12 (n := 2) hl (by decide)) (by exact rfl) (RL.cons .ptr (RL.cons (.base (by exact View.same rfl)) (RL.nil))) (by exact ⟨_, _, _, rfl, rfl, rfl⟩) (by exact rfl) (by exact rfl) (by exact rfl)) (op_alloc rfl ze26 rfl) (op_alloc rfl ze33 rfl) (by kernel_rfl) ⟨rfl, rfl⟩ ⟨rfl, rfl⟩ ⟨rfl, rfl⟩ ?_ ?_ ?_
   · (simp only [nA, Nat.reduceBEq, Nat.reduceEqDiff, ↓reduceIte, Nat.reduceAdd, Nat.reduceSub])
     refine adPo 3 rfl (fun T' ok => op_addi rfl rfl rfl (by omega)) ⟨rfl, rfl⟩ (by kernel_rfl) (by kernel_rfl) ?_; (simp only [nA, Nat.reduceBEq, Nat.reduceEqDiff, ↓reduceIte, Nat.reduceAdd, Nat.reduceSub])
     refine adJ3o 9 16 17 rfl rfl rfl (op_call1 rfl en12 (C12 (n := 3) hl (by decide)) (by exact rfl) (RL.cons .ptr (RL.cons (.base (by exact View.same rfl)) (RL.nil))) (by exact ⟨_, _, _, rfl, rfl, rfl⟩) (by exact rfl) (by exact rfl) (by exact rfl)) (op_alloc rfl ze26 rfl) (op_alloc rfl ze33 rfl) (by kernel_rfl) ⟨rfl, rfl⟩ ⟨rfl, rfl⟩ ⟨rfl, rfl⟩ ?_ ?_ ?_
     · (simp only [nA, Nat.reduceBEq, Nat.reduceEqDiff, ↓reduceIte, Nat.reduceAdd, Nat.reduceSub])
       refine adPo 10 rfl (fun T' ok => op_addi rfl rfl rfl (by omega)) ⟨rfl, rfl⟩ (by kernel_rfl) (by kernel_rfl) ?_; (simp only [nA, Nat.reduceBEq, Nat.reduceEqDiff, ↓reduceIte, Nat.reduceAdd, Nat.reduceSub])
       refine adFo 11 rfl (fun T' ok => op_callS rfl en27 (C27 hI.2.1) (RL.cons (by exact View.same rfl) (RL.cons (by exact View.same rfl) (RL.cons (by exact View.same rfl) (RL.cons (by exact View.same rfl) (RL.cons (by exact View.same rfl) RL.nil))))) rfl rfl rfl) ⟨rfl, rfl⟩ (by kernel_rfl) (by kernel_rfl) ?_; (simp only [nA, Nat.reduceBEq, Nat.reduceEqDiff, ↓reduceIte, Nat.reduceAdd, Nat.reduceSub])
       refine adPo 12 rfl (fun T' ok => op_move rfl rfl) ⟨rfl, rfl⟩ (by kernel_rfl) (by kernel_rfl) ?_; (simp only [nA])
       refine adPo 13 rfl (fun T' ok => op_extract rfl rfl rfl) ⟨rfl, rfl⟩ (by kernel_rfl) (by kernel_rfl) ?_; (simp only [nA, Nat.reduceBEq, Nat.reduceEqDiff, ↓reduceIte, Nat.reduceAdd, Nat.reduceSub])
       refine adPo 14 rfl (fun T' ok => op_extract rfl rfl rfl) ⟨rfl, rfl⟩ (by kernel_rfl) (by kernel_rfl) ?_; (simp only [nA, Nat.reduceBEq, Nat.reduceEqDiff, ↓reduceIte, Nat.reduceAdd, Nat.reduceSub])
       refine adPo 15 rfl (fun T' ok => op_extract rfl rfl rfl) ⟨rfl, rfl⟩ (by kernel_rfl) (by kernel_rfl) ?_; (simp only [nA, Nat.reduceBEq, Nat.reduceEqDiff, ↓reduceIte, Nat.reduceAdd, Nat.reduceSub])
       refine adJ2o 16 17 rfl rfl (op_alloc rfl ze26 rfl) (op_alloc rfl ze33 rfl) (by kernel_rfl) ⟨rfl, rfl⟩ ⟨rfl, rfl⟩ ?_ ?_
       · (simp only [nA, Nat.reduceBEq, Nat.reduceEqDiff, ↓reduceIte])
         refine adJo 17 rfl (op_alloc rfl ze33 rfl) (by kernel_rfl) ⟨rfl, rfl⟩ ?_; (simp only [nA, Nat.reduceBEq, Nat.reduceEqDiff, ↓reduceIte])
         refine adJo 18 rfl (op_store rfl rfl rfl rfl rfl rfl sz26 rfl (bl rfl) rfl) (by kernel_rfl) ⟨rfl, rfl⟩ ?_; (simp only [nA, Nat.reduceBEq, Nat.reduceEqDiff, ↓reduceIte])
         refine adJo 19 rfl (op_store rfl rfl rfl rfl rfl rfl sz33 rfl (bl rfl) rfl) (by kernel_rfl) ⟨rfl, rfl⟩ ?_; (simp only [nA, Nat.reduceBEq, Nat.reduceEqDiff, ↓reduceIte])
         refine adPo 20 rfl (fun T' ok => op_assign rfl rfl) ⟨rfl, rfl⟩ (by kernel_rfl) (by kernel_rfl) ?_; (simp only [nA, ↓reduceIte])
         refine adDoneo (by kernel_rfl) ?_
         (refine hK _ ?_; clear hK K; (skip)); (refine AW.seq_k ?_; intro K hK); refine AW.region ?_; refine awP (op_move rfl rfl) ?_; (simp only [nA]); refine awP (op_eql rfl rfl rfl) ?_; (simp only [nA, Nat.reduceBEq, Nat.reduceEqDiff, ↓reduceIte, Nat.reduceAdd, Nat.reduceSub]); refine AWL.nil ?_; (refine hK _ ?_; clear hK K; (skip)); refine AW.cond rfl rfl rfl (fun hc3 => ?_) (fun hc3 => ?_)
         · refine AW.region ?_; refine awR (op_load_ptr rfl rfl rfl rfl ag26 sz26 (bl rfl) rfl) ?_; (simp only [nA, Nat.reduceBEq, Nat.reduceEqDiff, ↓reduceIte, Nat.reduceAdd, Nat.reduceSub]); refine awJ (op_store rfl rfl rfl rfl rfl rfl sz26 rfl (bl rfl) rfl) ?_; (simp only [nA, Nat.reduceBEq, Nat.reduceEqDiff, ↓reduceIte, Nat.reduceAdd, Nat.reduceSub]); refine AWL.nil ?_; (simp only [thenE, inBlk, Nat.reduceEqDiff, ↓reduceIte]); (refine hK _ ?_; clear hK K; (skip)); refine AW.region ?_; refine awP (op_move rfl rfl) ?_; (simp only [nA, ↓reduceIte]); refine awP (op_subi rfl rfl rfl (by omega)) ?_; (simp only [nA, Nat.reduceBEq, Nat.reduceEqDiff, ↓reduceIte, Nat.reduceAdd, Nat.reduceSub]); refine awP (op_assign rfl rfl) ?_; (simp only [nA]); refine AWL.gh (Gh.drop 3) ?_; (simp only [nA, Nat.reduceBEq, Nat.reduceEqDiff, ↓reduceIte, Nat.reduceAdd, Nat.reduceSub]); refine AWL.nil ?_; have hS : stepV l h k = (rawN l (rawN l (scanV l h k).1), (scanR h (1 + gmod (rawV l (scanV l h k).1) 2) (scanV l h k).2.1 (scanV l h k).2.2 (h.last + gmod (rawV l (rawN l (scanV l h k).1)) 3)).1) := (by unfold stepV; dsimp only; rw [if_pos (by simpa using hc3)]); have hD := hI.2.2.1.step (l := l) k; have hR2 : devS l g (stepV l h k).1 (stepV l h k).2 = devV l k0 := hR; rw [hS] at hD hR2; refine ⟨(g, _, _, _), ⟨by dsimp only; omega, hD.s, hD, hR2⟩, by dsimp only; omega, ⟨rfl, rfl, rfl, (congrArg (fun z => AV.v (.int .i64 z)) hgz), trivial⟩, (by rfl), (by rfl)⟩
         refine AW.skip ?_; (simp only [thenE, inBlk, Nat.reduceEqDiff, ↓reduceIte]); (refine hK _ ?_; clear hK K; (skip)); refine AW.region ?_; refine awP (op_move rfl rfl) ?_; (simp only [nA, ↓reduceIte]); refine awP (op_subi rfl rfl rfl (by omega)) ?_; (simp only [nA, Nat.reduceBEq, Nat.reduceEqDiff, ↓reduceIte, Nat.reduceAdd, Nat.reduceSub]); refine awP (op_assign rfl rfl) ?_; (simp only [nA]); refine AWL.gh (Gh.drop 3) ?_; (simp only [nA, Nat.reduceBEq, Nat.reduceEqDiff, ↓reduceIte, Nat.reduceAdd, Nat.reduceSub]); refine AWL.nil ?_; have hS : stepV l h k = (rawN l (rawN l (scanV l h k).1), h) := (by unfold stepV; dsimp only; rw [if_neg (by simpa using hc3)]); have hD := hI.2.2.1.step (l := l) k; have hR2 : devS l g (stepV l h k).1 (stepV l h k).2 = devV l k0 := hR; rw [hS] at hD hR2; refine ⟨(g, _, _, _), ⟨by dsimp only; omega, hD.s, hD, hR2⟩, by dsimp only; omega, ⟨rfl, rfl, rfl, (congrArg (fun z => AV.v (.int .i64 z)) hgz), trivial⟩, (by rfl), (by rfl)⟩
       (simp only [nA, Nat.reduceBEq, Nat.reduceEqDiff, ↓reduceIte])
       refine adJo 16 rfl (op_alloc rfl ze26 rfl) (by kernel_rfl) ⟨rfl, rfl⟩ ?_; (simp only [nA, Nat.reduceBEq, Nat.reduceEqDiff, ↓reduceIte])
       refine adJo 18 rfl (op_store rfl rfl rfl rfl rfl rfl sz26 rfl (bl rfl) rfl) (by kernel_rfl) ⟨rfl, rfl⟩ ?_; (simp only [nA, Nat.reduceBEq, Nat.reduceEqDiff, ↓reduceIte])
       refine adJo 19 rfl (op_store rfl rfl rfl rfl rfl rfl sz33 rfl (bl rfl) rfl) (by kernel_rfl) ⟨rfl, rfl⟩ ?_; (simp only [nA, Nat.reduceBEq, Nat.reduceEqDiff, ↓reduceIte])
       refine adPo 20 rfl (fun T' ok => op_assign rfl rfl) ⟨rfl, rfl⟩ (by kernel_rfl) (by kernel_rfl) ?_; (simp only [nA, ↓reduceIte])
       refine adDoneo (by kernel_rfl) ?_
       (refine hK _ ?_; clear hK K; (skip)); (refine AW.seq_k ?_; intro K hK); refine AW.region ?_; refine awP (op_move rfl rfl) ?_; (simp only [nA]); refine awP (op_eql rfl rfl rfl) ?_; (simp only [nA, Nat.reduceBEq, Nat.reduceEqDiff, ↓reduceIte, Nat.reduceAdd, Nat.reduceSub]); refine AWL.nil ?_; (refine hK _ ?_; clear hK K; (skip)); refine AW.cond rfl rfl rfl (fun hc3 => ?_) (fun hc3 => ?_)
       · refine AW.region ?_; refine awR (op_load_ptr rfl rfl rfl rfl ag26 sz26 (bl rfl) rfl) ?_; (simp only [nA, Nat.reduceBEq, Nat.reduceEqDiff, ↓reduceIte, Nat.reduceAdd, Nat.reduceSub]); refine awJ (op_store rfl rfl rfl rfl rfl rfl sz26 rfl (bl rfl) rfl) ?_; (simp only [nA, Nat.reduceBEq, Nat.reduceEqDiff, ↓reduceIte, Nat.reduceAdd, Nat.reduceSub]); refine AWL.nil ?_; (simp only [thenE, inBlk, Nat.reduceEqDiff, ↓reduceIte]); (refine hK _ ?_; clear hK K; (skip)); refine AW.region ?_; refine awP (op_move rfl rfl) ?_; (simp only [nA, ↓reduceIte]); refine awP (op_subi rfl rfl rfl (by omega)) ?_; (simp only [nA, Nat.reduceBEq, Nat.reduceEqDiff, ↓reduceIte, Nat.reduceAdd, Nat.reduceSub]); refine awP (op_assign rfl rfl) ?_; (simp only [nA]); refine AWL.gh (Gh.drop 3) ?_; (simp only [nA, Nat.reduceBEq, Nat.reduceEqDiff, ↓reduceIte, Nat.reduceAdd, Nat.reduceSub]); refine AWL.nil ?_; have hS : stepV l h k = (rawN l (rawN l (scanV l h k).1), (scanR h (1 + gmod (rawV l (scanV l h k).1) 2) (scanV l h k).2.1 (scanV l h k).2.2 (h.last + gmod (rawV l (rawN l (scanV l h k).1)) 3)).1) := (by unfold stepV; dsimp only; rw [if_pos (by simpa using hc3)]); have hD := hI.2.2.1.step (l := l) k; have hR2 : devS l g (stepV l h k).1 (stepV l h k).2 = devV l k0 := hR; rw [hS] at hD hR2; refine ⟨(g, _, _, _), ⟨by dsimp only; omega, hD.s, hD, hR2⟩, by dsimp only; omega, ⟨rfl, rfl, rfl, (congrArg (fun z => AV.v (.int .i64 z)) hgz), trivial⟩, (by rfl), (by rfl)⟩
       refine AW.skip ?_; (simp only [thenE, inBlk, Nat.reduceEqDiff, ↓reduceIte]); (refine hK _ ?_; clear hK K; (skip)); refine AW.region ?_; refine awP (op_move rfl rfl) ?_; (simp only [nA, ↓reduceIte]); refine awP (op_subi rfl rfl rfl (by omega)) ?_; (simp only [nA, Nat.reduceBEq, Nat.reduceEqDiff, ↓reduceIte, Nat.reduceAdd, Nat.reduceSub]); refine awP (op_assign rfl rfl) ?_; (simp only [nA]); refine AWL.gh (Gh.drop 3) ?_; (simp only [nA, Nat.reduceBEq, Nat.reduceEqDiff, ↓reduceIte, Nat.reduceAdd, Nat.reduceSub]); refine AWL.nil ?_; have hS : stepV l h k = (rawN l (rawN l (scanV l h k).1), h) := (by unfold stepV; dsimp only; rw [if_neg (by simpa using hc3)]); have hD := hI.2.2.1.step (l := l) k; have hR2 : devS l g (stepV l h k).1 (stepV l h k).2 = devV l k0 := hR; rw [hS] at hD hR2; refine ⟨(g, _, _, _), ⟨by dsimp only; omega, hD.s, hD, hR2⟩, by dsimp only; omega, ⟨rfl, rfl, rfl, (congrArg (fun z => AV.v (.int .i64 z)) hgz), trivial⟩, (by rfl), (by rfl)⟩
     · (simp only [nA, Nat.reduceBEq, Nat.reduceEqDiff, ↓reduceIte])
       refine adJ2o 9 17 rfl rfl (op_call1 rfl en12 (C12 (n := 3) hl (by decide)) (by exact rfl) (RL.cons .ptr (RL.cons (.base (by exact View.same rfl)) (RL.nil))) (by exact ⟨_, _, _, rfl, rfl, rfl⟩) (by exact rfl) (by exact rfl) (by exact rfl)) (op_alloc rfl ze33 rfl) (by kernel_rfl) ⟨rfl, rfl⟩ ⟨rfl, rfl⟩ ?_ ?_
       · (simp only [nA, Nat.reduceBEq, Nat.reduceEqDiff, ↓reduceIte, Nat.reduceAdd, Nat.reduceSub])
         refine adPo 10 rfl (fun T' ok => op_addi rfl rfl rfl (by omega)) ⟨rfl, rfl⟩ (by kernel_rfl) (by kernel_rfl) ?_; (simp only [nA, Nat.reduceBEq, Nat.reduceEqDiff, ↓reduceIte, Nat.reduceAdd, Nat.reduceSub])
         refine adFo 11 rfl (fun T' ok => op_callS rfl en27 (C27 hI.2.1) (RL.cons (by exact View.same rfl) (RL.cons (by exact View.same rfl) (RL.cons (by exact View.same rfl) (RL.cons (by exact View.same rfl) (RL.cons (by exact View.same rfl) RL.nil))))) rfl rfl rfl) ⟨rfl, rfl⟩ (by kernel_rfl) (by kernel_rfl) ?_; (simp only [nA, Nat.reduceBEq, Nat.reduceEqDiff, ↓reduceIte, Nat.reduceAdd, Nat.reduceSub])
         refine adPo 12 rfl (fun T' ok => op_move rfl rfl) ⟨rfl, rfl⟩ (by kernel_rfl) (by kernel_rfl) ?_; (simp only [nA])
         refine adPo 13 rfl (fun T' ok => op_extract rfl rfl rfl) ⟨rfl, rfl⟩ (by kernel_rfl) (by kernel_rfl) ?_; (simp only [nA, Nat.reduceBEq, Nat.reduceEqDiff, ↓reduceIte, Nat.reduceAdd, Nat.reduceSub])
         refine adPo 14 rfl (fun T' ok => op_extract rfl rfl rfl) ⟨rfl, rfl⟩ (by kernel_rfl) (by kernel_rfl) ?_; (simp only [nA, Nat.reduceBEq, Nat.reduceEqDiff, ↓reduceIte, Nat.reduceAdd, Nat.reduceSub])
         refine adPo 15 rfl (fun T' ok => op_extract rfl rfl rfl) ⟨rfl, rfl⟩ (by kernel_rfl) (by kernel_rfl) ?_; (simp only [nA, Nat.reduceBEq, Nat.reduceEqDiff, ↓reduceIte, Nat.reduceAdd, Nat.reduceSub])
         refine adJo 17 rfl (op_alloc rfl ze33 rfl) (by kernel_rfl) ⟨rfl, rfl⟩ ?_; (simp only [nA, Nat.reduceBEq, Nat.reduceEqDiff, ↓reduceIte])
         refine adJo 18 rfl (op_store rfl rfl rfl rfl rfl rfl sz26 rfl (bl rfl) rfl) (by kernel_rfl) ⟨rfl, rfl⟩ ?_; (simp only [nA, Nat.reduceBEq, Nat.reduceEqDiff, ↓reduceIte])
         refine adJo 19 rfl (op_store rfl rfl rfl rfl rfl rfl sz33 rfl (bl rfl) rfl) (by kernel_rfl) ⟨rfl, rfl⟩ ?_; (simp only [nA, Nat.reduceBEq, Nat.reduceEqDiff, ↓reduceIte])
         refine adPo 20 rfl (fun T' ok => op_assign rfl rfl) ⟨rfl, rfl⟩ (by kernel_rfl) (by kernel_rfl) ?_; (simp only [nA, ↓reduceIte])
         refine adDoneo (by kernel_rfl) ?_
         (refine hK _ ?_; clear hK K; (skip)); (refine AW.seq_k ?_; intro K hK); refine AW.region ?_; refine awP (op_move rfl rfl) ?_; (simp only [nA]); refine awP (op_eql rfl rfl rfl) ?_; (simp only [nA, Nat.reduceBEq, Nat.reduceEqDiff, ↓reduceIte, Nat.reduceAdd, Nat.reduceSub]); refine AWL.nil ?_; (refine hK _ ?_; clear hK K; (skip)); refine AW.cond rfl rfl rfl (fun hc3 => ?_) (fun hc3 => ?_)
         · refine AW.region ?_; refine awR (op_load_ptr rfl rfl rfl rfl ag26 sz26 (bl rfl) rfl) ?_; (simp only [nA, Nat.reduceBEq, Nat.reduceEqDiff, ↓reduceIte, Nat.reduceAdd, Nat.reduceSub]); refine awJ (op_store rfl rfl rfl rfl rfl rfl sz26 rfl (bl rfl) rfl) ?_; (simp only [nA, Nat.reduceBEq, Nat.reduceEqDiff, ↓reduceIte, Nat.reduceAdd, Nat.reduceSub]); refine AWL.nil ?_; (simp only [thenE, inBlk, Nat.reduceEqDiff, ↓reduceIte]); (refine hK _ ?_; clear hK K; (skip)); refine AW.region ?_; refine awP (op_move rfl rfl) ?_; (simp only [nA, ↓reduceIte]); refine awP (op_subi rfl rfl rfl (by omega)) ?_; (simp only [nA, Nat.reduceBEq, Nat.reduceEqDiff, ↓reduceIte, Nat.reduceAdd, Nat.reduceSub]); refine awP (op_assign rfl rfl) ?_; (simp only [nA]); refine AWL.gh (Gh.drop 3) ?_; (simp only [nA, Nat.reduceBEq, Nat.reduceEqDiff, ↓reduceIte, Nat.reduceAdd, Nat.reduceSub]); refine AWL.nil ?_; have hS : stepV l h k = (rawN l (rawN l (scanV l h k).1), (scanR h (1 + gmod (rawV l (scanV l h k).1) 2) (scanV l h k).2.1 (scanV l h k).2.2 (h.last + gmod (rawV l (rawN l (scanV l h k).1)) 3)).1) := (by unfold stepV; dsimp only; rw [if_pos (by simpa using hc3)]); have hD := hI.2.2.1.step (l := l) k; have hR2 : devS l g (stepV l h k).1 (stepV l h k).2 = devV l k0 := hR; rw [hS] at hD hR2; refine ⟨(g, _, _, _), ⟨by dsimp only; omega, hD.s, hD, hR2⟩, by dsimp only; omega, ⟨rfl, rfl, rfl, (congrArg (fun z => AV.v (.int .i64 z)) hgz), trivial⟩, (by rfl), (by rfl)⟩
         refine AW.skip ?_; (simp only [thenE, inBlk, Nat.reduceEqDiff, ↓reduceIte]); (refine hK _ ?_; clear hK K; (skip)); refine AW.region ?_; refine awP (op_move rfl rfl) ?_; (simp only [nA, ↓reduceIte]); refine awP (op_subi rfl rfl rfl (by omega)) ?_; (simp only [nA, Nat.reduceBEq, Nat.reduceEqDiff, ↓reduceIte, Nat.reduceAdd, Nat.reduceSub]); refine awP (op_assign rfl rfl) ?_; (simp only [nA]); refine AWL.gh (Gh.drop 3) ?_; (simp only [nA, Nat.reduceBEq, Nat.reduceEqDiff, ↓reduceIte, Nat.reduceAdd, Nat.reduceSub]); refine AWL.nil ?_; have hS : stepV l h k = (rawN l (rawN l (scanV l h k).1), h) := (by unfold stepV; dsimp only; rw [if_neg (by simpa using hc3)]); have hD := hI.2.2.1.step (l := l) k; have hR2 : devS l g (stepV l h k).1 (stepV l h k).2 = devV l k0 := hR; rw [hS] at hD hR2; refine ⟨(g, _, _, _), ⟨by dsimp only; omega, hD.s, hD, hR2⟩, by dsimp only; omega, ⟨rfl, rfl, rfl, (congrArg (fun z => AV.v (.int .i64 z)) hgz), trivial⟩, (by rfl), (by rfl)⟩
       (simp only [nA, Nat.reduceBEq, Nat.reduceEqDiff, ↓reduceIte])
       refine adJo 9 rfl (op_call1 rfl en12 (C12 (n := 3) hl (by decide)) (by exact rfl) (RL.cons .ptr (RL.cons (.base (by exact View.same rfl)) (RL.nil))) (by exact ⟨_, _, _, rfl, rfl, rfl⟩) (by exact rfl) (by exact rfl) (by exact rfl)) (by kernel_rfl) ⟨rfl, rfl⟩ ?_; (simp only [nA, Nat.reduceBEq, Nat.reduceEqDiff, ↓reduceIte, Nat.reduceAdd, Nat.reduceSub])
       refine adPo 10 rfl (fun T' ok => op_addi rfl rfl rfl (by omega)) ⟨rfl, rfl⟩ (by kernel_rfl) (by kernel_rfl) ?_; (simp only [nA, Nat.reduceBEq, Nat.reduceEqDiff, ↓reduceIte, Nat.reduceAdd, Nat.reduceSub])
       refine adFo 11 rfl (fun T' ok => op_callS rfl en27 (C27 hI.2.1) (RL.cons (by exact View.same rfl) (RL.cons (by exact View.same rfl) (RL.cons (by exact View.same rfl) (RL.cons (by exact View.same rfl) (RL.cons (by exact View.same rfl) RL.nil))))) rfl rfl rfl) ⟨rfl, rfl⟩ (by kernel_rfl) (by kernel_rfl) ?_; (simp only [nA, Nat.reduceBEq, Nat.reduceEqDiff, ↓reduceIte, Nat.reduceAdd, Nat.reduceSub])
       refine adPo 12 rfl (fun T' ok => op_move rfl rfl) ⟨rfl, rfl⟩ (by kernel_rfl) (by kernel_rfl) ?_; (simp only [nA])
       refine adPo 13 rfl (fun T' ok => op_extract rfl rfl rfl) ⟨rfl, rfl⟩ (by kernel_rfl) (by kernel_rfl) ?_; (simp only [nA, Nat.reduceBEq, Nat.reduceEqDiff, ↓reduceIte, Nat.reduceAdd, Nat.reduceSub])
       refine adPo 14 rfl (fun T' ok => op_extract rfl rfl rfl) ⟨rfl, rfl⟩ (by kernel_rfl) (by kernel_rfl) ?_; (simp only [nA, Nat.reduceBEq, Nat.reduceEqDiff, ↓reduceIte, Nat.reduceAdd, Nat.reduceSub])
       refine adPo 15 rfl (fun T' ok => op_extract rfl rfl rfl) ⟨rfl, rfl⟩ (by kernel_rfl) (by kernel_rfl) ?_; (simp only [nA, Nat.reduceBEq, Nat.reduceEqDiff, ↓reduceIte, Nat.reduceAdd, Nat.reduceSub])
       refine adJo 18 rfl (op_store rfl rfl rfl rfl rfl rfl sz26 rfl (bl rfl) rfl) (by kernel_rfl) ⟨rfl, rfl⟩ ?_; (simp only [nA, Nat.reduceBEq, Nat.reduceEqDiff, ↓reduceIte])
       refine adJo 19 rfl (op_store rfl rfl rfl rfl rfl rfl sz33 rfl (bl rfl) rfl) (by kernel_rfl) ⟨rfl, rfl⟩ ?_; (simp only [nA, Nat.reduceBEq, Nat.reduceEqDiff, ↓reduceIte])
       refine adPo 20 rfl (fun T' ok => op_assign rfl rfl) ⟨rfl, rfl⟩ (by kernel_rfl) (by kernel_rfl) ?_; (simp only [nA])
       refine adDoneo (by kernel_rfl) ?_
       (refine hK _ ?_; clear hK K; (skip)); (refine AW.seq_k ?_; intro K hK); refine AW.region ?_; refine awP (op_move rfl rfl) ?_; (simp only [nA]); refine awP (op_eql rfl rfl rfl) ?_; (simp only [nA, Nat.reduceBEq, Nat.reduceEqDiff, ↓reduceIte, Nat.reduceAdd, Nat.reduceSub]); refine AWL.nil ?_; (refine hK _ ?_; clear hK K; (skip)); refine AW.cond rfl rfl rfl (fun hc3 => ?_) (fun hc3 => ?_)
       · refine AW.region ?_; refine awR (op_load_ptr rfl rfl rfl rfl ag26 sz26 (bl rfl) rfl) ?_; (simp only [nA, Nat.reduceBEq, Nat.reduceEqDiff, ↓reduceIte, Nat.reduceAdd, Nat.reduceSub]); refine awJ (op_store rfl rfl rfl rfl rfl rfl sz26 rfl (bl rfl) rfl) ?_; (simp only [nA, Nat.reduceBEq, Nat.reduceEqDiff, ↓reduceIte, Nat.reduceAdd, Nat.reduceSub]); refine AWL.nil ?_; (simp only [thenE, inBlk, Nat.reduceEqDiff, ↓reduceIte]); (refine hK _ ?_; clear hK K; (skip)); refine AW.region ?_; refine awP (op_move rfl rfl) ?_; (simp only [nA, ↓reduceIte]); refine awP (op_subi rfl rfl rfl (by omega)) ?_; (simp only [nA, Nat.reduceBEq, Nat.reduceEqDiff, ↓reduceIte, Nat.reduceAdd, Nat.reduceSub]); refine awP (op_assign rfl rfl) ?_; (simp only [nA]); refine AWL.gh (Gh.drop 3) ?_; (simp only [nA, Nat.reduceBEq, Nat.reduceEqDiff, ↓reduceIte, Nat.reduceAdd, Nat.reduceSub]); refine AWL.nil ?_; have hS : stepV l h k = (rawN l (rawN l (scanV l h k).1), (scanR h (1 + gmod (rawV l (scanV l h k).1) 2) (scanV l h k).2.1 (scanV l h k).2.2 (h.last + gmod (rawV l (rawN l (scanV l h k).1)) 3)).1) := (by unfold stepV; dsimp only; rw [if_pos (by simpa using hc3)]); have hD := hI.2.2.1.step (l := l) k; have hR2 : devS l g (stepV l h k).1 (stepV l h k).2 = devV l k0 := hR; rw [hS] at hD hR2; refine ⟨(g, _, _, _), ⟨by dsimp only; omega, hD.s, hD, hR2⟩, by dsimp only; omega, ⟨rfl, rfl, rfl, (congrArg (fun z => AV.v (.int .i64 z)) hgz), trivial⟩, (by rfl), (by rfl)⟩
       refine AW.skip ?_; (simp only [thenE, inBlk, Nat.reduceEqDiff, ↓reduceIte]); (refine hK _ ?_; clear hK K; (skip)); refine AW.region ?_; refine awP (op_move rfl rfl) ?_; (simp only [nA, ↓reduceIte]); refine awP (op_subi rfl rfl rfl (by omega)) ?_; (simp only [nA, Nat.reduceBEq, Nat.reduceEqDiff, ↓reduceIte, Nat.reduceAdd, Nat.reduceSub]); refine awP (op_assign rfl rfl) ?_; (simp only [nA]); refine AWL.gh (Gh.drop 3) ?_; (simp only [nA, Nat.reduceBEq, Nat.reduceEqDiff, ↓reduceIte, Nat.reduceAdd, Nat.reduceSub]); refine AWL.nil ?_; have hS : stepV l h k = (rawN l (rawN l (scanV l h k).1), h) := (by unfold stepV; dsimp only; rw [if_neg (by simpa using hc3)]); have hD := hI.2.2.1.step (l := l) k; have hR2 : devS l g (stepV l h k).1 (stepV l h k).2 = devV l k0 := hR; rw [hS] at hD hR2; refine ⟨(g, _, _, _), ⟨by dsimp only; omega, hD.s, hD, hR2⟩, by dsimp only; omega, ⟨rfl, rfl, rfl, (congrArg (fun z => AV.v (.int .i64 z)) hgz), trivial⟩, (by rfl), (by rfl)⟩
     (simp only [nA, Nat.reduceBEq, Nat.reduceEqDiff, ↓reduceIte])
     refine adJ2o 9 16 rfl rfl (op_call1 rfl en12 (C12 (n := 3) hl (by decide)) (by exact rfl) (RL.cons .ptr (RL.cons (.base (by exact View.same rfl)) (RL.nil))) (by exact ⟨_, _, _, rfl, rfl, rfl⟩) (by exact rfl) (by exact rfl) (by exact rfl)) (op_alloc rfl ze26 rfl) (by kernel_rfl) ⟨rfl, rfl⟩ ⟨rfl, rfl⟩ ?_ ?_
     · (simp only [nA, Nat.reduceBEq, Nat.reduceEqDiff, ↓reduceIte, Nat.reduceAdd, Nat.reduceSub])
       refine adPo 10 rfl (fun T' ok => op_addi rfl rfl rfl (by omega)) ⟨rfl, rfl⟩ (by kernel_rfl) (by kernel_rfl) ?_; (simp only [nA, Nat.reduceBEq, Nat.reduceEqDiff, ↓reduceIte, Nat.reduceAdd, Nat.reduceSub])
       refine adFo 11 rfl (fun T' ok => op_callS rfl en27 (C27 hI.2.1) (RL.cons (by exact View.same rfl) (RL.cons (by exact View.same rfl) (RL.cons (by exact View.same rfl) (RL.cons (by exact View.same rfl) (RL.cons (by exact View.same rfl) RL.nil))))) rfl rfl rfl) ⟨rfl, rfl⟩ (by kernel_rfl) (by kernel_rfl) ?_; (simp only [nA, Nat.reduceBEq, Nat.reduceEqDiff, ↓reduceIte, Nat.reduceAdd, Nat.reduceSub])
       refine adPo 12 rfl (fun T' ok => op_move rfl rfl) ⟨rfl, rfl⟩ (by kernel_rfl) (by kernel_rfl) ?_; (simp only [nA])
       refine adPo 13 rfl (fun T' ok => op_extract rfl rfl rfl) ⟨rfl, rfl⟩ (by kernel_rfl) (by kernel_rfl) ?_; (simp only [nA, Nat.reduceBEq, Nat.reduceEqDiff, ↓reduceIte, Nat.reduceAdd, Nat.reduceSub])
       refine adPo 14 rfl (fun T' ok => op_extract rfl rfl rfl) ⟨rfl, rfl⟩ (by kernel_rfl) (by kernel_rfl) ?_; (simp only [nA, Nat.reduceBEq, Nat.reduceEqDiff, ↓reduceIte, Nat.reduceAdd, Nat.reduceSub])
       refine adPo 15 rfl (fun T' ok => op_extract rfl rfl rfl) ⟨rfl, rfl⟩ (by kernel_rfl) (by kernel_rfl) ?_; (simp only [nA, Nat.reduceBEq, Nat.reduceEqDiff, ↓reduceIte, Nat.reduceAdd, Nat.reduceSub])
       refine adJo 16 rfl (op_alloc rfl ze26 rfl) (by kernel_rfl) ⟨rfl, rfl⟩ ?_; (simp only [nA, Nat.reduceBEq, Nat.reduceEqDiff, ↓reduceIte])
       refine adJo 18 rfl (op_store rfl rfl rfl rfl rfl rfl sz26 rfl (bl rfl) rfl) (by kernel_rfl) ⟨rfl, rfl⟩ ?_; (simp only [nA, Nat.reduceBEq, Nat.reduceEqDiff, ↓reduceIte])
       refine adJo 19 rfl (op_store rfl rfl rfl rfl rfl rfl sz33 rfl (bl rfl) rfl) (by kernel_rfl) ⟨rfl, rfl⟩ ?_; (simp only [nA, Nat.reduceBEq, Nat.reduceEqDiff, ↓reduceIte])
       refine adPo 20 rfl (fun T' ok => op_assign rfl rfl) ⟨rfl, rfl⟩ (by kernel_rfl) (by kernel_rfl) ?_; (simp only [nA, ↓reduceIte])
       refine adDoneo (by kernel_rfl) ?_
       (refine hK _ ?_; clear hK K; (skip)); (refine AW.seq_k ?_; intro K hK); refine AW.region ?_; refine awP (op_move rfl rfl) ?_; (simp only [nA]); refine awP (op_eql rfl rfl rfl) ?_; (simp only [nA, Nat.reduceBEq, Nat.reduceEqDiff, ↓reduceIte, Nat.reduceAdd, Nat.reduceSub]); refine AWL.nil ?_; (refine hK _ ?_; clear hK K; (skip)); refine AW.cond rfl rfl rfl (fun hc3 => ?_) (fun hc3 => ?_)
       · refine AW.region ?_; refine awR (op_load_ptr rfl rfl rfl rfl ag26 sz26 (bl rfl) rfl) ?_; (simp only [nA, Nat.reduceBEq, Nat.reduceEqDiff, ↓reduceIte, Nat.reduceAdd, Nat.reduceSub]); refine awJ (op_store rfl rfl rfl rfl rfl rfl sz26 rfl (bl rfl) rfl) ?_; (simp only [nA, Nat.reduceBEq, Nat.reduceEqDiff, ↓reduceIte, Nat.reduceAdd, Nat.reduceSub]); refine AWL.nil ?_; (simp only [thenE, inBlk, Nat.reduceEqDiff, ↓reduceIte]); (refine hK _ ?_; clear hK K; (skip)); refine AW.region ?_; refine awP (op_move rfl rfl) ?_; (simp only [nA, ↓reduceIte]); refine awP (op_subi rfl rfl rfl (by omega)) ?_; (simp only [nA, Nat.reduceBEq, Nat.reduceEqDiff, ↓reduceIte, Nat.reduceAdd, Nat.reduceSub]); refine awP (op_assign rfl rfl) ?_; (simp only [nA]); refine AWL.gh (Gh.drop 3) ?_; (simp only [nA, Nat.reduceBEq, Nat.reduceEqDiff, ↓reduceIte, Nat.reduceAdd, Nat.reduceSub]); refine AWL.nil ?_; have hS : stepV l h k = (rawN l (rawN l (scanV l h k).1), (scanR h (1 + gmod (rawV l (scanV l h k).1) 2) (scanV l h k).2.1 (scanV l h k).2.2 (h.last + gmod (rawV l (rawN l (scanV l h k).1)) 3)).1) := (by unfold stepV; dsimp only; rw [if_pos (by simpa using hc3)]); have hD := hI.2.2.1.step (l := l) k; have hR2 : devS l g (stepV l h k).1 (stepV l h k).2 = devV l k0 := hR; rw [hS] at hD hR2; refine ⟨(g, _, _, _), ⟨by dsimp only; omega, hD.s, hD, hR2⟩, by dsimp only; omega, ⟨rfl, rfl, rfl, (congrArg (fun z => AV.v (.int .i64 z)) hgz), trivial⟩, (by rfl), (by rfl)⟩
       refine AW.skip ?_; (simp only [thenE, inBlk, Nat.reduceEqDiff, ↓reduceIte]); (refine hK _ ?_; clear hK K; (skip)); refine AW.region ?_; refine awP (op_move rfl rfl) ?_; (simp only [nA, ↓reduceIte]); refine awP (op_subi rfl rfl rfl (by omega)) ?_; (simp only [nA, Nat.reduceBEq, Nat.reduceEqDiff, ↓reduceIte, Nat.reduceAdd, Nat.reduceSub]); refine awP (op_assign rfl rfl) ?_; (simp only [nA]); refine AWL.gh (Gh.drop 3) ?_; (simp only [nA, Nat.reduceBEq, Nat.reduceEqDiff, ↓reduceIte, Nat.reduceAdd, Nat.reduceSub]); refine AWL.nil ?_; have hS : stepV l h k = (rawN l (rawN l (scanV l h k).1), h) := (by unfold stepV; dsimp only; rw [if_neg (by simpa using hc3)]); have hD := hI.2.2.1.step (l := l) k; have hR2 : devS l g (stepV l h k).1 (stepV l h k).2 = devV l k0 := hR; rw [hS] at hD hR2; refine ⟨(g, _, _, _), ⟨by dsimp only; omega, hD.s, hD, hR2⟩, by dsimp only; omega, ⟨rfl, rfl, rfl, (congrArg (fun z => AV.v (.int .i64 z)) hgz), trivial⟩, (by rfl), (by rfl)⟩
     (simp only [nA, Nat.reduceBEq, Nat.reduceEqDiff, ↓reduceIte])
     refine adJo 9 rfl (op_call1 rfl en12 (C12 (n := 3) hl (by decide)) (by exact rfl) (RL.cons .ptr (RL.cons (.base (by exact View.same rfl)) (RL.nil))) (by exact ⟨_, _, _, rfl, rfl, rfl⟩) (by exact rfl) (by exact rfl) (by exact rfl)) (by kernel_rfl) ⟨rfl, rfl⟩ ?_; (simp only [nA, Nat.reduceBEq, Nat.reduceEqDiff, ↓reduceIte, Nat.reduceAdd, Nat.reduceSub])
     refine adPo 10 rfl (fun T' ok => op_addi rfl rfl rfl (by omega)) ⟨rfl, rfl⟩ (by kernel_rfl) (by kernel_rfl) ?_; (simp only [nA, Nat.reduceBEq, Nat.reduceEqDiff, ↓reduceIte, Nat.reduceAdd, Nat.reduceSub])
     refine adFo 11 rfl (fun T' ok => op_callS rfl en27 (C27 hI.2.1) (RL.cons (by exact View.same rfl) (RL.cons (by exact View.same rfl) (RL.cons (by exact View.same rfl) (RL.cons (by exact View.same rfl) (RL.cons (by exact View.same rfl) RL.nil))))) rfl rfl rfl) ⟨rfl, rfl⟩ (by kernel_rfl) (by kernel_rfl) ?_; (simp only [nA, Nat.reduceBEq, Nat.reduceEqDiff, ↓reduceIte, Nat.reduceAdd, Nat.reduceSub])
     refine adPo 12 rfl (fun T' ok => op_move rfl rfl) ⟨rfl, rfl⟩ (by kernel_rfl) (by kernel_rfl) ?_; (simp only [nA])
     refine adPo 13 rfl (fun T' ok => op_extract rfl rfl rfl) ⟨rfl, rfl⟩ (by kernel_rfl) (by kernel_rfl) ?_; (simp only [nA, Nat.reduceBEq, Nat.reduceEqDiff, ↓reduceIte, Nat.reduceAdd, Nat.reduceSub])
     refine adPo 14 rfl (fun T' ok => op_extract rfl rfl rfl) ⟨rfl, rfl⟩ (by kernel_rfl) (by kernel_rfl) ?_; (simp only [nA, Nat.reduceBEq, Nat.reduceEqDiff, ↓reduceIte, Nat.reduceAdd, Nat.reduceSub])
     refine adPo 15 rfl (fun T' ok => op_extract rfl rfl rfl) ⟨rfl, rfl⟩ (by kernel_rfl) (by kernel_rfl) ?_; (simp only [nA, Nat.reduceBEq, Nat.reduceEqDiff, ↓reduceIte, Nat.reduceAdd, Nat.reduceSub])
     refine adJo 18 rfl (op_store rfl rfl rfl rfl rfl rfl sz26 rfl (bl rfl) rfl) (by kernel_rfl) ⟨rfl, rfl⟩ ?_; (simp only [nA, Nat.reduceBEq, Nat.reduceEqDiff, ↓reduceIte])
     refine adJo 19 rfl (op_store rfl rfl rfl rfl rfl rfl sz33 rfl (bl rfl) rfl) (by kernel_rfl) ⟨rfl, rfl⟩ ?_; (simp only [nA, Nat.reduceBEq, Nat.reduceEqDiff, ↓reduceIte])
     refine adPo 20 rfl (fun T' ok => op_assign rfl rfl) ⟨rfl, rfl⟩ (by kernel_rfl) (by kernel_rfl) ?_; (simp only [nA])
     refine adDoneo (by kernel_rfl) ?_
     (refine hK _ ?_; clear hK K; (skip)); (refine AW.seq_k ?_; intro K hK); refine AW.region ?_; refine awP (op_move rfl rfl) ?_; (simp only [nA]); refine awP (op_eql rfl rfl rfl) ?_; (simp only [nA, Nat.reduceBEq, Nat.reduceEqDiff, ↓reduceIte, Nat.reduceAdd, Nat.reduceSub]); refine AWL.nil ?_; (refine hK _ ?_; clear hK K; (skip)); refine AW.cond rfl rfl rfl (fun hc3 => ?_) (fun hc3 => ?_)
     · refine AW.region ?_; refine awR (op_load_ptr rfl rfl rfl rfl ag26 sz26 (bl rfl) rfl) ?_; (simp only [nA, Nat.reduceBEq, Nat.reduceEqDiff, ↓reduceIte, Nat.reduceAdd, Nat.reduceSub]); refine awJ (op_store rfl rfl rfl rfl rfl rfl sz26 rfl (bl rfl) rfl) ?_; (simp only [nA, Nat.reduceBEq, Nat.reduceEqDiff, ↓reduceIte, Nat.reduceAdd, Nat.reduceSub]); refine AWL.nil ?_; (simp only [thenE, inBlk, Nat.reduceEqDiff, ↓reduceIte]); (refine hK _ ?_; clear hK K; (skip)); refine AW.region ?_; refine awP (op_move rfl rfl) ?_; (simp only [nA, ↓reduceIte]); refine awP (op_subi rfl rfl rfl (by omega)) ?_; (simp only [nA, Nat.reduceBEq, Nat.reduceEqDiff, ↓reduceIte, Nat.reduceAdd, Nat.reduceSub]); refine awP (op_assign rfl rfl) ?_; (simp only [nA]); refine AWL.gh (Gh.drop 3) ?_; (simp only [nA, Nat.reduceBEq, Nat.reduceEqDiff, ↓reduceIte, Nat.reduceAdd, Nat.reduceSub]); refine AWL.nil ?_; have hS : stepV l h k = (rawN l (rawN l (scanV l h k).1), (scanR h (1 + gmod (rawV l (scanV l h k).1) 2) (scanV l h k).2.1 (scanV l h k).2.2 (h.last + gmod (rawV l (rawN l (scanV l h k).1)) 3)).1) := (by unfold stepV; dsimp only; rw [if_pos (by simpa using hc3)]); have hD := hI.2.2.1.step (l := l) k; have hR2 : devS l g (stepV l h k).1 (stepV l h k).2 = devV l k0 := hR; rw [hS] at hD hR2; refine ⟨(g, _, _, _), ⟨by dsimp only; omega, hD.s, hD, hR2⟩, by dsimp only; omega, ⟨rfl, rfl, rfl, (congrArg (fun z => AV.v (.int .i64 z)) hgz), trivial⟩, (by rfl), (by rfl)⟩
     refine AW.skip ?_; (simp only [thenE, inBlk, Nat.reduceEqDiff, ↓reduceIte]); (refine hK _ ?_; clear hK K; (skip)); refine AW.region ?_; refine awP (op_move rfl rfl) ?_; (simp only [nA, ↓reduceIte]); refine awP (op_subi rfl rfl rfl (by omega)) ?_; (simp only [nA, Nat.reduceBEq, Nat.reduceEqDiff, ↓reduceIte, Nat.reduceAdd, Nat.reduceSub]); refine awP (op_assign rfl rfl) ?_; (simp only [nA]); refine AWL.gh (Gh.drop 3) ?_; (simp only [nA, Nat.reduceBEq, Nat.reduceEqDiff, ↓reduceIte, Nat.reduceAdd, Nat.reduceSub]); refine AWL.nil ?_; have hS : stepV l h k = (rawN l (rawN l (scanV l h k).1), h) := (by unfold stepV; dsimp only; rw [if_neg (by simpa using hc3)]); have hD := hI.2.2.1.step (l := l) k; have hR2 : devS l g (stepV l h k).1 (stepV l h k).2 = devV l k0 := hR; rw [hS] at hD hR2; refine ⟨(g, _, _, _), ⟨by dsimp only; omega, hD.s, hD, hR2⟩, by dsimp only; omega, ⟨rfl, rfl, rfl, (congrArg (fun z => AV.v (.int .i64 z)) hgz), trivial⟩, (by rfl), (by rfl)⟩
   · (simp only [nA, Nat.reduceBEq, Nat.reduceEqDiff, ↓reduceIte])
     refine adJ2o 2 17 rfl rfl (op_call1 rfl en12 (C12 (n := 2) hl (by decide)) (by exact rfl) (RL.cons .ptr (RL.cons (.base (by exact View.same rfl)) (RL.nil))) (by exact ⟨_, _, _, rfl, rfl, rfl⟩) (by exact rfl) (by exact rfl) (by exact rfl)) (op_alloc rfl ze33 rfl) (by kernel_rfl) ⟨rfl, rfl⟩ ⟨rfl, rfl⟩ ?_ ?_
     · (simp only [nA, Nat.reduceBEq, Nat.reduceEqDiff, ↓reduceIte, Nat.reduceAdd, Nat.reduceSub])
       refine adPo 3 rfl (fun T' ok => op_addi rfl rfl rfl (by omega)) ⟨rfl, rfl⟩ (by kernel_rfl) (by kernel_rfl) ?_; (simp only [nA, Nat.reduceBEq, Nat.reduceEqDiff, ↓reduceIte, Nat.reduceAdd, Nat.reduceSub])
       refine adJ2o 9 17 rfl rfl (op_call1 rfl en12 (C12 (n := 3) hl (by decide)) (by exact rfl) (RL.cons .ptr (RL.cons (.base (by exact View.same rfl)) (RL.nil))) (by exact ⟨_, _, _, rfl, rfl, rfl⟩) (by exact rfl) (by exact rfl) (by exact rfl)) (op_alloc rfl ze33 rfl) (by kernel_rfl) ⟨rfl, rfl⟩ ⟨rfl, rfl⟩ ?_ ?_
       · (simp only [nA, Nat.reduceBEq, Nat.reduceEqDiff, ↓reduceIte, Nat.reduceAdd, Nat.reduceSub])
         refine adPo 10 rfl (fun T' ok => op_addi rfl rfl rfl (by omega)) ⟨rfl, rfl⟩ (by kernel_rfl) (by kernel_rfl) ?_; (simp only [nA, Nat.reduceBEq, Nat.reduceEqDiff, ↓reduceIte, Nat.reduceAdd, Nat.reduceSub])
         refine adFo 11 rfl (fun T' ok => op_callS rfl en27 (C27 hI.2.1) (RL.cons (by exact View.same rfl) (RL.cons (by exact View.same rfl) (RL.cons (by exact View.same rfl) (RL.cons (by exact View.same rfl) (RL.cons (by exact View.same rfl) RL.nil))))) rfl rfl rfl) ⟨rfl, rfl⟩ (by kernel_rfl) (by kernel_rfl) ?_; (simp only [nA, Nat.reduceBEq, Nat.reduceEqDiff, ↓reduceIte, Nat.reduceAdd, Nat.reduceSub])
         refine adPo 12 rfl (fun T' ok => op_move rfl rfl) ⟨rfl, rfl⟩ (by kernel_rfl) (by kernel_rfl) ?_; (simp only [nA])
         refine adPo 13 rfl (fun T' ok => op_extract rfl rfl rfl) ⟨rfl, rfl⟩ (by kernel_rfl) (by kernel_rfl) ?_; (simp only [nA, Nat.reduceBEq, Nat.reduceEqDiff, ↓reduceIte, Nat.reduceAdd, Nat.reduceSub])
         refine adPo 14 rfl (fun T' ok => op_extract rfl rfl rfl) ⟨rfl, rfl⟩ (by kernel_rfl) (by kernel_rfl) ?_; (simp only [nA, Nat.reduceBEq, Nat.reduceEqDiff, ↓reduceIte, Nat.reduceAdd, Nat.reduceSub])
         refine adPo 15 rfl (fun T' ok => op_extract rfl rfl rfl) ⟨rfl, rfl⟩ (by kernel_rfl) (by kernel_rfl) ?_; (simp only [nA, Nat.reduceBEq, Nat.reduceEqDiff, ↓reduceIte, Nat.reduceAdd, Nat.reduceSub])
         refine adJo 17 rfl (op_alloc rfl ze33 rfl) (by kernel_rfl) ⟨rfl, rfl⟩ ?_; (simp only [nA, Nat.reduceBEq, Nat.reduceEqDiff, ↓reduceIte])
         refine adJo 18 rfl (op_store rfl rfl rfl rfl rfl rfl sz26 rfl (bl rfl) rfl) (by kernel_rfl) ⟨rfl, rfl⟩ ?_; (simp only [nA, Nat.reduceBEq, Nat.reduceEqDiff, ↓reduceIte])
         refine adJo 19 rfl (op_store rfl rfl rfl rfl rfl rfl sz33 rfl (bl rfl) rfl) (by kernel_rfl) ⟨rfl, rfl⟩ ?_; (simp only [nA, Nat.reduceBEq, Nat.reduceEqDiff, ↓reduceIte])
         refine adPo 20 rfl (fun T' ok => op_assign rfl rfl) ⟨rfl, rfl⟩ (by kernel_rfl) (by kernel_rfl) ?_; (simp only [nA, ↓reduceIte])
         refine adDoneo (by kernel_rfl) ?_
         (refine hK _ ?_; clear hK K; (skip)); (refine AW.seq_k ?_; intro K hK); refine AW.region ?_; refine awP (op_move rfl rfl) ?_; (simp only [nA]); refine awP (op_eql rfl rfl rfl) ?_; (simp only [nA, Nat.reduceBEq, Nat.reduceEqDiff, ↓reduceIte, Nat.reduceAdd, Nat.reduceSub]); refine AWL.nil ?_; (refine hK _ ?_; clear hK K; (skip)); refine AW.cond rfl rfl rfl (fun hc3 => ?_) (fun hc3 => ?_)
         · refine AW.region ?_; refine awR (op_load_ptr rfl rfl rfl rfl ag26 sz26 (bl rfl) rfl) ?_; (simp only [nA, Nat.reduceBEq, Nat.reduceEqDiff, ↓reduceIte, Nat.reduceAdd, Nat.reduceSub]); refine awJ (op_store rfl rfl rfl rfl rfl rfl sz26 rfl (bl rfl) rfl) ?_; (simp only [nA, Nat.reduceBEq, Nat.reduceEqDiff, ↓reduceIte, Nat.reduceAdd, Nat.reduceSub]); refine AWL.nil ?_; (simp only [thenE, inBlk, Nat.reduceEqDiff, ↓reduceIte]); (refine hK _ ?_; clear hK K; (skip)); refine AW.region ?_; refine awP (op_move rfl rfl) ?_; (simp only [nA, ↓reduceIte]); refine awP (op_subi rfl rfl rfl (by omega)) ?_; (simp only [nA, Nat.reduceBEq, Nat.reduceEqDiff, ↓reduceIte, Nat.reduceAdd, Nat.reduceSub]); refine awP (op_assign rfl rfl) ?_; (simp only [nA]); refine AWL.gh (Gh.drop 3) ?_; (simp only [nA, Nat.reduceBEq, Nat.reduceEqDiff, ↓reduceIte, Nat.reduceAdd, Nat.reduceSub]); refine AWL.nil ?_; have hS : stepV l h k = (rawN l (rawN l (scanV l h k).1), (scanR h (1 + gmod (rawV l (scanV l h k).1) 2) (scanV l h k).2.1 (scanV l h k).2.2 (h.last + gmod (rawV l (rawN l (scanV l h k).1)) 3)).1) := (by unfold stepV; dsimp only; rw [if_pos (by simpa using hc3)]); have hD := hI.2.2.1.step (l := l) k; have hR2 : devS l g (stepV l h k).1 (stepV l h k).2 = devV l k0 := hR; rw [hS] at hD hR2; refine ⟨(g, _, _, _), ⟨by dsimp only; omega, hD.s, hD, hR2⟩, by dsimp only; omega, ⟨rfl, rfl, rfl, (congrArg (fun z => AV.v (.int .i64 z)) hgz), trivial⟩, (by rfl), (by rfl)⟩
         refine AW.skip ?_; (simp only [thenE, inBlk, Nat.reduceEqDiff, ↓reduceIte]); (refine hK _ ?_; clear hK K; (skip)); refine AW.region ?_; refine awP (op_move rfl rfl) ?_; (simp only [nA, ↓reduceIte]); refine awP (op_subi rfl rfl rfl (by omega)) ?_; (simp only [nA, Nat.reduceBEq, Nat.reduceEqDiff, ↓reduceIte, Nat.reduceAdd, Nat.reduceSub]); refine awP (op_assign rfl rfl) ?_; (simp only [nA]); refine AWL.gh (Gh.drop 3) ?_; (simp only [nA, Nat.reduceBEq, Nat.reduceEqDiff, ↓reduceIte, Nat.reduceAdd, Nat.reduceSub]); refine AWL.nil ?_; have hS : stepV l h k = (rawN l (rawN l (scanV l h k).1), h) := (by unfold stepV; dsimp only; rw [if_neg (by simpa using hc3)]); have hD := hI.2.2.1.step (l := l) k; have hR2 : devS l g (stepV l h k).1 (stepV l h k).2 = devV l k0 := hR; rw [hS] at hD hR2; refine ⟨(g, _, _, _), ⟨by dsimp only; omega, hD.s, hD, hR2⟩, by dsimp only; omega, ⟨rfl, rfl, rfl, (congrArg (fun z => AV.v (.int .i64 z)) hgz), trivial⟩, (by rfl), (by rfl)⟩
       (simp only [nA, Nat.reduceBEq, Nat.reduceEqDiff, ↓reduceIte])
       refine adJo 9 rfl (op_call1 rfl en12 (C12 (n := 3) hl (by decide)) (by exact rfl) (RL.cons .ptr (RL.cons (.base (by exact View.same rfl)) (RL.nil))) (by exact ⟨_, _, _, rfl, rfl, rfl⟩) (by exact rfl) (by exact rfl) (by exact rfl)) (by kernel_rfl) ⟨rfl, rfl⟩ ?_; (simp only [nA, Nat.reduceBEq, Nat.reduceEqDiff, ↓reduceIte, Nat.reduceAdd, Nat.reduceSub])
       refine adPo 10 rfl (fun T' ok => op_addi rfl rfl rfl (by omega)) ⟨rfl, rfl⟩ (by kernel_rfl) (by kernel_rfl) ?_; (simp only [nA, Nat.reduceBEq, Nat.reduceEqDiff, ↓reduceIte, Nat.reduceAdd, Nat.reduceSub])
       refine adFo 11 rfl (fun T' ok => op_callS rfl en27 (C27 hI.2.1) (RL.cons (by exact View.same rfl) (RL.cons (by exact View.same rfl) (RL.cons (by exact View.same rfl) (RL.cons (by exact View.same rfl) (RL.cons (by exact View.same rfl) RL.nil))))) rfl rfl rfl) ⟨rfl, rfl⟩ (by kernel_rfl) (by kernel_rfl) ?_; (simp only [nA, Nat.reduceBEq, Nat.reduceEqDiff, ↓reduceIte, Nat.reduceAdd, Nat.reduceSub])
       refine adPo 12 rfl (fun T' ok => op_move rfl rfl) ⟨rfl, rfl⟩ (by kernel_rfl) (by kernel_rfl) ?_; (simp only [nA])
       refine adPo 13 rfl (fun T' ok => op_extract rfl rfl rfl) ⟨rfl, rfl⟩ (by kernel_rfl) (by kernel_rfl) ?_; (simp only [nA, Nat.reduceBEq, Nat.reduceEqDiff, ↓reduceIte, Nat.reduceAdd, Nat.reduceSub])
       refine adPo 14 rfl (fun T' ok => op_extract rfl rfl rfl) ⟨rfl, rfl⟩ (by kernel_rfl) (by kernel_rfl) ?_; (simp only [nA, Nat.reduceBEq, Nat.reduceEqDiff, ↓reduceIte, Nat.reduceAdd, Nat.reduceSub])
       refine adPo 15 rfl (fun T' ok => op_extract rfl rfl rfl) ⟨rfl, rfl⟩ (by kernel_rfl) (by kernel_rfl) ?_; (simp only [nA, Nat.reduceBEq, Nat.reduceEqDiff, ↓reduceIte, Nat.reduceAdd, Nat.reduceSub])
       refine adJo 18 rfl (op_store rfl rfl rfl rfl rfl rfl sz26 rfl (bl rfl) rfl) (by kernel_rfl) ⟨rfl, rfl⟩ ?_; (simp only [nA, Nat.reduceBEq, Nat.reduceEqDiff, ↓reduceIte])
       refine adJo 19 rfl (op_store rfl rfl rfl rfl rfl rfl sz33 rfl (bl rfl) rfl) (by kernel_rfl) ⟨rfl, rfl⟩ ?_; (simp only [nA, Nat.reduceBEq, Nat.reduceEqDiff, ↓reduceIte])
       refine adPo 20 rfl (fun T' ok => op_assign rfl rfl) ⟨rfl, rfl⟩ (by kernel_rfl) (by kernel_rfl) ?_; (simp only [nA])
       refine adDoneo (by kernel_rfl) ?_
       (refine hK _ ?_; clear hK K; (skip)); (refine AW.seq_k ?_; intro K hK); refine AW.region ?_; refine awP (op_move rfl rfl) ?_; (simp only [nA]); refine awP (op_eql rfl rfl rfl) ?_; (simp only [nA, Nat.reduceBEq, Nat.reduceEqDiff, ↓reduceIte, Nat.reduceAdd, Nat.reduceSub]); refine AWL.nil ?_; (refine hK _ ?_; clear hK K; (skip)); refine AW.cond rfl rfl rfl (fun hc3 => ?_) (fun hc3 => ?_)
       · refine AW.region ?_; refine awR (op_load_ptr rfl rfl rfl rfl ag26 sz26 (bl rfl) rfl) ?_; (simp only [nA, Nat.reduceBEq, Nat.reduceEqDiff, ↓reduceIte, Nat.reduceAdd, Nat.reduceSub]); refine awJ (op_store rfl rfl rfl rfl rfl rfl sz26 rfl (bl rfl) rfl) ?_; (simp only [nA, Nat.reduceBEq, Nat.reduceEqDiff, ↓reduceIte, Nat.reduceAdd, Nat.reduceSub]); refine AWL.nil ?_; (simp only [thenE, inBlk, Nat.reduceEqDiff, ↓reduceIte]); (refine hK _ ?_; clear hK K; (skip)); refine AW.region ?_; refine awP (op_move rfl rfl) ?_; (simp only [nA, ↓reduceIte]); refine awP (op_subi rfl rfl rfl (by omega)) ?_; (simp only [nA, Nat.reduceBEq, Nat.reduceEqDiff, ↓reduceIte, Nat.reduceAdd, Nat.reduceSub]); refine awP (op_assign rfl rfl) ?_; (simp only [nA]); refine AWL.gh (Gh.drop 3) ?_; (simp only [nA, Nat.reduceBEq, Nat.reduceEqDiff, ↓reduceIte, Nat.reduceAdd, Nat.reduceSub]); refine AWL.nil ?_; have hS : stepV l h k = (rawN l (rawN l (scanV l h k).1), (scanR h (1 + gmod (rawV l (scanV l h k).1) 2) (scanV l h k).2.1 (scanV l h k).2.2 (h.last + gmod (rawV l (rawN l (scanV l h k).1)) 3)).1) := (by unfold stepV; dsimp only; rw [if_pos (by simpa using hc3)]); have hD := hI.2.2.1.step (l := l) k; have hR2 : devS l g (stepV l h k).1 (stepV l h k).2 = devV l k0 := hR; rw [hS] at hD hR2; refine ⟨(g, _, _, _), ⟨by dsimp only; omega, hD.s, hD, hR2⟩, by dsimp only; omega, ⟨rfl, rfl, rfl, (congrArg (fun z => AV.v (.int .i64 z)) hgz), trivial⟩, (by rfl), (by rfl)⟩
       refine AW.skip ?_; (simp only [thenE, inBlk, Nat.reduceEqDiff, ↓reduceIte]); (refine hK _ ?_; clear hK K; (skip)); refine AW.region ?_; refine awP (op_move rfl rfl) ?_; (simp only [nA, ↓reduceIte]); refine awP (op_subi rfl rfl rfl (by omega)) ?_; (simp only [nA, Nat.reduceBEq, Nat.reduceEqDiff, ↓reduceIte, Nat.reduceAdd, Nat.reduceSub]); refine awP (op_assign rfl rfl) ?_; (simp only [nA]); refine AWL.gh (Gh.drop 3) ?_; (simp only [nA, Nat.reduceBEq, Nat.reduceEqDiff, ↓reduceIte, Nat.reduceAdd, Nat.reduceSub]); refine AWL.nil ?_; have hS : stepV l h k = (rawN l (rawN l (scanV l h k).1), h) := (by unfold stepV; dsimp only; rw [if_neg (by simpa using hc3)]); have hD := hI.2.2.1.step (l := l) k; have hR2 : devS l g (stepV l h k).1 (stepV l h k).2 = devV l k0 := hR; rw [hS] at hD hR2; refine ⟨(g, _, _, _), ⟨by dsimp only; omega, hD.s, hD, hR2⟩, by dsimp only; omega, ⟨rfl, rfl, rfl, (congrArg (fun z => AV.v (.int .i64 z)) hgz), trivial⟩, (by rfl), (by rfl)⟩
     (simp only [nA, Nat.reduceBEq, Nat.reduceEqDiff, ↓reduceIte])
     refine adJo 2 rfl (op_call1 rfl en12 (C12 (n := 2) hl (by decide)) (by exact rfl) (RL.cons .ptr (RL.cons (.base (by exact View.same rfl)) (RL.nil))) (by exact ⟨_, _, _, rfl, rfl, rfl⟩) (by exact rfl) (by exact rfl) (by exact rfl)) (by kernel_rfl) ⟨rfl, rfl⟩ ?_; (simp only [nA, Nat.reduceBEq, Nat.reduceEqDiff, ↓reduceIte, Nat.reduceAdd, Nat.reduceSub])
     refine adPo 3 rfl (fun T' ok => op_addi rfl rfl rfl (by omega)) ⟨rfl, rfl⟩ (by kernel_rfl) (by kernel_rfl) ?_; (simp only [nA, Nat.reduceBEq, Nat.reduceEqDiff, ↓reduceIte, Nat.reduceAdd, Nat.reduceSub])
     refine adJo 9 rfl (op_call1 rfl en12 (C12 (n := 3) hl (by decide)) (by exact rfl) (RL.cons .ptr (RL.cons (.base (by exact View.same rfl)) (RL.nil))) (by exact ⟨_, _, _, rfl, rfl, rfl⟩) (by exact rfl) (by exact rfl) (by exact rfl)) (by kernel_rfl) ⟨rfl, rfl⟩ ?_; (simp only [nA, Nat.reduceBEq, Nat.reduceEqDiff, ↓reduceIte, Nat.reduceAdd, Nat.reduceSub])
     refine adPo 10 rfl (fun T' ok => op_addi rfl rfl rfl (by omega)) ⟨rfl, rfl⟩ (by kernel_rfl) (by kernel_rfl) ?_; (simp only [nA, Nat.reduceBEq, Nat.reduceEqDiff, ↓reduceIte, Nat.reduceAdd, Nat.reduceSub])
     refine adFo 11 rfl (fun T' ok => op_callS rfl en27 (C27 hI.2.1) (RL.cons (by exact View.same rfl) (RL.cons (by exact View.same rfl) (RL.cons (by exact View.same rfl) (RL.cons (by exact View.same rfl) (RL.cons (by exact View.same rfl) RL.nil))))) rfl rfl rfl) ⟨rfl, rfl⟩ (by kernel_rfl) (by kernel_rfl) ?_; (simp only [nA, Nat.reduceBEq, Nat.reduceEqDiff, ↓reduceIte, Nat.reduceAdd, Nat.reduceSub])
     refine adPo 12 rfl (fun T' ok => op_move rfl rfl) ⟨rfl, rfl⟩ (by kernel_rfl) (by kernel_rfl) ?_; (simp only [nA])
     refine adPo 13 rfl (fun T' ok => op_extract rfl rfl rfl) ⟨rfl, rfl⟩ (by kernel_rfl) (by kernel_rfl) ?_; (simp only [nA, Nat.reduceBEq, Nat.reduceEqDiff, ↓reduceIte, Nat.reduceAdd, Nat.reduceSub])
     refine adPo 14 rfl (fun T' ok => op_extract rfl rfl rfl) ⟨rfl, rfl⟩ (by kernel_rfl) (by kernel_rfl) ?_; (simp only [nA, Nat.reduceBEq, Nat.reduceEqDiff, ↓reduceIte, Nat.reduceAdd, Nat.reduceSub])
     refine adPo 15 rfl (fun T' ok => op_extract rfl rfl rfl) ⟨rfl, rfl⟩ (by kernel_rfl) (by kernel_rfl) ?_; (simp only [nA, Nat.reduceBEq, Nat.reduceEqDiff, ↓reduceIte, Nat.reduceAdd, Nat.reduceSub])
     refine adJo 18 rfl (op_store rfl rfl rfl rfl rfl rfl sz26 rfl (bl rfl) rfl) (by kernel_rfl) ⟨rfl, rfl⟩ ?_; (simp only [nA, Nat.reduceBEq, Nat.reduceEqDiff, ↓reduceIte])
     refine adJo 19 rfl (op_store rfl rfl rfl rfl rfl rfl sz33 rfl (bl rfl) rfl) (by kernel_rfl) ⟨rfl, rfl⟩ ?_; (simp only [nA, Nat.reduceBEq, Nat.reduceEqDiff, ↓reduceIte])
     refine adPo 20 rfl (fun T' ok => op_assign rfl rfl) ⟨rfl, rfl⟩ (by kernel_rfl) (by kernel_rfl) ?_; (simp only [nA])
     refine adDoneo (by kernel_rfl) ?_
     (refine hK _ ?_; clear hK K; (skip)); (refine AW.seq_k ?_; intro K hK); refine AW.region ?_; refine awP (op_move rfl rfl) ?_; (simp only [nA]); refine awP (op_eql rfl rfl rfl) ?_; (simp only [nA, Nat.reduceBEq, Nat.reduceEqDiff, ↓reduceIte, Nat.reduceAdd, Nat.reduceSub]); refine AWL.nil ?_; (refine hK _ ?_; clear hK K; (skip)); refine AW.cond rfl rfl rfl (fun hc3 => ?_) (fun hc3 => ?_)
     · refine AW.region ?_; refine awR (op_load_ptr rfl rfl rfl rfl ag26 sz26 (bl rfl) rfl) ?_; (simp only [nA, Nat.reduceBEq, Nat.reduceEqDiff, ↓reduceIte, Nat.reduceAdd, Nat.reduceSub]); refine awJ (op_store rfl rfl rfl rfl rfl rfl sz26 rfl (bl rfl) rfl) ?_; (simp only [nA, Nat.reduceBEq, Nat.reduceEqDiff, ↓reduceIte, Nat.reduceAdd, Nat.reduceSub]); refine AWL.nil ?_; (simp only [thenE, inBlk, Nat.reduceEqDiff, ↓reduceIte]); (refine hK _ ?_; clear hK K; (skip)); refine AW.region ?_; refine awP (op_move rfl rfl) ?_; (simp only [nA, ↓reduceIte]); refine awP (op_subi rfl rfl rfl (by omega)) ?_; (simp only [nA, Nat.reduceBEq, Nat.reduceEqDiff, ↓reduceIte, Nat.reduceAdd, Nat.reduceSub]); refine awP (op_assign rfl rfl) ?_; (simp only [nA]); refine AWL.gh (Gh.drop 3) ?_; (simp only [nA, Nat.reduceBEq, Nat.reduceEqDiff, ↓reduceIte, Nat.reduceAdd, Nat.reduceSub]); refine AWL.nil ?_; have hS : stepV l h k = (rawN l (rawN l (scanV l h k).1), (scanR h (1 + gmod (rawV l (scanV l h k).1) 2) (scanV l h k).2.1 (scanV l h k).2.2 (h.last + gmod (rawV l (rawN l (scanV l h k).1)) 3)).1) := (by unfold stepV; dsimp only; rw [if_pos (by simpa using hc3)]); have hD := hI.2.2.1.step (l := l) k; have hR2 : devS l g (stepV l h k).1 (stepV l h k).2 = devV l k0 := hR; rw [hS] at hD hR2; refine ⟨(g, _, _, _), ⟨by dsimp only; omega, hD.s, hD, hR2⟩, by dsimp only; omega, ⟨rfl, rfl, rfl, (congrArg (fun z => AV.v (.int .i64 z)) hgz), trivial⟩, (by rfl), (by rfl)⟩
     refine AW.skip ?_; (simp only [thenE, inBlk, Nat.reduceEqDiff, ↓reduceIte]); (refine hK _ ?_; clear hK K; (skip)); refine AW.region ?_; refine awP (op_move rfl rfl) ?_; (simp only [nA, ↓reduceIte]); refine awP (op_subi rfl rfl rfl (by omega)) ?_; (simp only [nA, Nat.reduceBEq, Nat.reduceEqDiff, ↓reduceIte, Nat.reduceAdd, Nat.reduceSub]); refine awP (op_assign rfl rfl) ?_; (simp only [nA]); refine AWL.gh (Gh.drop 3) ?_; (simp only [nA, Nat.reduceBEq, Nat.reduceEqDiff, ↓reduceIte, Nat.reduceAdd, Nat.reduceSub]); refine AWL.nil ?_; have hS : stepV l h k = (rawN l (rawN l (scanV l h k).1), h) := (by unfold stepV; dsimp only; rw [if_neg (by simpa using hc3)]); have hD := hI.2.2.1.step (l := l) k; have hR2 : devS l g (stepV l h k).1 (stepV l h k).2 = devV l k0 := hR; rw [hS] at hD hR2; refine ⟨(g, _, _, _), ⟨by dsimp only; omega, hD.s, hD, hR2⟩, by dsimp only; omega, ⟨rfl, rfl, rfl, (congrArg (fun z => AV.v (.int .i64 z)) hgz), trivial⟩, (by rfl), (by rfl)⟩
   (simp only [nA, Nat.reduceBEq, Nat.reduceEqDiff, ↓reduceIte])
   refine adJ2o 2 16 rfl rfl (op_call1 rfl en12 (C12 (n := 2) hl (by decide)) (by exact rfl) (RL.cons .ptr (RL.cons (.base (by exact View.same rfl)) (RL.nil))) (by exact ⟨_, _, _, rfl, rfl, rfl⟩) (by exact rfl) (by exact rfl) (by exact rfl)) (op_alloc rfl ze26 rfl) (by kernel_rfl) ⟨rfl, rfl⟩ ⟨rfl, rfl⟩ ?_ ?_
   · (simp only [nA, Nat.reduceBEq, Nat.reduceEqDiff, ↓reduceIte, Nat.reduceAdd, Nat.reduceSub])
     refine adPo 3 rfl (fun T' ok => op_addi rfl rfl rfl (by omega)) ⟨rfl, rfl⟩ (by kernel_rfl) (by kernel_rfl) ?_; (simp only [nA, Nat.reduceBEq, Nat.reduceEqDiff, ↓reduceIte, Nat.reduceAdd, Nat.reduceSub])
     refine adJ2o 9 16 rfl rfl (op_call1 rfl en12 (C12 (n := 3) hl (by decide)) (by exact rfl) (RL.cons .ptr (RL.cons (.base (by exact View.same rfl)) (RL.nil))) (by exact ⟨_, _, _, rfl, rfl, rfl⟩) (by exact rfl) (by exact rfl) (by exact rfl)) (op_alloc rfl ze26 rfl) (by kernel_rfl) ⟨rfl, rfl⟩ ⟨rfl, rfl⟩ ?_ ?_
     · (simp only [nA, Nat.reduceBEq, Nat.reduceEqDiff, ↓reduceIte, Nat.reduceAdd, Nat.reduceSub])
       refine adPo 10 rfl (fun T' ok => op_addi rfl rfl rfl (by omega)) ⟨rfl, rfl⟩ (by kernel_rfl) (by kernel_rfl) ?_; (simp only [nA, Nat.reduceBEq, Nat.reduceEqDiff, ↓reduceIte, Nat.reduceAdd, Nat.reduceSub])
       refine adFo 11 rfl (fun T' ok => op_callS rfl en27 (C27 hI.2.1) (RL.cons (by exact View.same rfl) (RL.cons (by exact View.same rfl) (RL.cons (by exact View.same rfl) (RL.cons (by exact View.same rfl) (RL.cons (by exact View.same rfl) RL.nil))))) rfl rfl rfl) ⟨rfl, rfl⟩ (by kernel_rfl) (by kernel_rfl) ?_; (simp only [nA, Nat.reduceBEq, Nat.reduceEqDiff, ↓reduceIte, Nat.reduceAdd, Nat.reduceSub])
       refine adPo 12 rfl (fun T' ok => op_move rfl rfl) ⟨rfl, rfl⟩ (by kernel_rfl) (by kernel_rfl) ?_; (simp only [nA])
       refine adPo 13 rfl (fun T' ok => op_extract rfl rfl rfl) ⟨rfl, rfl⟩ (by kernel_rfl) (by kernel_rfl) ?_; (simp only [nA, Nat.reduceBEq, Nat.reduceEqDiff, ↓reduceIte, Nat.reduceAdd, Nat.reduceSub])
       refine adPo 14 rfl (fun T' ok => op_extract rfl rfl rfl) ⟨rfl, rfl⟩ (by kernel_rfl) (by kernel_rfl) ?_; (simp only [nA, Nat.reduceBEq, Nat.reduceEqDiff, ↓reduceIte, Nat.reduceAdd, Nat.reduceSub])
       refine adPo 15 rfl (fun T' ok => op_extract rfl rfl rfl) ⟨rfl, rfl⟩ (by kernel_rfl) (by kernel_rfl) ?_; (simp only [nA, Nat.reduceBEq, Nat.reduceEqDiff, ↓reduceIte, Nat.reduceAdd, Nat.reduceSub])
       refine adJo 16 rfl (op_alloc rfl ze26 rfl) (by kernel_rfl) ⟨rfl, rfl⟩ ?_; (simp only [nA, Nat.reduceBEq, Nat.reduceEqDiff, ↓reduceIte])
       refine adJo 18 rfl (op_store rfl rfl rfl rfl rfl rfl sz26 rfl (bl rfl) rfl) (by kernel_rfl) ⟨rfl, rfl⟩ ?_; (simp only [nA, Nat.reduceBEq, Nat.reduceEqDiff, ↓reduceIte])
       refine adJo 19 rfl (op_store rfl rfl rfl rfl rfl rfl sz33 rfl (bl rfl) rfl) (by kernel_rfl) ⟨rfl, rfl⟩ ?_; (simp only [nA, Nat.reduceBEq, Nat.reduceEqDiff, ↓reduceIte])
       refine adPo 20 rfl (fun T' ok => op_assign rfl rfl) ⟨rfl, rfl⟩ (by kernel_rfl) (by kernel_rfl) ?_; (simp only [nA, ↓reduceIte])
       refine adDoneo (by kernel_rfl) ?_
       (refine hK _ ?_; clear hK K; (skip)); (refine AW.seq_k ?_; intro K hK); refine AW.region ?_; refine awP (op_move rfl rfl) ?_; (simp only [nA]); refine awP (op_eql rfl rfl rfl) ?_; (simp only [nA, Nat.reduceBEq, Nat.reduceEqDiff, ↓reduceIte, Nat.reduceAdd, Nat.reduceSub]); refine AWL.nil ?_; (refine hK _ ?_; clear hK K; (skip)); refine AW.cond rfl rfl rfl (fun hc3 => ?_) (fun hc3 => ?_)
       · refine AW.region ?_; refine awR (op_load_ptr rfl rfl rfl rfl ag26 sz26 (bl rfl) rfl) ?_; (simp only [nA, Nat.reduceBEq, Nat.reduceEqDiff, ↓reduceIte, Nat.reduceAdd, Nat.reduceSub]); refine awJ (op_store rfl rfl rfl rfl rfl rfl sz26 rfl (bl rfl) rfl) ?_; (simp only [nA, Nat.reduceBEq, Nat.reduceEqDiff, ↓reduceIte, Nat.reduceAdd, Nat.reduceSub]); refine AWL.nil ?_; (simp only [thenE, inBlk, Nat.reduceEqDiff, ↓reduceIte]); (refine hK _ ?_; clear hK K; (skip)); refine AW.region ?_; refine awP (op_move rfl rfl) ?_; (simp only [nA, ↓reduceIte]); refine awP (op_subi rfl rfl rfl (by omega)) ?_; (simp only [nA, Nat.reduceBEq, Nat.reduceEqDiff, ↓reduceIte, Nat.reduceAdd, Nat.reduceSub]); refine awP (op_assign rfl rfl) ?_; (simp only [nA]); refine AWL.gh (Gh.drop 3) ?_; (simp only [nA, Nat.reduceBEq, Nat.reduceEqDiff, ↓reduceIte, Nat.reduceAdd, Nat.reduceSub]); refine AWL.nil ?_; have hS : stepV l h k = (rawN l (rawN l (scanV l h k).1), (scanR h (1 + gmod (rawV l (scanV l h k).1) 2) (scanV l h k).2.1 (scanV l h k).2.2 (h.last + gmod (rawV l (rawN l (scanV l h k).1)) 3)).1) := (by unfold stepV; dsimp only; rw [if_pos (by simpa using hc3)]); have hD := hI.2.2.1.step (l := l) k; have hR2 : devS l g (stepV l h k).1 (stepV l h k).2 = devV l k0 := hR; rw [hS] at hD hR2; refine ⟨(g, _, _, _), ⟨by dsimp only; omega, hD.s, hD, hR2⟩, by dsimp only; omega, ⟨rfl, rfl, rfl, (congrArg (fun z => AV.v (.int .i64 z)) hgz), trivial⟩, (by rfl), (by rfl)⟩
       refine AW.skip ?_; (simp only [thenE, inBlk, Nat.reduceEqDiff, ↓reduceIte]); (refine hK _ ?_; clear hK K; (skip)); refine AW.region ?_; refine awP (op_move rfl rfl) ?_; (simp only [nA, ↓reduceIte]); refine awP (op_subi rfl rfl rfl (by omega)) ?_; (simp only [nA, Nat.reduceBEq, Nat.reduceEqDiff, ↓reduceIte, Nat.reduceAdd, Nat.reduceSub]); refine awP (op_assign rfl rfl) ?_; (simp only [nA]); refine AWL.gh (Gh.drop 3) ?_; (simp only [nA, Nat.reduceBEq, Nat.reduceEqDiff, ↓reduceIte, Nat.reduceAdd, Nat.reduceSub]); refine AWL.nil ?_; have hS : stepV l h k = (rawN l (rawN l (scanV l h k).1), h) := (by unfold stepV; dsimp only; rw [if_neg (by simpa using hc3)]); have hD := hI.2.2.1.step (l := l) k; have hR2 : devS l g (stepV l h k).1 (stepV l h k).2 = devV l k0 := hR; rw [hS] at hD hR2; refine ⟨(g, _, _, _), ⟨by dsimp only; omega, hD.s, hD, hR2⟩, by dsimp only; omega, ⟨rfl, rfl, rfl, (congrArg (fun z => AV.v (.int .i64 z)) hgz), trivial⟩, (by rfl), (by rfl)⟩
     (simp only [nA, Nat.reduceBEq, Nat.reduceEqDiff, ↓reduceIte])
     refine adJo 9 rfl (op_call1 rfl en12 (C12 (n := 3) hl (by decide)) (by exact rfl) (RL.cons .ptr (RL.cons (.base (by exact View.same rfl)) (RL.nil))) (by exact ⟨_, _, _, rfl, rfl, rfl⟩) (by exact rfl) (by exact rfl) (by exact rfl)) (by kernel_rfl) ⟨rfl, rfl⟩ ?_; (simp only [nA, Nat.reduceBEq, Nat.reduceEqDiff, ↓reduceIte, Nat.reduceAdd, Nat.reduceSub])
     refine adPo 10 rfl (fun T' ok => op_addi rfl rfl rfl (by omega)) ⟨rfl, rfl⟩ (by kernel_rfl) (by kernel_rfl) ?_; (simp only [nA, Nat.reduceBEq, Nat.reduceEqDiff, ↓reduceIte, Nat.reduceAdd, Nat.reduceSub])
     refine adFo 11 rfl (fun T' ok => op_callS rfl en27 (C27 hI.2.1) (RL.cons (by exact View.same rfl) (RL.cons (by exact View.same rfl) (RL.cons (by exact View.same rfl) (RL.cons (by exact View.same rfl) (RL.cons (by exact View.same rfl) RL.nil))))) rfl rfl rfl) ⟨rfl, rfl⟩ (by kernel_rfl) (by kernel_rfl) ?_; (simp only [nA, Nat.reduceBEq, Nat.reduceEqDiff, ↓reduceIte, Nat.reduceAdd, Nat.reduceSub])
     refine adPo 12 rfl (fun T' ok => op_move rfl rfl) ⟨rfl, rfl⟩ (by kernel_rfl) (by kernel_rfl) ?_; (simp only [nA])
     refine adPo 13 rfl (fun T' ok => op_extract rfl rfl rfl) ⟨rfl, rfl⟩ (by kernel_rfl) (by kernel_rfl) ?_; (simp only [nA, Nat.reduceBEq, Nat.reduceEqDiff, ↓reduceIte, Nat.reduceAdd, Nat.reduceSub])
     refine adPo 14 rfl (fun T' ok => op_extract rfl rfl rfl) ⟨rfl, rfl⟩ (by kernel_rfl) (by kernel_rfl) ?_; (simp only [nA, Nat.reduceBEq, Nat.reduceEqDiff, ↓reduceIte, Nat.reduceAdd, Nat.reduceSub])
     refine adPo 15 rfl (fun T' ok => op_extract rfl rfl rfl) ⟨rfl, rfl⟩ (by kernel_rfl) (by kernel_rfl) ?_; (simp only [nA, Nat.reduceBEq, Nat.reduceEqDiff, ↓reduceIte, Nat.reduceAdd, Nat.reduceSub])
     refine adJo 18 rfl (op_store rfl rfl rfl rfl rfl rfl sz26 rfl (bl rfl) rfl) (by kernel_rfl) ⟨rfl, rfl⟩ ?_; (simp only [nA, Nat.reduceBEq, Nat.reduceEqDiff, ↓reduceIte])
     refine adJo 19 rfl (op_store rfl rfl rfl rfl rfl rfl sz33 rfl (bl rfl) rfl) (by kernel_rfl) ⟨rfl, rfl⟩ ?_; (simp only [nA, Nat.reduceBEq, Nat.reduceEqDiff, ↓reduceIte])
     refine adPo 20 rfl (fun T' ok => op_assign rfl rfl) ⟨rfl, rfl⟩ (by kernel_rfl) (by kernel_rfl) ?_; (simp only [nA])
     refine adDoneo (by kernel_rfl) ?_
     (refine hK _ ?_; clear hK K; (skip)); (refine AW.seq_k ?_; intro K hK); refine AW.region ?_; refine awP (op_move rfl rfl) ?_; (simp only [nA]); refine awP (op_eql rfl rfl rfl) ?_; (simp only [nA, Nat.reduceBEq, Nat.reduceEqDiff, ↓reduceIte, Nat.reduceAdd, Nat.reduceSub]); refine AWL.nil ?_; (refine hK _ ?_; clear hK K; (skip)); refine AW.cond rfl rfl rfl (fun hc3 => ?_) (fun hc3 => ?_)
     · refine AW.region ?_; refine awR (op_load_ptr rfl rfl rfl rfl ag26 sz26 (bl rfl) rfl) ?_; (simp only [nA, Nat.reduceBEq, Nat.reduceEqDiff, ↓reduceIte, Nat.reduceAdd, Nat.reduceSub]); refine awJ (op_store rfl rfl rfl rfl rfl rfl sz26 rfl (bl rfl) rfl) ?_; (simp only [nA, Nat.reduceBEq, Nat.reduceEqDiff, ↓reduceIte, Nat.reduceAdd, Nat.reduceSub]); refine AWL.nil ?_; (simp only [thenE, inBlk, Nat.reduceEqDiff, ↓reduceIte]); (refine hK _ ?_; clear hK K; (skip)); refine AW.region ?_; refine awP (op_move rfl rfl) ?_; (simp only [nA, ↓reduceIte]); refine awP (op_subi rfl rfl rfl (by omega)) ?_; (simp only [nA, Nat.reduceBEq, Nat.reduceEqDiff, ↓reduceIte, Nat.reduceAdd, Nat.reduceSub]); refine awP (op_assign rfl rfl) ?_; (simp only [nA]); refine AWL.gh (Gh.drop 3) ?_; (simp only [nA, Nat.reduceBEq, Nat.reduceEqDiff, ↓reduceIte, Nat.reduceAdd, Nat.reduceSub]); refine AWL.nil ?_; have hS : stepV l h k = (rawN l (rawN l (scanV l h k).1), (scanR h (1 + gmod (rawV l (scanV l h k).1) 2) (scanV l h k).2.1 (scanV l h k).2.2 (h.last + gmod (rawV l (rawN l (scanV l h k).1)) 3)).1) := (by unfold stepV; dsimp only; rw [if_pos (by simpa using hc3)]); have hD := hI.2.2.1.step (l := l) k; have hR2 : devS l g (stepV l h k).1 (stepV l h k).2 = devV l k0 := hR; rw [hS] at hD hR2; refine ⟨(g, _, _, _), ⟨by dsimp only; omega, hD.s, hD, hR2⟩, by dsimp only; omega, ⟨rfl, rfl, rfl, (congrArg (fun z => AV.v (.int .i64 z)) hgz), trivial⟩, (by rfl), (by rfl)⟩
     refine AW.skip ?_; (simp only [thenE, inBlk, Nat.reduceEqDiff, ↓reduceIte]); (refine hK _ ?_; clear hK K; (skip)); refine AW.region ?_; refine awP (op_move rfl rfl) ?_; (simp only [nA, ↓reduceIte]); refine awP (op_subi rfl rfl rfl (by omega)) ?_; (simp only [nA, Nat.reduceBEq, Nat.reduceEqDiff, ↓reduceIte, Nat.reduceAdd, Nat.reduceSub]); refine awP (op_assign rfl rfl) ?_; (simp only [nA]); refine AWL.gh (Gh.drop 3) ?_; (simp only [nA, Nat.reduceBEq, Nat.reduceEqDiff, ↓reduceIte, Nat.reduceAdd, Nat.reduceSub]); refine AWL.nil ?_; have hS : stepV l h k = (rawN l (rawN l (scanV l h k).1), h) := (by unfold stepV; dsimp only; rw [if_neg (by simpa using hc3)]); have hD := hI.2.2.1.step (l := l) k; have hR2 : devS l g (stepV l h k).1 (stepV l h k).2 = devV l k0 := hR; rw [hS] at hD hR2; refine ⟨(g, _, _, _), ⟨by dsimp only; omega, hD.s, hD, hR2⟩, by dsimp only; omega, ⟨rfl, rfl, rfl, (congrArg (fun z => AV.v (.int .i64 z)) hgz), trivial⟩, (by rfl), (by rfl)⟩
   (simp only [nA, Nat.reduceBEq, Nat.reduceEqDiff, ↓reduceIte])
   refine adJo 2 rfl (op_call1 rfl en12 (C12 (n := 2) hl (by decide)) (by exact rfl) (RL.cons .ptr (RL.cons (.base (by exact View.same rfl)) (RL.nil))) (by exact ⟨_, _, _, rfl, rfl, rfl⟩) (by exact rfl) (by exact rfl) (by exact rfl)) (by kernel_rfl) ⟨rfl, rfl⟩ ?_; (simp only [nA, Nat.reduceBEq, Nat.reduceEqDiff, ↓reduceIte, Nat.reduceAdd, Nat.reduceSub])
   refine adPo 3 rfl (fun T' ok => op_addi rfl rfl rfl (by omega)) ⟨rfl, rfl⟩ (by kernel_rfl) (by kernel_rfl) ?_; (simp only [nA, Nat.reduceBEq, Nat.reduceEqDiff, ↓reduceIte, Nat.reduceAdd, Nat.reduceSub])
   refine adJo 9 rfl (op_call1 rfl en12 (C12 (n := 3) hl (by decide)) (by exact rfl) (RL.cons .ptr (RL.cons (.base (by exact View.same rfl)) (RL.nil))) (by exact ⟨_, _, _, rfl, rfl, rfl⟩) (by exact rfl) (by exact rfl) (by exact rfl)) (by kernel_rfl) ⟨rfl, rfl⟩ ?_; (simp only [nA, Nat.reduceBEq, Nat.reduceEqDiff, ↓reduceIte, Nat.reduceAdd, Nat.reduceSub])
   refine adPo 10 rfl (fun T' ok => op_addi rfl rfl rfl (by omega)) ⟨rfl, rfl⟩ (by kernel_rfl) (by kernel_rfl) ?_; (simp only [nA, Nat.reduceBEq, Nat.reduceEqDiff, ↓reduceIte, Nat.reduceAdd, Nat.reduceSub])
   refine adFo 11 rfl (fun T' ok => op_callS rfl en27 (C27 hI.2.1) (RL.cons (by exact View.same rfl) (RL.cons (by exact View.same rfl) (RL.cons (by exact View.same rfl) (RL.cons (by exact View.same rfl) (RL.cons (by exact View.same rfl) RL.nil))))) rfl rfl rfl) ⟨rfl, rfl⟩ (by kernel_rfl) (by kernel_rfl) ?_; (simp only [nA, Nat.reduceBEq, Nat.reduceEqDiff, ↓reduceIte, Nat.reduceAdd, Nat.reduceSub])
   refine adPo 12 rfl (fun T' ok => op_move rfl rfl) ⟨rfl, rfl⟩ (by kernel_rfl) (by kernel_rfl) ?_; (simp only [nA])
   refine adPo 13 rfl (fun T' ok => op_extract rfl rfl rfl) ⟨rfl, rfl⟩ (by kernel_rfl) (by kernel_rfl) ?_; (simp only [nA, Nat.reduceBEq, Nat.reduceEqDiff, ↓reduceIte, Nat.reduceAdd, Nat.reduceSub])
   refine adPo 14 rfl (fun T' ok => op_extract rfl rfl rfl) ⟨rfl, rfl⟩ (by kernel_rfl) (by kernel_rfl) ?_; (simp only [nA, Nat.reduceBEq, Nat.reduceEqDiff, ↓reduceIte, Nat.reduceAdd, Nat.reduceSub])
   refine adPo 15 rfl (fun T' ok => op_extract rfl rfl rfl) ⟨rfl, rfl⟩ (by kernel_rfl) (by kernel_rfl) ?_; (simp only [nA, Nat.reduceBEq, Nat.reduceEqDiff, ↓reduceIte, Nat.reduceAdd, Nat.reduceSub])
   refine adJo 18 rfl (op_store rfl rfl rfl rfl rfl rfl sz26 rfl (bl rfl) rfl) (by kernel_rfl) ⟨rfl, rfl⟩ ?_; (simp only [nA, Nat.reduceBEq, Nat.reduceEqDiff, ↓reduceIte])
   refine adJo 19 rfl (op_store rfl rfl rfl rfl rfl rfl sz33 rfl (bl rfl) rfl) (by kernel_rfl) ⟨rfl, rfl⟩ ?_; (simp only [nA, Nat.reduceBEq, Nat.reduceEqDiff, ↓reduceIte])
   refine adPo 20 rfl (fun T' ok => op_assign rfl rfl) ⟨rfl, rfl⟩ (by kernel_rfl) (by kernel_rfl) ?_; (simp only [nA])
   refine adDoneo (by kernel_rfl) ?_
   (refine hK _ ?_; clear hK K; (skip)); (refine AW.seq_k ?_; intro K hK); refine AW.region ?_; refine awP (op_move rfl rfl) ?_; (simp only [nA]); refine awP (op_eql rfl rfl rfl) ?_; (simp only [nA, Nat.reduceBEq, Nat.reduceEqDiff, ↓reduceIte, Nat.reduceAdd, Nat.reduceSub]); refine AWL.nil ?_; (refine hK _ ?_; clear hK K; (skip)); refine AW.cond rfl rfl rfl (fun hc3 => ?_) (fun hc3 => ?_)
   · refine AW.region ?_; refine awR (op_load_ptr rfl rfl rfl rfl ag26 sz26 (bl rfl) rfl) ?_; (simp only [nA, Nat.reduceBEq, Nat.reduceEqDiff, ↓reduceIte, Nat.reduceAdd, Nat.reduceSub]); refine awJ (op_store rfl rfl rfl rfl rfl rfl sz26 rfl (bl rfl) rfl) ?_; (simp only [nA, Nat.reduceBEq, Nat.reduceEqDiff, ↓reduceIte, Nat.reduceAdd, Nat.reduceSub]); refine AWL.nil ?_; (simp only [thenE, inBlk, Nat.reduceEqDiff, ↓reduceIte]); (refine hK _ ?_; clear hK K; (skip)); refine AW.region ?_; refine awP (op_move rfl rfl) ?_; (simp only [nA, ↓reduceIte]); refine awP (op_subi rfl rfl rfl (by omega)) ?_; (simp only [nA, Nat.reduceBEq, Nat.reduceEqDiff, ↓reduceIte, Nat.reduceAdd, Nat.reduceSub]); refine awP (op_assign rfl rfl) ?_; (simp only [nA]); refine AWL.gh (Gh.drop 3) ?_; (simp only [nA, Nat.reduceBEq, Nat.reduceEqDiff, ↓reduceIte, Nat.reduceAdd, Nat.reduceSub]); refine AWL.nil ?_; have hS : stepV l h k = (rawN l (rawN l (scanV l h k).1), (scanR h (1 + gmod (rawV l (scanV l h k).1) 2) (scanV l h k).2.1 (scanV l h k).2.2 (h.last + gmod (rawV l (rawN l (scanV l h k).1)) 3)).1) := (by unfold stepV; dsimp only; rw [if_pos (by simpa using hc3)]); have hD := hI.2.2.1.step (l := l) k; have hR2 : devS l g (stepV l h k).1 (stepV l h k).2 = devV l k0 := hR; rw [hS] at hD hR2; refine ⟨(g, _, _, _), ⟨by dsimp only; omega, hD.s, hD, hR2⟩, by dsimp only; omega, ⟨rfl, rfl, rfl, (congrArg (fun z => AV.v (.int .i64 z)) hgz), trivial⟩, (by rfl), (by rfl)⟩
   refine AW.skip ?_; (simp only [thenE, inBlk, Nat.reduceEqDiff, ↓reduceIte]); (refine hK _ ?_; clear hK K; (skip)); refine AW.region ?_; refine awP (op_move rfl rfl) ?_; (simp only [nA, ↓reduceIte]); refine awP (op_subi rfl rfl rfl (by omega)) ?_; (simp only [nA, Nat.reduceBEq, Nat.reduceEqDiff, ↓reduceIte, Nat.reduceAdd, Nat.reduceSub]); refine awP (op_assign rfl rfl) ?_; (simp only [nA]); refine AWL.gh (Gh.drop 3) ?_; (simp only [nA, Nat.reduceBEq, Nat.reduceEqDiff, ↓reduceIte, Nat.reduceAdd, Nat.reduceSub]); refine AWL.nil ?_; have hS : stepV l h k = (rawN l (rawN l (scanV l h k).1), h) := (by unfold stepV; dsimp only; rw [if_neg (by simpa using hc3)]); have hD := hI.2.2.1.step (l := l) k; have hR2 : devS l g (stepV l h k).1 (stepV l h k).2 = devV l k0 := hR; rw [hS] at hD hR2; refine ⟨(g, _, _, _), ⟨by dsimp only; omega, hD.s, hD, hR2⟩, by dsimp only; omega, ⟨rfl, rfl, rfl, (congrArg (fun z => AV.v (.int .i64 z)) hgz), trivial⟩, (by rfl), (by rfl)⟩
  have hc2 := hc; have hf0 : f = 0 := (by have h : ¬ (f : Int) > 0 := (by simpa using hc2); omega); subst hf0; have hE : devV l k0 = (k, h) := hI.2.2.2.symm
  refine AW.exit ?_; (simp only [thenE, inBlk, Nat.reduceEqDiff, ↓reduceIte])
  clear hK K
  (refine hK _ ?_; clear hK K; (skip))
  (refine AW.seq_k ?_; intro K hK)
  refine AW.region ?_
  (refine awR (op_load_ptr rfl rfl rfl rfl ag26 sz26 (bl rfl) rfl) ?_)
  refine awJ (op_store rfl rfl rfl rfl rfl rfl sz26 rfl (bl rfl) rfl) ?_; (simp only [nA, Nat.reduceBEq, Nat.reduceEqDiff, ↓reduceIte, Nat.reduceAdd, Nat.reduceSub])
  refine AWL.nil ?_
  (refine hK _ ?_; clear hK K; (skip))
  skip
  refine AW.ret ?_; rw [hE]; exact RQ.of (.inl rfl) rfl (.cell (bl rfl) rfl rfl rfl ag26 sz26 (bl rfl) rfl rfl .nil) (by simp) rfl (one_out rfl)
end Go.Proofs.Ytdnofpggdddimaa
namespace Go.Proofs.Ytdnofpggdddimaa
open Go.RowKit
set_option linter.unusedSimpArgs false
set_option linter.unusedVariables false
set_option maxRecDepth 100000
/-- How far a device has come. -/
structure DevN (n : Int) (h : Hand) : Prop where
  x : h.next ≤ n
  g : (h.log.length : Int) ≤ n
  l : h.last ≤ 4 * n
theorem DevN.mono {n m : Int} {h : Hand} (hd : DevN n h) (hm : n ≤ m) : DevN m h := ⟨by have := hd.x; omega, by have := hd.g; omega, by have := hd.l; omega⟩
theorem DevN.scan {n : Int} {h : Hand} (hd : DevN n h) {k : Int} {p : Piece} {c t : Int} (ht : t ≤ h.last + 4) : DevN (n + 1) (scanH h k p c t) := by
  have h1 := hd.x; have h2 := hd.g; have h3 := hd.l
  refine ⟨by show h.next + 1 ≤ n + 1; omega, ?_, by show t ≤ 4 * (n + 1); omega⟩
  unfold scanH
  dsimp only
  split
  · rw [List.length_append]; simp only [List.length_cons, List.length_nil]; omega
  omega
theorem DevN.step {l : List Int} {n : Int} {h : Hand} (hd : DevN n h) (k : Nat) : DevN (n + 1) (stepV l h k).2 := by
  have hk3 := gmod_bd (x := rawV l (rawN l (scanV l h k).1)) (n := 3) (by decide)
  unfold stepV
  dsimp only
  split
  · rename_i h0
    obtain ⟨_, h1, _⟩ := scanR_0 h0
    rw [h1]
    exact hd.scan (by omega)
  exact hd.mono (by omega)
theorem DevN.devS {l : List Int} : ∀ (f k : Nat) {n : Int} {h : Hand}, DevN n h → DevN (n + f) (devS l f k h).2
  | 0, _, n, _, hd => hd.mono (by omega)
  | f + 1, k, n, _, hd => (DevN.devS f _ (hd.step k)).mono (by omega)
end Go.Proofs.Ytdnofpggdddimaa
namespace Go.Proofs.Ytdnofpggdddimaa
open Go.RowKit
set_option linter.unusedSimpArgs false
set_option linter.unusedVariables false
set_option maxRecDepth 100000
def okP (o : Op) (x : Grant) (d : Container) : Bool := (piEq x.piece o.piece && decide (d.number = o.cont)) && flEq d.flight x.flight
def okO (g : List Grant) (c : List Container) (o : Op) : Bool := g.any fun x => c.any (okP o x)
theorem piEq_iff {p q : Piece} : piEq p q = true ↔ p = q := by
  constructor
  · intro h
    unfold piEq at h
    simp only [Bool.and_eq_true, decide_eq_true_eq, beq_iff_eq] at h
    obtain ⟨a1, a2, a3⟩ := p
    obtain ⟨b1, b2, b3⟩ := q
    obtain ⟨h1, h2, h3⟩ := h
    simp only at h1 h2 h3
    rw [h1, h2, h3]
  rintro rfl; exact piEq_self _
theorem idx_at {α : Type} [Inhabited α] {p : α → Bool} {l : List α} (h : ¬ idxI p l < 0) : p (l.getD (idxI p l).toNat default) = true := by
  unfold idxI at h ⊢
  by_cases hl : l.findIdx p < l.length
  · rw [if_pos hl, Int.toNat_natCast, getD_of hl]
    exact List.findIdx_getElem
  rw [if_neg hl] at h; omega
theorem bare_mem {cs : List Container} {d : Container} (h : d ∈ cs.map bareC) : ∃ e ∈ cs, e.number = d.number ∧ e.flight = d.flight := by
  obtain ⟨e, he, rfl⟩ := List.mem_map.1 h
  exact ⟨e, he, rfl, rfl⟩
theorem getD_mem {α : Type} [Inhabited α] {l : List α} {i : Nat} (h : i < l.length) : l.getD i default ∈ l := by rw [getD_of h]; exact List.getElem_mem h
theorem bare_bare (cs : List Container) : (cs.map bareC).map bareC = cs.map bareC := by rw [List.map_map]; rfl
/-- What a device keeps that went offline with grants and containers. -/
structure DevG (G : List Grant) (K : List Container) (h : Hand) : Prop where
  i : DevI h
  o : h.offline = true
  g : h.grants = G
  c : h.conts = K.map bareC
  l : ∀ i, i < h.log.length → (h.log.getD i default).kind = 1 → okO G K (h.log.getD i default) = true ∧ loadedB (h.log.take i) (h.log.getD i default).piece.plate = false
theorem DevG.scan {g : List Grant} {c : List Container} {h : Hand} (hd : DevG g c h) {k : Int} {p : Piece} {n t : Int} (he : scanE h k p n t = 0) : DevG g c (scanH h k p n t) := by
  have hp := (scan_parts he).2.2.2.2.2.2.2.2 hd.o
  have e : scanH h k p n t = ⟨h.number, h.next + 1, t, h.offline, h.grants, h.conts.map bareC, h.log ++ [newOp h k p n t]⟩ := by unfold scanH; rw [if_pos hd.o]
  refine ⟨hd.i.scan he, hd.o, hd.g, ?_, ?_⟩
  · show h.conts.map bareC = _
    rw [hd.c, bare_bare]
  rw [e]
  intro i hi
  simp only [List.length_append, List.length_cons, List.length_nil] at hi
  rcases Nat.lt_or_ge i h.log.length with h1 | h1
  · rw [getD_append_l h1]
    show _ → _ ∧ loadedB ((h.log ++ _).take i) _ = false
    rw [List.take_append_of_le_length (by omega)]
    exact hd.l i h1
  obtain rfl : i = h.log.length := by omega
  rw [getD_append_r]
  show k = 1 → okO g c (newOp h k p n t) = true ∧ loadedB ((h.log ++ [newOp h k p n t]).take h.log.length) p.plate = false
  rw [List.take_left]
  intro hk
  have h0 := hp hk
  unfold loadErr at h0
  by_cases h2 : idxI (fun c : Container => decide (c.number = n)) h.conts < 0
  · rw [if_pos h2] at h0; cases h0
  rw [if_neg h2] at h0
  by_cases h3 : grantedB h.grants p (h.conts.getD (idxI (fun c : Container => decide (c.number = n)) h.conts).toNat default).flight = false
  · rw [if_pos h3] at h0; cases h0
  rw [if_neg h3] at h0
  by_cases h4 : loadedB h.log p.plate = true
  · rw [if_pos h4] at h0; cases h0
  refine ⟨?_, by simpa using h4⟩
  obtain ⟨d, hd1, hd2, hd3⟩ := bare_mem (cs := c) (by rw [← hd.c]; exact getD_mem (idx_lt h2).1)
  have hn := idx_at h2
  simp only [decide_eq_true_eq] at hn
  simp only [Bool.not_eq_false] at h3
  unfold grantedB at h3
  have h5 : ¬ idxI (fun x => grEq ⟨p, (h.conts.getD (idxI (fun c : Container => decide (c.number = n)) h.conts).toNat default).flight⟩ x) h.grants < 0 := by
    have := of_decide_eq_true h3
    omega
  have hx := idx_at h5
  have hm := getD_mem (idx_lt h5).1
  rw [hd.g] at hm hx
  revert hx hm
  generalize g.getD _ default = x
  intro hx hm
  unfold grEq at hx
  simp only [Bool.and_eq_true] at hx
  unfold okO
  rw [List.any_eq_true]
  refine ⟨x, hm, ?_⟩
  rw [List.any_eq_true]
  refine ⟨d, hd1, ?_⟩
  unfold okP
  rw [hd2, hd3, hn, ← piEq_iff.1 hx.1, ← flEq_iff.1 hx.2]
  simp only [newOp, piEq_self, decide_true, Bool.and_self, Bool.true_and]
  exact flEq_iff.2 rfl
end Go.Proofs.Ytdnofpggdddimaa
namespace Go.Proofs.Ytdnofpggdddimaa
open Go.RowKit
set_option linter.unusedSimpArgs false
set_option linter.unusedVariables false
set_option maxRecDepth 100000
section
variable {C : Cx} {σ : Sta}
end
theorem dev_log0 {h : Hand} (hv : valH h = 0) (ho : h.offline = false) : h.log = [] := by
  have hb := (val_parts hv).2.1
  unfold barB at hb
  rw [ho, Bool.false_or, decide_eq_true_eq] at hb
  exact List.eq_nil_of_length_eq_zero (by omega)
theorem DevI.off {h : Hand} (hd : DevI h) {g : List Grant} {c : List Container} (ho : h.offline = false) (hg : g.length ≤ 60) (he : grsE g = 0) (hc : chkL c = 0) : offE h g c = 0 ∧ DevI (offH h g c) := by
  have hE := off_intro hd.v ho hg he hc
  exact ⟨hE, off_valid hE (dev_log0 hd.v ho), off_sm hd.s (by omega) (by have := chk_len hc; omega), hd.l0, hd.l1⟩
end Go.Proofs.Ytdnofpggdddimaa
namespace Go.Proofs.Ytdnofpggdddimaa
open Go.RowKit
set_option linter.unusedSimpArgs false
set_option linter.unusedVariables false
set_option maxRecDepth 100000
section
variable {C : Cx} {ops : Array Oper} {Q : Exit → Sta → Prop} {Ok : Sl → Prop} {k : Nat}
variable {fuel : Nat} {listed : Array Bool} {env : Nat → AV} {T : Sl} {n : Nat}
/-- Two operations may come next. -/
theorem akJ2 (i1 i2 : Nat) {o1 o2 : Oper} {x1 x2 : AV} {T1 T2 : Sl} (h1 : ops.toList[i1]? = some o1) (h2 : ops.toList[i2]? = some o2) (hj1 : OpJ C o1 (evA env) T x1 T1) (hj2 : OpJ C o2 (evA env) T x2 T2) (hr : Region.ready .any ops listed = [i1, i2]) (hT1 : Ok T1) (hT2 : Ok T2)
    (k1 : ADk C ops Q Ok k fuel (listed.setIfInBounds i1 true) ⟨putE env o1.dst x1, T1, n⟩) (k2 : ADk C ops Q Ok k fuel (listed.setIfInBounds i2 true) ⟨putE env o2.dst x2, T2, n⟩)
    (hg1 : o1.guard = none := by rfl) (hg2 : o2.guard = none := by rfl) (ho1 : opsOk o1 n = true := by rfl) (ho2 : opsOk o2 n = true := by rfl) : ADk C ops Q Ok k (fuel + 1) listed ⟨env, T, n⟩ := by
  refine ⟨fun h => (by rw [h] at hr; cases hr), fun j hj => ?_⟩
  rw [hr] at hj
  simp only [List.mem_cons, List.not_mem_nil, or_false] at hj
  rcases hj with rfl | rfl
  · exact ⟨o1, x1, T1, atL h1, hg1, ho1, hj1, .inl hT1, k1⟩
  exact ⟨o2, x2, T2, atL h2, hg2, ho2, hj2, .inl hT2, k2⟩
end
section
variable {C : Cx} {o : Oper} {ev : Operand → AV} {T : Sl} {σ : Sta}
/-- A field of what lies at a known address. -/
theorem op_fa_v {t ft : TypeId} {y : Operand} {f off n g j : Nat} (ho : o.op = .fieldAddr t y f) (hy : ev y = .v (ptv g j)) (hf : fieldIs C.P t f off ft) (hs : sizeIs C.P ft n) (hn : n ≠ 0) {j' : Nat} (hj : j + off = j') : OpP C o ev T (.v (ptv g j')) := by
  subst hj
  intro a w S vals bss hm h
  have h1 := h y (by simp [ho, Op.operands])
  rw [hy] at h1
  exact ⟨.pointer (some ⟨g, j + off, none⟩), fun w => by simp [execOp, ho, h1.v, ptv, run_fieldAt hf hs hn, add_off], TmpOK.v_ rfl⟩
/-- A named slice's length. -/
theorem St.len {a : Act} {w : World} (hs : St C σ a w) {r k n : Nat} {u : Value} {e : TypeId} {es : List (List AV)} (hT : σ.T.slots[r]? = some (k, .nm u e es)) (hn : es.length = n) : ∃ A c, u = .slice A n c := by
  subst hn
  obtain ⟨hd, hn, S, vals, bss, hm, he⟩ := hs
  obtain ⟨v, bs, hv, hb, hrep⟩ := hm.slot hT
  obtain ⟨rfl, hr⟩ := hrep.nm_inv
  obtain ⟨us, sz, bss, -, -, -, hown, -⟩ := hr.own_inv
  rcases hown.2 with ⟨h1, h0'⟩ | ⟨g, cap, cur, rfl, -⟩
  · exact ⟨none, 0, by rw [h1, h0']⟩
  exact ⟨_, _, rfl⟩
end
abbrev newC (x : Int) : Container := ⟨x, flightN 0, 0, 0, 0, 0, 0, []⟩
theorem new_le (x : Int) (cs : List Container) : RL (Le2 Try.prog) (cs.map Container.av ++ [nilC (newC x)]).flatten ((cs ++ [newC x]).map Container.av).flatten := by
  rw [List.map_append, List.flatten_append, List.flatten_append]
  refine RL.append (RL.refl_le _) ?_
  exact RL.cons .same (RL.cons .same (RL.cons .same (RL.cons .same (RL.cons .same (RL.cons .same (RL.cons .same (RL.cons .same (RL.cons .same (RL.cons .same (RL.cons .nil RL.nil))))))))))
def setT (l : List Op) (i : Nat) (t : Int) : List Op := l.set i { l.getD i default with time := t }
theorem setT_av {l : List Op} {i : Nat} {t : Int} : (l.map Op.av).set i (splice (l.getD i default).av 0 [.v (.int .i64 t)]) = (setT l i t).map Op.av := by
  unfold setT
  rw [List.map_set]; rfl
def spoiltV (l : List Int) (k : Nat) (h : Hand) : Nat × Hand :=
  if gmod (rawV l k) 8 = 0 then (rawN l (rawN l k), { h with next := pickV l (rawN l k) [0, 1, 1048576, 1048577] })
  else if gmod (rawV l k) 8 = 1 then (rawN l (rawN l k), { h with last := pickV l (rawN l k) [-1, 0, 1048576, 1048577] })
  else if gmod (rawV l k) 8 = 2 then (rawN l (rawN l k), { h with number := pickV l (rawN l k) [0, 1, 6, 7] })
  else if gmod (rawV l k) 8 = 3 then (rawN l k, { h with offline := !h.offline })
  else if gmod (rawV l k) 8 = 4 then (nx3 l (rawN l k), { h with grants := h.grants ++ [⟨pieceV l (rawN l k) 9, flightN 1⟩] })
  else if gmod (rawV l k) 8 = 5 then (rawN l k, { h with log := h.log.take (h.log.length - 1) })
  else if gmod (rawV l k) 8 = 6 then (if h.log.length = 0 then (rawN l k, h) else (rawN l (rawN l (rawN l k)), { h with log := setT h.log (idxV l (rawN l k) h.log.length) (gmod (rawV l (rawN l (rawN l k))) 20) }))
  else (rawN l (rawN l k), { h with conts := h.conts ++ [newC (gmod (rawV l (rawN l k)) 9)] })
theorem setT_len (l : List Op) (i : Nat) (t : Int) : (setT l i t).length = l.length := by unfold setT; simp
theorem spoilt_bd (l : List Int) (k : Nat) {h : Hand} {b : Nat} (hg : h.grants.length ≤ b) (hc : h.conts.length ≤ b) (hl : h.log.length ≤ b) (hp : ∀ c ∈ h.conts, c.pieces.length ≤ 1000) :
    (spoiltV l k h).2.grants.length ≤ b + 1 ∧ (spoiltV l k h).2.conts.length ≤ b + 1 ∧ (spoiltV l k h).2.log.length ≤ b + 1 ∧ ∀ c ∈ (spoiltV l k h).2.conts, c.pieces.length ≤ 1000 := by
  unfold spoiltV
  repeat' split
  all_goals refine ⟨?_, ?_, ?_, ?_⟩
  all_goals try (dsimp only)
  all_goals first
    | exact hp
    | omega
    | (rw [setT_len]; omega)
    | (simp only [List.length_append, List.length_cons, List.length_nil]; omega)
    | (rw [List.length_take]; omega)
    | skip
  intro c hc'
  rcases List.mem_append.1 hc' with h1 | h1
  · exact hp c h1
  obtain rfl : c = newC (gmod (rawV l (rawN l k)) 9) := by simpa using h1
  exact Nat.zero_le _
end Go.Proofs.Ytdnofpggdddimaa
namespace Go.Proofs.Ytdnofpggdddimaa
open Go.RowKit
set_option linter.unusedSimpArgs false
set_option linter.unusedVariables false
set_option maxRecDepth 100000
set_option maxHeartbeats 8000000 in
theorem C17 {l : List Int} {k : Nat} {h : Hand} (hl : l.length ≤ 2000) (hs : h.Sm) : Fn Try.prog 17 [.own 81 [srcRow l k]] [.ptr 0 0 0 0, .agg h.av] [.agg (spoiltV l k h).2.av] [.own 81 [srcRow l (spoiltV l k h).1]] := by
  have hsg := hs.g
  have hsc := hs.c
  have hsl := hs.l
  refine Spec.body Try.func17 rfl Try.ntmps17 (by simp) rfl ?_; intro S0 own0 v0 w0
  (refine AW.seq_k ?_; intro K hK)
  refine AW.region ?_
  refine awJ (op_box rfl rfl rfl sz26 rfl) ?_; (simp only [nA, Nat.reduceBEq, Nat.reduceEqDiff, ↓reduceIte])
  refine awJ (op_alloc rfl ze26 rfl) ?_; (simp only [nA, Nat.reduceBEq, Nat.reduceEqDiff, ↓reduceIte])
  refine AWL.nil ?_
  (refine hK _ ?_; clear hK K; (simp only [nA, Nat.reduceBEq, Nat.reduceEqDiff, ↓reduceIte, Nat.reduceAdd, Nat.reduceSub]))
  refine AW.gh Gh.reserve ?_; refine AW.gh Gh.reserve ?_; (simp only [nA, Nat.reduceBEq, Nat.reduceEqDiff, ↓reduceIte])
  refine AW.joinG (fun (e : Nat) => [(0, .ptr 0 0 0 0), (3, .ptr 1 1 0 0), (4, .ptr 2 2 0 0)]) (fun e => ⟨[(0, .own 81 [srcRow l k]), (1, .own 26 [[.v (.int .i64 h.number), .v (.int .i64 h.next), .v (.int .i64 h.last), .v (.bool h.offline), .own 75 (h.grants.map Grant.av), .ro (h.conts.map Container.av), .own 33 (h.log.map Op.av)]]), (2, .own 26 [[.v (.int .i64 0), .v (.int .i64 0), .v (.int .i64 0), .v (.bool false), .v (.slice none 0 0), .v (.slice none 0 0), .v (.slice none 0 0)]])], e⟩) (fun _ => True) ?_ ?_
  · refine AW.adk 9 (FixL [(1, 1, .own 26 [h.av])]) mix rfl ?_
    refine akP 1 rfl (fun T' ok => op_fa_ptr rfl rfl (by exact ok.1) fl26_4 (by exact sz22) (by decide) rfl) (by exact ⟨rfl, trivial⟩) (by kernel_rfl) (by kernel_rfl) (by kernel_rfl) ?_; (simp only [nA, Nat.reduceBEq, Nat.reduceEqDiff, ↓reduceIte])
    refine akR 2 rfl (fun T' ok => op_load_ptr1 rfl rfl (by exact ok.1) rfl ag22 rfl rfl) (by exact ⟨rfl, trivial⟩) (by kernel_rfl) (by kernel_rfl) (by kernel_rfl) ?_; (simp only [nA, Nat.reduceBEq, Nat.reduceEqDiff, ↓reduceIte, Nat.reduceAdd, Nat.reduceSub])
    refine akP 5 rfl (fun T' ok => op_fa_ptr rfl rfl (by exact ok.1) fl26_6 (by exact sz24) (by decide) rfl) (by exact ⟨rfl, trivial⟩) (by kernel_rfl) (by kernel_rfl) (by kernel_rfl) ?_; (simp only [nA, Nat.reduceBEq, Nat.reduceEqDiff, ↓reduceIte, Nat.reduceAdd, Nat.reduceSub])
    refine akR 6 rfl (fun T' ok => op_load_ptr1 rfl rfl (by exact ok.1) rfl ag24 rfl rfl) (by exact ⟨rfl, trivial⟩) (by kernel_rfl) (by kernel_rfl) (by kernel_rfl) ?_; (simp only [nA, Nat.reduceBEq, Nat.reduceEqDiff, ↓reduceIte, Nat.reduceAdd, Nat.reduceSub])
    refine akJ2 0 4 rfl rfl (OpJ.at 3 rfl (op_buildSlice rfl [] [] Try.underlying22 ze75 rfl (by simp) rfl (by simp) rfl (bl rfl) (by simp [maxLen])) rfl) (OpJ.at 4 rfl (op_buildSlice rfl [] [] Try.underlying24 ze33 rfl (by simp) rfl (by simp) rfl (bl rfl) (by simp [maxLen])) rfl) (by kernel_rfl) (by exact ⟨rfl, trivial⟩) (by exact ⟨rfl, trivial⟩) ?_ ?_
    · (simp only [nA, Nat.reduceBEq, Nat.reduceEqDiff, ↓reduceIte]); refine akJ2 3 4 rfl rfl (op_app (r := 3) (rows := (h.grants.map Grant.av)) rfl rfl rfl rfl rfl .ro Try.underlying22 ze75 (by decide) (gav_len _) (by simp; omega) (by decide) (List.nil_append _) (n := h.grants.length) (by simp)) (OpJ.at 4 rfl (op_buildSlice rfl [] [] Try.underlying24 ze33 rfl (by simp) rfl (by simp) rfl (bl rfl) (by simp [maxLen])) rfl) (by kernel_rfl) (by exact ⟨rfl, trivial⟩) (by exact ⟨rfl, trivial⟩) ?_ ?_
      · (simp only [nA, Nat.reduceBEq, Nat.reduceEqDiff, ↓reduceIte]); refine akP 8 rfl (fun T' ok => op_fa_ptr rfl rfl (by exact ok.1) fl26_4 (by exact sz22) (by decide) rfl) (by exact ⟨rfl, trivial⟩) (by kernel_rfl) (by kernel_rfl) (by kernel_rfl) ?_; (simp only [nA, Nat.reduceBEq, Nat.reduceEqDiff, ↓reduceIte, Nat.reduceAdd, Nat.reduceSub])
        refine akJ 4 rfl (OpJ.at 4 rfl (op_buildSlice rfl [] [] Try.underlying24 ze33 rfl (by simp) rfl (by simp) rfl (bl rfl) (by simp [maxLen])) rfl) (by kernel_rfl) (by exact ⟨rfl, trivial⟩) ?_; (simp only [nA, Nat.reduceBEq, Nat.reduceEqDiff, ↓reduceIte])
        refine akJ 7 rfl (op_app (r := 4) (rows := (h.log.map Op.av)) rfl rfl rfl rfl rfl .ro Try.underlying24 ze33 (by decide) (opv_len _) (by simp; omega) (by decide) (List.nil_append _) (n := h.log.length) (by simp)) (by kernel_rfl) (by exact ⟨rfl, trivial⟩) ?_; (simp only [nA, Nat.reduceBEq, Nat.reduceEqDiff, ↓reduceIte])
        refine akL 9 rfl (op_store_nest (r := 1) (q := 3) rfl rfl rfl rfl (row := h.av) rfl sz22 rfl (by decide) (by simp) (by simp) (es2 := [[.v (.int .i64 h.number), .v (.int .i64 h.next), .v (.int .i64 h.last), .v (.bool h.offline), .own 75 (h.grants.map Grant.av), .ro (h.conts.map Container.av), .ro (h.log.map Op.av)]]) rfl) (by kernel_rfl) (by decide) ?_; (simp only [nA, Nat.reduceBEq, Nat.reduceEqDiff, ↓reduceIte, Nat.reduceAdd, Nat.reduceSub]); refine akL 10 rfl (OpP.j (op_fa_ptr rfl rfl rfl fl26_6 (by exact sz24) (by decide) rfl)) (by kernel_rfl) (by decide) ?_; (simp only [nA, Nat.reduceBEq, Nat.reduceEqDiff, ↓reduceIte, Nat.reduceAdd, Nat.reduceSub]); refine akL 11 rfl (op_store_nest (r := 1) (q := 4) rfl rfl rfl rfl (row := [.v (.int .i64 h.number), .v (.int .i64 h.next), .v (.int .i64 h.last), .v (.bool h.offline), .own 75 (h.grants.map Grant.av), .ro (h.conts.map Container.av), .ro (h.log.map Op.av)]) rfl sz24 rfl (by decide) (by simp) (by simp) (es2 := [[.v (.int .i64 h.number), .v (.int .i64 h.next), .v (.int .i64 h.last), .v (.bool h.offline), .own 75 (h.grants.map Grant.av), .ro (h.conts.map Container.av), .own 33 (h.log.map Op.av)]]) rfl) (by kernel_rfl) (by decide) ?_; (simp only [nA, Nat.reduceBEq, Nat.reduceEqDiff, ↓reduceIte, Nat.reduceAdd, Nat.reduceSub]); refine akDone (by kernel_rfl) ?_; exact ⟨_, Gh.drop 3, _, trivial, ⟨rfl, rfl, rfl, trivial⟩, rfl, rfl⟩
      (simp only [nA, Nat.reduceBEq, Nat.reduceEqDiff, ↓reduceIte]); refine akJ 3 rfl (op_app (r := 3) (rows := (h.grants.map Grant.av)) rfl rfl rfl rfl rfl .ro Try.underlying22 ze75 (by decide) (gav_len _) (by simp; omega) (by decide) (List.nil_append _) (n := h.grants.length) (by simp)) (by kernel_rfl) (by exact ⟨rfl, trivial⟩) ?_; (simp only [nA, Nat.reduceBEq, Nat.reduceEqDiff, ↓reduceIte])
      refine akP 8 rfl (fun T' ok => op_fa_ptr rfl rfl (by exact ok.1) fl26_4 (by exact sz22) (by decide) rfl) (by exact ⟨rfl, trivial⟩) (by kernel_rfl) (by kernel_rfl) (by kernel_rfl) ?_; (simp only [nA, Nat.reduceBEq, Nat.reduceEqDiff, ↓reduceIte, Nat.reduceAdd, Nat.reduceSub])
      refine akJ 7 rfl (op_app (r := 4) (rows := (h.log.map Op.av)) rfl rfl rfl rfl rfl .ro Try.underlying24 ze33 (by decide) (opv_len _) (by simp; omega) (by decide) (List.nil_append _) (n := h.log.length) (by simp)) (by kernel_rfl) (by exact ⟨rfl, trivial⟩) ?_; (simp only [nA, Nat.reduceBEq, Nat.reduceEqDiff, ↓reduceIte])
      refine akL 9 rfl (op_store_nest (r := 1) (q := 3) rfl rfl rfl rfl (row := h.av) rfl sz22 rfl (by decide) (by simp) (by simp) (es2 := [[.v (.int .i64 h.number), .v (.int .i64 h.next), .v (.int .i64 h.last), .v (.bool h.offline), .own 75 (h.grants.map Grant.av), .ro (h.conts.map Container.av), .ro (h.log.map Op.av)]]) rfl) (by kernel_rfl) (by decide) ?_; (simp only [nA, Nat.reduceBEq, Nat.reduceEqDiff, ↓reduceIte, Nat.reduceAdd, Nat.reduceSub]); refine akL 10 rfl (OpP.j (op_fa_ptr rfl rfl rfl fl26_6 (by exact sz24) (by decide) rfl)) (by kernel_rfl) (by decide) ?_; (simp only [nA, Nat.reduceBEq, Nat.reduceEqDiff, ↓reduceIte, Nat.reduceAdd, Nat.reduceSub]); refine akL 11 rfl (op_store_nest (r := 1) (q := 4) rfl rfl rfl rfl (row := [.v (.int .i64 h.number), .v (.int .i64 h.next), .v (.int .i64 h.last), .v (.bool h.offline), .own 75 (h.grants.map Grant.av), .ro (h.conts.map Container.av), .ro (h.log.map Op.av)]) rfl sz24 rfl (by decide) (by simp) (by simp) (es2 := [[.v (.int .i64 h.number), .v (.int .i64 h.next), .v (.int .i64 h.last), .v (.bool h.offline), .own 75 (h.grants.map Grant.av), .ro (h.conts.map Container.av), .own 33 (h.log.map Op.av)]]) rfl) (by kernel_rfl) (by decide) ?_; (simp only [nA, Nat.reduceBEq, Nat.reduceEqDiff, ↓reduceIte, Nat.reduceAdd, Nat.reduceSub]); refine akDone (by kernel_rfl) ?_; exact ⟨_, Gh.drop 3, _, trivial, ⟨rfl, rfl, rfl, trivial⟩, rfl, rfl⟩
    (simp only [nA, Nat.reduceBEq, Nat.reduceEqDiff, ↓reduceIte]); refine akJ 0 rfl (OpJ.at 3 rfl (op_buildSlice rfl [] [] Try.underlying22 ze75 rfl (by simp) rfl (by simp) rfl (bl rfl) (by simp [maxLen])) rfl) (by kernel_rfl) (by exact ⟨rfl, trivial⟩) ?_; (simp only [nA, Nat.reduceBEq, Nat.reduceEqDiff, ↓reduceIte])
    refine akJ 3 rfl (op_app (r := 3) (rows := (h.grants.map Grant.av)) rfl rfl rfl rfl rfl .ro Try.underlying22 ze75 (by decide) (gav_len _) (by simp; omega) (by decide) (List.nil_append _) (n := h.grants.length) (by simp)) (by kernel_rfl) (by exact ⟨rfl, trivial⟩) ?_; (simp only [nA, Nat.reduceBEq, Nat.reduceEqDiff, ↓reduceIte])
    refine akP 8 rfl (fun T' ok => op_fa_ptr rfl rfl (by exact ok.1) fl26_4 (by exact sz22) (by decide) rfl) (by exact ⟨rfl, trivial⟩) (by kernel_rfl) (by kernel_rfl) (by kernel_rfl) ?_; (simp only [nA, Nat.reduceBEq, Nat.reduceEqDiff, ↓reduceIte, Nat.reduceAdd, Nat.reduceSub])
    refine akJ 7 rfl (op_app (r := 4) (rows := (h.log.map Op.av)) rfl rfl rfl rfl rfl .ro Try.underlying24 ze33 (by decide) (opv_len _) (by simp; omega) (by decide) (List.nil_append _) (n := h.log.length) (by simp)) (by kernel_rfl) (by exact ⟨rfl, trivial⟩) ?_; (simp only [nA, Nat.reduceBEq, Nat.reduceEqDiff, ↓reduceIte])
    refine akL 9 rfl (op_store_nest (r := 1) (q := 3) rfl rfl rfl rfl (row := h.av) rfl sz22 rfl (by decide) (by simp) (by simp) (es2 := [[.v (.int .i64 h.number), .v (.int .i64 h.next), .v (.int .i64 h.last), .v (.bool h.offline), .own 75 (h.grants.map Grant.av), .ro (h.conts.map Container.av), .ro (h.log.map Op.av)]]) rfl) (by kernel_rfl) (by decide) ?_; (simp only [nA, Nat.reduceBEq, Nat.reduceEqDiff, ↓reduceIte, Nat.reduceAdd, Nat.reduceSub]); refine akL 10 rfl (OpP.j (op_fa_ptr rfl rfl rfl fl26_6 (by exact sz24) (by decide) rfl)) (by kernel_rfl) (by decide) ?_; (simp only [nA, Nat.reduceBEq, Nat.reduceEqDiff, ↓reduceIte, Nat.reduceAdd, Nat.reduceSub]); refine akL 11 rfl (op_store_nest (r := 1) (q := 4) rfl rfl rfl rfl (row := [.v (.int .i64 h.number), .v (.int .i64 h.next), .v (.int .i64 h.last), .v (.bool h.offline), .own 75 (h.grants.map Grant.av), .ro (h.conts.map Container.av), .ro (h.log.map Op.av)]) rfl sz24 rfl (by decide) (by simp) (by simp) (es2 := [[.v (.int .i64 h.number), .v (.int .i64 h.next), .v (.int .i64 h.last), .v (.bool h.offline), .own 75 (h.grants.map Grant.av), .ro (h.conts.map Container.av), .own 33 (h.log.map Op.av)]]) rfl) (by kernel_rfl) (by decide) ?_; (simp only [nA, Nat.reduceBEq, Nat.reduceEqDiff, ↓reduceIte, Nat.reduceAdd, Nat.reduceSub]); refine akDone (by kernel_rfl) ?_; exact ⟨_, Gh.drop 3, _, trivial, ⟨rfl, rfl, rfl, trivial⟩, rfl, rfl⟩
  intro ep ρ _; simp only [updL]
  (refine AW.seq_k ?_; intro K hK)
  (refine AW.seq_k ?_; intro K hK)
  refine AW.region ?_
  refine awP (op_move rfl rfl) ?_
  refine awJ (op_call1 rfl en12 (C12 (n := 8) hl (by decide)) (by exact rfl) (RL.cons .ptr (RL.cons (.base (by exact View.same rfl)) (RL.nil))) (by exact ⟨_, _, _, rfl, rfl, rfl⟩) (by exact rfl) (by exact rfl) (by exact rfl)) ?_; (simp only [nA])
  refine AWL.nil ?_
  (refine hK _ ?_; clear hK K; (skip))
  refine AW.block ?_
  (refine AW.seq_k ?_; intro K hK)
  refine AW.region ?_
  (refine awP (op_eql rfl rfl rfl) ?_)
  refine awP (op_assign rfl rfl) ?_
  refine AWL.nil ?_
  (refine hK _ ?_; clear hK K; (simp only [nA]))
  refine AW.cond rfl rfl rfl (fun hc => ?_) (fun hc => ?_)
  ·
   have hc1 := hc; have e1 : gmod (rawV l k) 8 = 0 := (by simpa using hc1); refine AW.gh (Gh.freezeC (r := 1) (row := [.v (.int .i64 h.number), .v (.int .i64 h.next), .v (.int .i64 h.last), .v (.bool h.offline), .own 75 (h.grants.map Grant.av), .ro (h.conts.map Container.av), .own 33 (h.log.map Op.av)]) 0 4 rfl rfl rfl (gav_flat _) (es2 := [[.v (.int .i64 h.number), .v (.int .i64 h.next), .v (.int .i64 h.last), .v (.bool h.offline), .ro (h.grants.map Grant.av), .ro (h.conts.map Container.av), .own 33 (h.log.map Op.av)]]) rfl) ?_; (simp only [nA, Nat.reduceBEq, Nat.reduceEqDiff, ↓reduceIte, Nat.reduceAdd, Nat.reduceSub]); refine AW.gh (Gh.freezeC (r := 1) (row := [.v (.int .i64 h.number), .v (.int .i64 h.next), .v (.int .i64 h.last), .v (.bool h.offline), .ro (h.grants.map Grant.av), .ro (h.conts.map Container.av), .own 33 (h.log.map Op.av)]) 0 6 rfl rfl rfl (opv_flat _) (es2 := [h.av]) rfl) ?_; (simp only [nA, Nat.reduceBEq, Nat.reduceEqDiff, ↓reduceIte, Nat.reduceAdd, Nat.reduceSub])
   refine AW.region ?_
   refine awP (op_move rfl rfl) ?_
   refine awJ (OpJ.frz (op_buildSlice rfl [(0, iv 0), (1, iv 1), (2, iv 1048576), (3, iv 1048577)] (([0, 1, 1048576, 1048577] : List Int).map iv) Try.underlying27 ze3 rfl (by simp) (fold_dense 1 (([0, 1, 1048576, 1048577] : List Int).map iv) (iv_len _)) (iv_len _) rfl (bl rfl) (by simp [maxLen])) (iv_flat [0, 1, 1048576, 1048577]) rfl) ?_; (simp only [nA, ↓reduceIte])
   refine awJ (op_call1 rfl en22 (C22 (xs := [0, 1, 1048576, 1048577]) hl (by decide) (by decide)) (by exact rfl) (RL.cons .ptr (RL.cons (.base (by exact View.same rfl)) (RL.nil))) (by exact ⟨_, _, _, rfl, rfl, rfl⟩) (by exact rfl) (by exact rfl) (by exact rfl)) ?_; (simp only [nA, Nat.reduceBEq, Nat.reduceEqDiff, ↓reduceIte, Nat.reduceAdd, Nat.reduceSub])
   (refine awP (op_fa_ptr rfl rfl rfl fl26_1 (by exact sz3) (by decide) rfl) ?_)
   refine awJ (op_store rfl rfl rfl rfl rfl rfl sz3 rfl (bl rfl) rfl) ?_; (simp only [nA, ↓reduceIte])
   refine AWL.nil ?_
   simp only [thenE, inBlk, Nat.reduceEqDiff, ↓reduceIte]
   (refine hK _ ?_; clear hK K; (skip))
   (refine AW.seq_k ?_; intro K hK)
   refine AW.region ?_
   (refine awR (op_load_ptr rfl rfl rfl rfl ag26 sz26 (bl rfl) rfl) ?_); (simp only [nA, Nat.reduceBEq, Nat.reduceEqDiff, ↓reduceIte, Nat.reduceAdd, Nat.reduceSub])
   refine awJ (op_store rfl rfl rfl rfl rfl rfl sz26 rfl (bl rfl) rfl) ?_; (simp only [nA, Nat.reduceBEq, Nat.reduceEqDiff, ↓reduceIte, Nat.reduceAdd, Nat.reduceSub])
   refine AWL.nil ?_
   (refine hK _ ?_; clear hK K; (skip))
   skip
   refine AW.ret ?_; rw [show spoiltV l k h = (rawN l (rawN l k), { h with next := pickV l (rawN l k) [0, 1, 1048576, 1048577] }) by unfold spoiltV; rw [if_pos e1]]; exact RQ.of (.inl rfl) rfl (.cell (bl rfl) rfl rfl rfl ag26 sz26 (bl rfl) rfl rfl .nil) (by simp) rfl (one_out rfl)
  have hc1 := hc; have e1 : ¬ gmod (rawV l k) 8 = 0 := (by simpa using hc1)
  (refine AW.seq_k ?_; intro K hK)
  refine AW.region ?_
  (refine awP (op_eql rfl rfl rfl) ?_)
  refine awP (op_assign rfl rfl) ?_
  refine AWL.nil ?_
  (refine hK _ ?_; clear hK K; (simp only [nA]))
  refine AW.cond rfl rfl rfl (fun hc => ?_) (fun hc => ?_)
  ·
   have hc2 := hc; have e2 : gmod (rawV l k) 8 = 1 := (by simpa using hc2); refine AW.gh (Gh.freezeC (r := 1) (row := [.v (.int .i64 h.number), .v (.int .i64 h.next), .v (.int .i64 h.last), .v (.bool h.offline), .own 75 (h.grants.map Grant.av), .ro (h.conts.map Container.av), .own 33 (h.log.map Op.av)]) 0 4 rfl rfl rfl (gav_flat _) (es2 := [[.v (.int .i64 h.number), .v (.int .i64 h.next), .v (.int .i64 h.last), .v (.bool h.offline), .ro (h.grants.map Grant.av), .ro (h.conts.map Container.av), .own 33 (h.log.map Op.av)]]) rfl) ?_; (simp only [nA, Nat.reduceBEq, Nat.reduceEqDiff, ↓reduceIte, Nat.reduceAdd, Nat.reduceSub]); refine AW.gh (Gh.freezeC (r := 1) (row := [.v (.int .i64 h.number), .v (.int .i64 h.next), .v (.int .i64 h.last), .v (.bool h.offline), .ro (h.grants.map Grant.av), .ro (h.conts.map Container.av), .own 33 (h.log.map Op.av)]) 0 6 rfl rfl rfl (opv_flat _) (es2 := [h.av]) rfl) ?_; (simp only [nA, Nat.reduceBEq, Nat.reduceEqDiff, ↓reduceIte, Nat.reduceAdd, Nat.reduceSub])
   refine AW.region ?_
   refine awP (op_move rfl rfl) ?_
   refine awJ (OpJ.frz (op_buildSlice rfl [(0, iv (-1)), (1, iv 0), (2, iv 1048576), (3, iv 1048577)] (([-1, 0, 1048576, 1048577] : List Int).map iv) Try.underlying27 ze3 rfl (by simp) (fold_dense 1 (([-1, 0, 1048576, 1048577] : List Int).map iv) (iv_len _)) (iv_len _) rfl (bl rfl) (by simp [maxLen])) (iv_flat [-1, 0, 1048576, 1048577]) rfl) ?_; (simp only [nA, ↓reduceIte])
   refine awJ (op_call1 rfl en22 (C22 (xs := [-1, 0, 1048576, 1048577]) hl (by decide) (by decide)) (by exact rfl) (RL.cons .ptr (RL.cons (.base (by exact View.same rfl)) (RL.nil))) (by exact ⟨_, _, _, rfl, rfl, rfl⟩) (by exact rfl) (by exact rfl) (by exact rfl)) ?_; (simp only [nA, Nat.reduceBEq, Nat.reduceEqDiff, ↓reduceIte, Nat.reduceAdd, Nat.reduceSub])
   (refine awP (op_fa_ptr rfl rfl rfl fl26_2 (by exact sz3) (by decide) rfl) ?_)
   refine awJ (op_store rfl rfl rfl rfl rfl rfl sz3 rfl (bl rfl) rfl) ?_; (simp only [nA, ↓reduceIte])
   refine AWL.nil ?_
   simp only [thenE, inBlk, Nat.reduceEqDiff, ↓reduceIte]
   (refine hK _ ?_; clear hK K; (skip))
   (refine AW.seq_k ?_; intro K hK)
   refine AW.region ?_
   (refine awR (op_load_ptr rfl rfl rfl rfl ag26 sz26 (bl rfl) rfl) ?_); (simp only [nA, Nat.reduceBEq, Nat.reduceEqDiff, ↓reduceIte, Nat.reduceAdd, Nat.reduceSub])
   refine awJ (op_store rfl rfl rfl rfl rfl rfl sz26 rfl (bl rfl) rfl) ?_; (simp only [nA, Nat.reduceBEq, Nat.reduceEqDiff, ↓reduceIte, Nat.reduceAdd, Nat.reduceSub])
   refine AWL.nil ?_
   (refine hK _ ?_; clear hK K; (skip))
   skip
   refine AW.ret ?_; rw [show spoiltV l k h = (rawN l (rawN l k), { h with last := pickV l (rawN l k) [-1, 0, 1048576, 1048577] }) by unfold spoiltV; rw [if_neg e1, if_pos e2]]; exact RQ.of (.inl rfl) rfl (.cell (bl rfl) rfl rfl rfl ag26 sz26 (bl rfl) rfl rfl .nil) (by simp) rfl (one_out rfl)
  have hc2 := hc; have e2 : ¬ gmod (rawV l k) 8 = 1 := (by simpa using hc2)
  (refine AW.seq_k ?_; intro K hK)
  refine AW.region ?_
  (refine awP (op_eql rfl rfl rfl) ?_)
  refine awP (op_assign rfl rfl) ?_
  refine AWL.nil ?_
  (refine hK _ ?_; clear hK K; (simp only [nA]))
  refine AW.cond rfl rfl rfl (fun hc => ?_) (fun hc => ?_)
  ·
   have hc3 := hc; have e3 : gmod (rawV l k) 8 = 2 := (by simpa using hc3); refine AW.gh (Gh.freezeC (r := 1) (row := [.v (.int .i64 h.number), .v (.int .i64 h.next), .v (.int .i64 h.last), .v (.bool h.offline), .own 75 (h.grants.map Grant.av), .ro (h.conts.map Container.av), .own 33 (h.log.map Op.av)]) 0 4 rfl rfl rfl (gav_flat _) (es2 := [[.v (.int .i64 h.number), .v (.int .i64 h.next), .v (.int .i64 h.last), .v (.bool h.offline), .ro (h.grants.map Grant.av), .ro (h.conts.map Container.av), .own 33 (h.log.map Op.av)]]) rfl) ?_; (simp only [nA, Nat.reduceBEq, Nat.reduceEqDiff, ↓reduceIte, Nat.reduceAdd, Nat.reduceSub]); refine AW.gh (Gh.freezeC (r := 1) (row := [.v (.int .i64 h.number), .v (.int .i64 h.next), .v (.int .i64 h.last), .v (.bool h.offline), .ro (h.grants.map Grant.av), .ro (h.conts.map Container.av), .own 33 (h.log.map Op.av)]) 0 6 rfl rfl rfl (opv_flat _) (es2 := [h.av]) rfl) ?_; (simp only [nA, Nat.reduceBEq, Nat.reduceEqDiff, ↓reduceIte, Nat.reduceAdd, Nat.reduceSub])
   refine AW.region ?_
   refine awP (op_move rfl rfl) ?_
   refine awJ (OpJ.frz (op_buildSlice rfl [(0, iv 0), (1, iv 1), (2, iv 6), (3, iv 7)] (([0, 1, 6, 7] : List Int).map iv) Try.underlying27 ze3 rfl (by simp) (fold_dense 1 (([0, 1, 6, 7] : List Int).map iv) (iv_len _)) (iv_len _) rfl (bl rfl) (by simp [maxLen])) (iv_flat [0, 1, 6, 7]) rfl) ?_; (simp only [nA, ↓reduceIte])
   refine awJ (op_call1 rfl en22 (C22 (xs := [0, 1, 6, 7]) hl (by decide) (by decide)) (by exact rfl) (RL.cons .ptr (RL.cons (.base (by exact View.same rfl)) (RL.nil))) (by exact ⟨_, _, _, rfl, rfl, rfl⟩) (by exact rfl) (by exact rfl) (by exact rfl)) ?_; (simp only [nA, Nat.reduceBEq, Nat.reduceEqDiff, ↓reduceIte, Nat.reduceAdd, Nat.reduceSub])
   (refine awP (op_fa_ptr rfl rfl rfl fl26_0 (by exact sz3) (by decide) rfl) ?_)
   refine awJ (op_store rfl rfl rfl rfl rfl rfl sz3 rfl (bl rfl) rfl) ?_; (simp only [nA, ↓reduceIte])
   refine AWL.nil ?_
   simp only [thenE, inBlk, Nat.reduceEqDiff, ↓reduceIte]
   (refine hK _ ?_; clear hK K; (skip))
   (refine AW.seq_k ?_; intro K hK)
   refine AW.region ?_
   (refine awR (op_load_ptr rfl rfl rfl rfl ag26 sz26 (bl rfl) rfl) ?_); (simp only [nA, Nat.reduceBEq, Nat.reduceEqDiff, ↓reduceIte, Nat.reduceAdd, Nat.reduceSub])
   refine awJ (op_store rfl rfl rfl rfl rfl rfl sz26 rfl (bl rfl) rfl) ?_; (simp only [nA, Nat.reduceBEq, Nat.reduceEqDiff, ↓reduceIte, Nat.reduceAdd, Nat.reduceSub])
   refine AWL.nil ?_
   (refine hK _ ?_; clear hK K; (skip))
   skip
   refine AW.ret ?_; rw [show spoiltV l k h = (rawN l (rawN l k), { h with number := pickV l (rawN l k) [0, 1, 6, 7] }) by unfold spoiltV; rw [if_neg e1, if_neg e2, if_pos e3]]; exact RQ.of (.inl rfl) rfl (.cell (bl rfl) rfl rfl rfl ag26 sz26 (bl rfl) rfl rfl .nil) (by simp) rfl (one_out rfl)
  have hc3 := hc; have e3 : ¬ gmod (rawV l k) 8 = 2 := (by simpa using hc3)
  (refine AW.seq_k ?_; intro K hK)
  refine AW.region ?_
  (refine awP (op_eql rfl rfl rfl) ?_)
  refine awP (op_assign rfl rfl) ?_
  refine AWL.nil ?_
  (refine hK _ ?_; clear hK K; (simp only [nA]))
  refine AW.cond rfl rfl rfl (fun hc => ?_) (fun hc => ?_)
  ·
   have hc4 := hc; have e4 : gmod (rawV l k) 8 = 3 := (by simpa using hc4); refine AW.gh (Gh.freezeC (r := 1) (row := [.v (.int .i64 h.number), .v (.int .i64 h.next), .v (.int .i64 h.last), .v (.bool h.offline), .own 75 (h.grants.map Grant.av), .ro (h.conts.map Container.av), .own 33 (h.log.map Op.av)]) 0 4 rfl rfl rfl (gav_flat _) (es2 := [[.v (.int .i64 h.number), .v (.int .i64 h.next), .v (.int .i64 h.last), .v (.bool h.offline), .ro (h.grants.map Grant.av), .ro (h.conts.map Container.av), .own 33 (h.log.map Op.av)]]) rfl) ?_; (simp only [nA, Nat.reduceBEq, Nat.reduceEqDiff, ↓reduceIte, Nat.reduceAdd, Nat.reduceSub]); refine AW.gh (Gh.freezeC (r := 1) (row := [.v (.int .i64 h.number), .v (.int .i64 h.next), .v (.int .i64 h.last), .v (.bool h.offline), .ro (h.grants.map Grant.av), .ro (h.conts.map Container.av), .own 33 (h.log.map Op.av)]) 0 6 rfl rfl rfl (opv_flat _) (es2 := [h.av]) rfl) ?_; (simp only [nA, Nat.reduceBEq, Nat.reduceEqDiff, ↓reduceIte, Nat.reduceAdd, Nat.reduceSub])
   refine AW.region ?_
   (refine awP (op_fa_ptr rfl rfl rfl fl26_3 (by exact sz4) (by decide) rfl) ?_)
   (refine awR (op_load_ptr1 rfl rfl rfl rfl ag4 rfl rfl) ?_)
   refine awP (op_not rfl rfl rfl) ?_
   (refine awP (op_fa_ptr rfl rfl rfl fl26_3 (by exact sz4) (by decide) rfl) ?_)
   refine awJ (op_store rfl rfl rfl rfl rfl rfl sz4 rfl (bl rfl) rfl) ?_; (simp only [nA, ↓reduceIte])
   refine AWL.nil ?_
   simp only [thenE, inBlk, Nat.reduceEqDiff, ↓reduceIte]
   (refine hK _ ?_; clear hK K; (skip))
   (refine AW.seq_k ?_; intro K hK)
   refine AW.region ?_
   (refine awR (op_load_ptr rfl rfl rfl rfl ag26 sz26 (bl rfl) rfl) ?_); (simp only [nA, Nat.reduceBEq, Nat.reduceEqDiff, ↓reduceIte, Nat.reduceAdd, Nat.reduceSub])
   refine awJ (op_store rfl rfl rfl rfl rfl rfl sz26 rfl (bl rfl) rfl) ?_; (simp only [nA, Nat.reduceBEq, Nat.reduceEqDiff, ↓reduceIte, Nat.reduceAdd, Nat.reduceSub])
   refine AWL.nil ?_
   (refine hK _ ?_; clear hK K; (skip))
   skip
   refine AW.ret ?_; rw [show spoiltV l k h = ((rawN l k), { h with offline := !h.offline }) by unfold spoiltV; rw [if_neg e1, if_neg e2, if_neg e3, if_pos e4]]; exact RQ.of (.inl rfl) rfl (.cell (bl rfl) rfl rfl rfl ag26 sz26 (bl rfl) rfl rfl .nil) (by simp) rfl (one_out rfl)
  have hc4 := hc; have e4 : ¬ gmod (rawV l k) 8 = 3 := (by simpa using hc4)
  (refine AW.seq_k ?_; intro K hK)
  refine AW.region ?_
  (refine awP (op_eql rfl rfl rfl) ?_)
  refine awP (op_assign rfl rfl) ?_
  refine AWL.nil ?_
  (refine hK _ ?_; clear hK K; (simp only [nA]))
  refine AW.cond rfl rfl rfl (fun hc => ?_) (fun hc => ?_)
  ·
   have hc5 := hc; have e5 : gmod (rawV l k) 8 = 4 := (by simpa using hc5); refine AW.gh (Gh.freezeC (r := 1) (row := [.v (.int .i64 h.number), .v (.int .i64 h.next), .v (.int .i64 h.last), .v (.bool h.offline), .own 75 (h.grants.map Grant.av), .ro (h.conts.map Container.av), .own 33 (h.log.map Op.av)]) 0 6 rfl rfl rfl (opv_flat _) (es2 := [[.v (.int .i64 h.number), .v (.int .i64 h.next), .v (.int .i64 h.last), .v (.bool h.offline), .own 75 (h.grants.map Grant.av), .ro (h.conts.map Container.av), .ro (h.log.map Op.av)]]) rfl) ?_; (simp only [nA, Nat.reduceBEq, Nat.reduceEqDiff, ↓reduceIte, Nat.reduceAdd, Nat.reduceSub])
   refine AW.ghE (GhE.unnest (r := 1) (row := [.v (.int .i64 h.number), .v (.int .i64 h.next), .v (.int .i64 h.last), .v (.bool h.offline), .own 75 (h.grants.map Grant.av), .ro (h.conts.map Container.av), .ro (h.log.map Op.av)]) 0 4 rfl rfl rfl) ?_; intro u hu; (simp only [nA, Nat.reduceBEq, Nat.reduceEqDiff, ↓reduceIte, Nat.reduceAdd, Nat.reduceSub])
   refine AW.aeo (fun T' => T'.slots[1]? = some (1, .own 26 [[.v (.int .i64 h.number), .v (.int .i64 h.next), .v (.int .i64 h.last), .v (.bool h.offline), .v u, .ro (h.conts.map Container.av), .ro (h.log.map Op.av)]])) mix rfl ?_
   refine aePo 0 rfl (fun T' ok => op_fa_ptr rfl rfl ok fl26_4 (by exact sz22) (by decide) rfl) rfl (by kernel_rfl) (by kernel_rfl) ?_
   refine aeRo 1 rfl (fun T' ok => op_load_ptr1 (row := [.v (.int .i64 h.number), .v (.int .i64 h.next), .v (.int .i64 h.last), .v (.bool h.offline), .v u, .ro (h.conts.map Container.av), .ro (h.log.map Op.av)]) rfl rfl ok rfl ag22 rfl rfl) rfl (by kernel_rfl) (by kernel_rfl) ?_
   refine aePo 2 rfl (fun T' ok => op_move rfl rfl) rfl (by kernel_rfl) (by kernel_rfl) ?_
   refine aeJo 3 rfl (op_call1 rfl en23 (C23 (l := l) (k := (rawN l k)) (n := 9) hl (by decide)) (by exact rfl) (RL.cons .ptr (RL.cons (.base (by exact View.same rfl)) (RL.nil))) (by exact ⟨_, _, _, rfl, rfl, rfl⟩) (by exact rfl) (by exact rfl) (by exact rfl)) (by kernel_rfl) rfl ?_; (simp only [nA, Nat.reduceBEq, Nat.reduceEqDiff, ↓reduceIte])
   refine aeFo 4 rfl (fun T' ok => op_callS rfl en45 C45_1 (RL.cons (by exact View.same rfl) (RL.nil)) rfl rfl rfl) rfl (by kernel_rfl) (by kernel_rfl) ?_; (simp only [nA, Nat.reduceBEq, Nat.reduceEqDiff, ↓reduceIte, Nat.reduceAdd, Nat.reduceSub])
   refine aePo 5 rfl (fun T' ok => op_build2 (xs := [_, _, _, _, _, _, _, _, _]) rfl pl75 ze75 [(0, [_, _, _, _, _]), (1, [_, _, _, _])] rfl rfl rfl) rfl (by kernel_rfl) (by kernel_rfl) ?_
   refine aeFo 6 rfl (fun T' ok => OpJ.frz (op_buildSlice rfl [(0, ((⟨pieceV l (rawN l k) 9, flightN 1⟩ : Grant)).av)] [((⟨pieceV l (rawN l k) 9, flightN 1⟩ : Grant)).av] Try.underlying22 ze75 rfl (by simp) rfl (by simp) rfl (bl rfl) (by simp [maxLen])) (gav_flat [(⟨pieceV l (rawN l k) 9, flightN 1⟩ : Grant)]) rfl) rfl (by kernel_rfl) (by kernel_rfl) ?_; (simp only [nA, Nat.reduceBEq, Nat.reduceEqDiff, ↓reduceIte, Nat.reduceAdd, Nat.reduceSub])
   refine aeJo 7 rfl (OpJ.nm (t := 55) (r := 3) rfl rfl (op_app (rows := [((⟨pieceV l (rawN l k) 9, flightN 1⟩ : Grant)).av]) rfl rfl rfl rfl (by simp) .ro Try.underlying22 ze75 (by decide) (gav_len [(⟨pieceV l (rawN l k) 9, flightN 1⟩ : Grant)]) (by simp; omega) (by decide) (es' := (h.grants ++ [(⟨pieceV l (rawN l k) 9, flightN 1⟩ : Grant)]).map Grant.av) (by simp) (n := (h.grants ++ [(⟨pieceV l (rawN l k) 9, flightN 1⟩ : Grant)]).length) (by simp))) (by kernel_rfl) rfl ?_; (simp only [nA, Nat.reduceBEq, Nat.reduceEqDiff, ↓reduceIte, Nat.reduceAdd, Nat.reduceSub])
   refine aePo 8 rfl (fun T' ok => op_fa_ptr rfl rfl ok fl26_4 (by exact sz22) (by decide) rfl) rfl (by kernel_rfl) (by kernel_rfl) ?_
   refine aeLo 9 rfl (op_store_nest (r := 1) (q := 3) rfl rfl rfl rfl (row := [.v (.int .i64 h.number), .v (.int .i64 h.next), .v (.int .i64 h.last), .v (.bool h.offline), .v u, .ro (h.conts.map Container.av), .ro (h.log.map Op.av)]) rfl sz22 rfl (by decide) (by simp) (by simp) (es2 := [[.v (.int .i64 h.number), .v (.int .i64 h.next), .v (.int .i64 h.last), .v (.bool h.offline), .own 75 ((h.grants ++ [(⟨pieceV l (rawN l k) 9, flightN 1⟩ : Grant)]).map Grant.av), .ro (h.conts.map Container.av), .ro (h.log.map Op.av)]]) rfl) (by kernel_rfl) (by kernel_rfl) ?_; (simp only [nA, Nat.reduceBEq, Nat.reduceEqDiff, ↓reduceIte, Nat.reduceAdd, Nat.reduceSub])
   refine aeDoneo (by kernel_rfl) ?_
   simp only [thenE, inBlk, Nat.reduceEqDiff, ↓reduceIte]
   (refine hK _ ?_; clear hK K; (skip))
   (refine AW.seq_k ?_; intro K hK)
   refine AW.region ?_
   refine AWL.gh (Gh.freezeC (r := 1) (row := [.v (.int .i64 h.number), .v (.int .i64 h.next), .v (.int .i64 h.last), .v (.bool h.offline), .own 75 ((h.grants ++ [(⟨pieceV l (rawN l k) 9, flightN 1⟩ : Grant)]).map Grant.av), .ro (h.conts.map Container.av), .ro (h.log.map Op.av)]) 0 4 rfl rfl rfl (gav_flat _) (es2 := [[.v (.int .i64 h.number), .v (.int .i64 h.next), .v (.int .i64 h.last), .v (.bool h.offline), .ro ((h.grants ++ [(⟨pieceV l (rawN l k) 9, flightN 1⟩ : Grant)]).map Grant.av), .ro (h.conts.map Container.av), .ro (h.log.map Op.av)]]) rfl) ?_; (simp only [nA, Nat.reduceBEq, Nat.reduceEqDiff, ↓reduceIte, Nat.reduceAdd, Nat.reduceSub]); (refine awR (op_load_ptr rfl rfl rfl rfl ag26 sz26 (bl rfl) rfl) ?_); (simp only [nA, Nat.reduceBEq, Nat.reduceEqDiff, ↓reduceIte, Nat.reduceAdd, Nat.reduceSub])
   refine awJ (op_store rfl rfl rfl rfl rfl rfl sz26 rfl (bl rfl) rfl) ?_; (simp only [nA, Nat.reduceBEq, Nat.reduceEqDiff, ↓reduceIte, Nat.reduceAdd, Nat.reduceSub])
   refine AWL.nil ?_
   (refine hK _ ?_; clear hK K; (skip))
   skip
   refine AW.ret ?_; rw [show spoiltV l k h = (nx3 l (rawN l k), { h with grants := h.grants ++ [(⟨pieceV l (rawN l k) 9, flightN 1⟩ : Grant)] }) by unfold spoiltV; rw [if_neg e1, if_neg e2, if_neg e3, if_neg e4, if_pos e5]]; exact RQ.of (.inl rfl) rfl (.cell (bl rfl) rfl rfl rfl ag26 sz26 (bl rfl) rfl rfl .nil) (by simp) rfl (one_out rfl)
  have hc5 := hc; have e5 : ¬ gmod (rawV l k) 8 = 4 := (by simpa using hc5)
  (refine AW.seq_k ?_; intro K hK)
  refine AW.region ?_
  (refine awP (op_eql rfl rfl rfl) ?_)
  refine awP (op_assign rfl rfl) ?_
  refine AWL.nil ?_
  (refine hK _ ?_; clear hK K; (simp only [nA]))
  refine AW.cond rfl rfl rfl (fun hc => ?_) (fun hc => ?_)
  ·
   have hc6 := hc; have e6 : gmod (rawV l k) 8 = 5 := (by simpa using hc6); refine AW.gh (Gh.freezeC (r := 1) (row := [.v (.int .i64 h.number), .v (.int .i64 h.next), .v (.int .i64 h.last), .v (.bool h.offline), .own 75 (h.grants.map Grant.av), .ro (h.conts.map Container.av), .own 33 (h.log.map Op.av)]) 0 4 rfl rfl rfl (gav_flat _) (es2 := [[.v (.int .i64 h.number), .v (.int .i64 h.next), .v (.int .i64 h.last), .v (.bool h.offline), .ro (h.grants.map Grant.av), .ro (h.conts.map Container.av), .own 33 (h.log.map Op.av)]]) rfl) ?_; (simp only [nA, Nat.reduceBEq, Nat.reduceEqDiff, ↓reduceIte, Nat.reduceAdd, Nat.reduceSub]); refine AW.gh (Gh.freezeC (r := 1) (row := [.v (.int .i64 h.number), .v (.int .i64 h.next), .v (.int .i64 h.last), .v (.bool h.offline), .ro (h.grants.map Grant.av), .ro (h.conts.map Container.av), .own 33 (h.log.map Op.av)]) 0 6 rfl rfl rfl (opv_flat _) (es2 := [h.av]) rfl) ?_; (simp only [nA, Nat.reduceBEq, Nat.reduceEqDiff, ↓reduceIte, Nat.reduceAdd, Nat.reduceSub])
   (refine AW.seq_k ?_; intro K hK)
   refine AW.region ?_
   (refine awP (op_fa_ptr rfl rfl rfl fl26_6 (by exact sz24) (by decide) rfl) ?_)
   (refine awR (op_load_ptr1 rfl rfl rfl rfl ag24 rfl rfl) ?_)
   refine awP (op_len_ro (n := h.log.length) rfl rfl Try.underlying24 (.inr (.inl ⟨_, rfl, by simp⟩))) ?_
   refine awP (op_gtr rfl rfl rfl) ?_
   refine AWL.nil ?_
   (refine hK _ ?_; clear hK K; (simp only [nA, Nat.reduceBEq, Nat.reduceEqDiff, ↓reduceIte, Nat.reduceAdd, Nat.reduceSub]))
   refine AW.cond rfl rfl rfl (fun hc => ?_) (fun hc => ?_)
   ·
    have hc7 := hc; have h7 : 0 < h.log.length := (by simpa using hc7)
    refine AW.region ?_
    (refine awP (op_fa_ptr rfl rfl rfl fl26_6 (by exact sz24) (by decide) rfl) ?_)
    (refine awR (op_load_ptr1 rfl rfl rfl rfl ag24 rfl rfl) ?_)
    (refine awP (op_fa_ptr rfl rfl rfl fl26_6 (by exact sz24) (by decide) rfl) ?_)
    (refine awR (op_load_ptr1 rfl rfl rfl rfl ag24 rfl rfl) ?_)
    refine awP (op_len_ro (n := h.log.length) rfl rfl Try.underlying24 (.inr (.inl ⟨_, rfl, by simp⟩))) ?_
    (refine awP (op_subi rfl rfl rfl (by omega)) ?_)
    refine awP (op_slice_ro 0 (h.log.length - 1) rfl (.inl rfl) (by exact rfl) (by exact ⟨_, by show AV.v (.int .i64 ((h.log.length : Int) - 1)) = AV.v (.int .i64 ((h.log.length - 1 : Nat) : Int)); rw [show ((h.log.length - 1 : Nat) : Int) = (h.log.length : Int) - 1 from by omega]⟩) (Nat.zero_le _) (by simp) Try.underlying24 sz33 (opv_len _) (es' := (h.log.take (h.log.length - 1)).map Op.av) (by simp [List.map_take])) ?_; (simp only [nA, Nat.reduceBEq, Nat.reduceEqDiff, ↓reduceIte, Nat.reduceAdd, Nat.reduceSub])
    (refine awP (op_fa_ptr rfl rfl rfl fl26_6 (by exact sz24) (by decide) rfl) ?_)
    refine awJ (op_store rfl rfl rfl rfl rfl rfl sz24 rfl (bl rfl) rfl) ?_; (simp only [nA, ↓reduceIte])
    refine AWL.nil ?_
    simp only [thenE, inBlk, Nat.reduceEqDiff, ↓reduceIte]
    (refine hK _ ?_; clear hK K; (skip))
    (refine AW.seq_k ?_; intro K hK)
    refine AW.region ?_
    (refine awR (op_load_ptr rfl rfl rfl rfl ag26 sz26 (bl rfl) rfl) ?_); (simp only [nA, Nat.reduceBEq, Nat.reduceEqDiff, ↓reduceIte, Nat.reduceAdd, Nat.reduceSub])
    refine awJ (op_store rfl rfl rfl rfl rfl rfl sz26 rfl (bl rfl) rfl) ?_; (simp only [nA, Nat.reduceBEq, Nat.reduceEqDiff, ↓reduceIte, Nat.reduceAdd, Nat.reduceSub])
    refine AWL.nil ?_
    (refine hK _ ?_; clear hK K; (skip))
    skip
    refine AW.ret ?_; rw [show spoiltV l k h = ((rawN l k), { h with log := h.log.take (h.log.length - 1) }) by unfold spoiltV; rw [if_neg e1, if_neg e2, if_neg e3, if_neg e4, if_neg e5, if_pos e6]]; exact RQ.of (.inl rfl) rfl (.cell (bl rfl) rfl rfl rfl ag26 sz26 (bl rfl) rfl rfl .nil) (by simp) rfl (one_out rfl)
   have hc7 := hc; have h7 : h.log.length = 0 := (by simpa using hc7)
   refine AW.skip ?_
   simp only [thenE, inBlk, Nat.reduceEqDiff, ↓reduceIte]
   (refine hK _ ?_; clear hK K; (skip))
   (refine AW.seq_k ?_; intro K hK)
   refine AW.region ?_
   (refine awR (op_load_ptr rfl rfl rfl rfl ag26 sz26 (bl rfl) rfl) ?_); (simp only [nA, Nat.reduceBEq, Nat.reduceEqDiff, ↓reduceIte, Nat.reduceAdd, Nat.reduceSub])
   refine awJ (op_store rfl rfl rfl rfl rfl rfl sz26 rfl (bl rfl) rfl) ?_; (simp only [nA, Nat.reduceBEq, Nat.reduceEqDiff, ↓reduceIte, Nat.reduceAdd, Nat.reduceSub])
   refine AWL.nil ?_
   (refine hK _ ?_; clear hK K; (skip))
   skip
   refine AW.ret ?_; rw [show spoiltV l k h = ((rawN l k), h) by unfold spoiltV; rw [if_neg e1, if_neg e2, if_neg e3, if_neg e4, if_neg e5, if_pos e6]; rw [show h.log.take (h.log.length - 1) = h.log by rw [List.eq_nil_of_length_eq_zero h7]; rfl]]; exact RQ.of (.inl rfl) rfl (.cell (bl rfl) rfl rfl rfl ag26 sz26 (bl rfl) rfl rfl .nil) (by simp) rfl (one_out rfl)
  have hc6 := hc; have e6 : ¬ gmod (rawV l k) 8 = 5 := (by simpa using hc6)
  (refine AW.seq_k ?_; intro K hK)
  refine AW.region ?_
  (refine awP (op_eql rfl rfl rfl) ?_)
  refine awP (op_assign rfl rfl) ?_
  refine AWL.nil ?_
  (refine hK _ ?_; clear hK K; (simp only [nA]))
  refine AW.cond rfl rfl rfl (fun hc => ?_) (fun hc => ?_)
  ·
   have hc8 := hc; have e8 : gmod (rawV l k) 8 = 6 := (by simpa using hc8); refine AW.gh (Gh.freezeC (r := 1) (row := [.v (.int .i64 h.number), .v (.int .i64 h.next), .v (.int .i64 h.last), .v (.bool h.offline), .own 75 (h.grants.map Grant.av), .ro (h.conts.map Container.av), .own 33 (h.log.map Op.av)]) 0 4 rfl rfl rfl (gav_flat _) (es2 := [[.v (.int .i64 h.number), .v (.int .i64 h.next), .v (.int .i64 h.last), .v (.bool h.offline), .ro (h.grants.map Grant.av), .ro (h.conts.map Container.av), .own 33 (h.log.map Op.av)]]) rfl) ?_; (simp only [nA, Nat.reduceBEq, Nat.reduceEqDiff, ↓reduceIte, Nat.reduceAdd, Nat.reduceSub]); refine AW.ghE (GhE.unnest (r := 1) (row := [.v (.int .i64 h.number), .v (.int .i64 h.next), .v (.int .i64 h.last), .v (.bool h.offline), .ro (h.grants.map Grant.av), .ro (h.conts.map Container.av), .own 33 (h.log.map Op.av)]) 0 6 rfl rfl rfl) ?_; intro u hu; (simp only [nA, Nat.reduceBEq, Nat.reduceEqDiff, ↓reduceIte, Nat.reduceAdd, Nat.reduceSub]); refine AW.pure (fun a w hs => St.len hs (r := 3) rfl (n := h.log.length) (by simp)) ?_; rintro ⟨A, cp, rfl⟩
   (refine AW.seq_k ?_; intro K hK)
   refine AW.region ?_
   (refine awP (op_fa_ptr rfl rfl rfl fl26_6 (by exact sz24) (by decide) rfl) ?_)
   (refine awR (op_load_ptr1 rfl rfl rfl rfl ag24 rfl rfl) ?_)
   refine awP (op_len_v rfl rfl Try.underlying24) ?_
   refine awP (op_gtr rfl rfl rfl) ?_
   refine AWL.nil ?_
   (refine hK _ ?_; clear hK K; (simp only [nA, Nat.reduceBEq, Nat.reduceEqDiff, ↓reduceIte, Nat.reduceAdd, Nat.reduceSub]))
   refine AW.cond rfl rfl rfl (fun hc => ?_) (fun hc => ?_)
   ·
    have hc9 := hc; have h9 : 0 < h.log.length := (by simpa using hc9); refine AW.pure (fun a w hs => (St.shape hs (r := 3) rfl).2 (by simpa using h9)) ?_; rintro ⟨g, cp', he⟩; injection he with he1 he2 he3; subst he1; subst he3; have hix := idxV_lt l (rawN l k) h9
    refine AW.ado (fun T' => T'.slots[1]? = some (1, .own 26 [[.v (.int .i64 h.number), .v (.int .i64 h.next), .v (.int .i64 h.last), .v (.bool h.offline), .ro (h.grants.map Grant.av), .ro (h.conts.map Container.av), .v (slv g h.log.length cp)]])) mix rfl ?_
    refine adPo 0 rfl (fun T' ok => op_fa_ptr rfl rfl ok fl26_6 (by exact sz24) (by decide) rfl) rfl (by kernel_rfl) (by kernel_rfl) ?_; (simp only [nA, Nat.reduceBEq, Nat.reduceEqDiff, ↓reduceIte])
    refine adRo 1 rfl (fun T' ok => op_load_ptr1 (row := [.v (.int .i64 h.number), .v (.int .i64 h.next), .v (.int .i64 h.last), .v (.bool h.offline), .ro (h.grants.map Grant.av), .ro (h.conts.map Container.av), .v (slv g h.log.length cp)]) rfl rfl ok rfl ag24 rfl rfl) rfl (by kernel_rfl) (by kernel_rfl) ?_; (simp only [nA, Nat.reduceBEq, Nat.reduceEqDiff, ↓reduceIte, Nat.reduceAdd, Nat.reduceSub])
    refine adPo 2 rfl (fun T' ok => op_move rfl rfl) rfl (by kernel_rfl) (by kernel_rfl) ?_; (simp only [nA, ↓reduceIte])
    refine adPo 3 rfl (fun T' ok => op_fa_ptr rfl rfl ok fl26_6 (by exact sz24) (by decide) rfl) rfl (by kernel_rfl) (by kernel_rfl) ?_; (simp only [nA, Nat.reduceBEq, Nat.reduceEqDiff, ↓reduceIte, Nat.reduceAdd, Nat.reduceSub])
    refine adRo 4 rfl (fun T' ok => op_load_ptr1 (row := [.v (.int .i64 h.number), .v (.int .i64 h.next), .v (.int .i64 h.last), .v (.bool h.offline), .ro (h.grants.map Grant.av), .ro (h.conts.map Container.av), .v (slv g h.log.length cp)]) rfl rfl ok rfl ag24 rfl rfl) rfl (by kernel_rfl) (by kernel_rfl) ?_; (simp only [nA, Nat.reduceBEq, Nat.reduceEqDiff, ↓reduceIte, Nat.reduceAdd, Nat.reduceSub])
    refine adPo 5 rfl (fun T' ok => op_len_v rfl rfl Try.underlying24) rfl (by kernel_rfl) (by kernel_rfl) ?_; (simp only [nA, Nat.reduceBEq, Nat.reduceEqDiff, ↓reduceIte, Nat.reduceAdd, Nat.reduceSub])
    refine adPo 7 rfl (fun T' ok => op_move rfl rfl) rfl (by kernel_rfl) (by kernel_rfl) ?_; (simp only [nA, ↓reduceIte])
    refine adJo 6 rfl (op_call1 rfl en12 (C12n (n := h.log.length) hl (by omega) (by omega)) (by exact rfl) (RL.cons .ptr (RL.cons (.base (by exact View.same rfl)) (RL.nil))) (by exact ⟨_, _, _, rfl, rfl, rfl⟩) (by exact rfl) (by exact rfl) (by exact rfl)) (by kernel_rfl) rfl ?_; (simp only [nA, Nat.reduceBEq, Nat.reduceEqDiff, ↓reduceIte, Nat.reduceAdd, Nat.reduceSub])
    refine adJo 8 rfl (op_call1 rfl en12 (C12 (n := 20) hl (by decide)) (by exact rfl) (RL.cons .ptr (RL.cons (.base (by exact View.same rfl)) (RL.nil))) (by exact ⟨_, _, _, rfl, rfl, rfl⟩) (by exact rfl) (by exact rfl) (by exact rfl)) (by kernel_rfl) rfl ?_; (simp only [nA, Nat.reduceBEq, Nat.reduceEqDiff, ↓reduceIte, Nat.reduceAdd, Nat.reduceSub])
    refine adPo 9 rfl (fun T' ok => op_ia_v (idxV l (rawN l k) h.log.length) 10 rfl rfl rfl Try.underlying24 rfl hix (by exact sz33) rfl) rfl (by kernel_rfl) (by kernel_rfl) ?_; (simp only [nA, Nat.reduceBEq, Nat.reduceEqDiff, ↓reduceIte, Nat.reduceAdd, Nat.reduceSub])
    refine adPo 10 rfl (fun T' ok => op_fa_v rfl rfl fl33_0 (by exact sz3) (by decide) rfl) rfl (by kernel_rfl) (by kernel_rfl) ?_; (simp only [nA, Nat.reduceBEq, Nat.reduceEqDiff, ↓reduceIte, Nat.reduceAdd, Nat.reduceSub])
    refine adJo 11 rfl (op_store_v (r := 3) (i := (idxV l (rawN l k) h.log.length)) (q := 0) _ rfl rfl rfl rfl (get_mapD hix) rfl sz3 rfl (by exact sz33) rfl (by simp) (es' := (setT h.log (idxV l (rawN l k) h.log.length) (gmod (rawV l (rawN l (rawN l k))) 20)).map Op.av) setT_av rfl) (by kernel_rfl) rfl ?_; (simp only [nA, Nat.reduceBEq, Nat.reduceEqDiff, ↓reduceIte, Nat.reduceAdd, Nat.reduceSub])
    refine adDoneo (by kernel_rfl) ?_
    simp only [thenE, inBlk, Nat.reduceEqDiff, ↓reduceIte]
    (refine hK _ ?_; clear hK K; (skip))
    (refine AW.seq_k ?_; intro K hK)
    refine AW.region ?_
    refine AWL.gh (Gh.nest (r := 1) (q := 3) (row := [.v (.int .i64 h.number), .v (.int .i64 h.next), .v (.int .i64 h.last), .v (.bool h.offline), .ro (h.grants.map Grant.av), .ro (h.conts.map Container.av), .v (slv g h.log.length cp)]) 0 6 rfl rfl rfl rfl (by decide) (es2 := [[.v (.int .i64 h.number), .v (.int .i64 h.next), .v (.int .i64 h.last), .v (.bool h.offline), .ro (h.grants.map Grant.av), .ro (h.conts.map Container.av), .own 33 ((setT h.log (idxV l (rawN l k) h.log.length) (gmod (rawV l (rawN l (rawN l k))) 20)).map Op.av)]]) rfl) ?_; (simp only [nA, Nat.reduceBEq, Nat.reduceEqDiff, ↓reduceIte, Nat.reduceAdd, Nat.reduceSub]); refine AWL.gh (Gh.freezeC (r := 1) (row := [.v (.int .i64 h.number), .v (.int .i64 h.next), .v (.int .i64 h.last), .v (.bool h.offline), .ro (h.grants.map Grant.av), .ro (h.conts.map Container.av), .own 33 ((setT h.log (idxV l (rawN l k) h.log.length) (gmod (rawV l (rawN l (rawN l k))) 20)).map Op.av)]) 0 6 rfl rfl rfl (opv_flat _) (es2 := [[.v (.int .i64 h.number), .v (.int .i64 h.next), .v (.int .i64 h.last), .v (.bool h.offline), .ro (h.grants.map Grant.av), .ro (h.conts.map Container.av), .ro ((setT h.log (idxV l (rawN l k) h.log.length) (gmod (rawV l (rawN l (rawN l k))) 20)).map Op.av)]]) rfl) ?_; (simp only [nA, Nat.reduceBEq, Nat.reduceEqDiff, ↓reduceIte, Nat.reduceAdd, Nat.reduceSub]); (refine awR (op_load_ptr rfl rfl rfl rfl ag26 sz26 (bl rfl) rfl) ?_); (simp only [nA, Nat.reduceBEq, Nat.reduceEqDiff, ↓reduceIte, Nat.reduceAdd, Nat.reduceSub])
    refine awJ (op_store rfl rfl rfl rfl rfl rfl sz26 rfl (bl rfl) rfl) ?_; (simp only [nA, Nat.reduceBEq, Nat.reduceEqDiff, ↓reduceIte, Nat.reduceAdd, Nat.reduceSub])
    refine AWL.nil ?_
    (refine hK _ ?_; clear hK K; (skip))
    skip
    refine AW.ret ?_; rw [show spoiltV l k h = (rawN l (rawN l (rawN l k)), { h with log := setT h.log (idxV l (rawN l k) h.log.length) (gmod (rawV l (rawN l (rawN l k))) 20) }) by unfold spoiltV; rw [if_neg e1, if_neg e2, if_neg e3, if_neg e4, if_neg e5, if_neg e6, if_pos e8]; rw [if_neg (by omega)]]; exact RQ.of (.inl rfl) rfl (.cell (bl rfl) rfl rfl rfl ag26 sz26 (bl rfl) rfl rfl .nil) (by simp) rfl (one_out rfl)
   have hc9 := hc; have h9 : h.log.length = 0 := (by simpa using hc9)
   refine AW.skip ?_
   simp only [thenE, inBlk, Nat.reduceEqDiff, ↓reduceIte]
   (refine hK _ ?_; clear hK K; (skip))
   (refine AW.seq_k ?_; intro K hK)
   refine AW.region ?_
   refine AWL.gh (Gh.nest (r := 1) (q := 3) (row := [.v (.int .i64 h.number), .v (.int .i64 h.next), .v (.int .i64 h.last), .v (.bool h.offline), .ro (h.grants.map Grant.av), .ro (h.conts.map Container.av), .v (.slice A h.log.length cp)]) 0 6 rfl rfl rfl rfl (by decide) (es2 := [[.v (.int .i64 h.number), .v (.int .i64 h.next), .v (.int .i64 h.last), .v (.bool h.offline), .ro (h.grants.map Grant.av), .ro (h.conts.map Container.av), .own 33 (h.log.map Op.av)]]) rfl) ?_; (simp only [nA, Nat.reduceBEq, Nat.reduceEqDiff, ↓reduceIte, Nat.reduceAdd, Nat.reduceSub]); refine AWL.gh (Gh.freezeC (r := 1) (row := [.v (.int .i64 h.number), .v (.int .i64 h.next), .v (.int .i64 h.last), .v (.bool h.offline), .ro (h.grants.map Grant.av), .ro (h.conts.map Container.av), .own 33 (h.log.map Op.av)]) 0 6 rfl rfl rfl (opv_flat _) (es2 := [h.av]) rfl) ?_; (simp only [nA, Nat.reduceBEq, Nat.reduceEqDiff, ↓reduceIte, Nat.reduceAdd, Nat.reduceSub]); (refine awR (op_load_ptr rfl rfl rfl rfl ag26 sz26 (bl rfl) rfl) ?_); (simp only [nA, Nat.reduceBEq, Nat.reduceEqDiff, ↓reduceIte, Nat.reduceAdd, Nat.reduceSub])
   refine awJ (op_store rfl rfl rfl rfl rfl rfl sz26 rfl (bl rfl) rfl) ?_; (simp only [nA, Nat.reduceBEq, Nat.reduceEqDiff, ↓reduceIte, Nat.reduceAdd, Nat.reduceSub])
   refine AWL.nil ?_
   (refine hK _ ?_; clear hK K; (skip))
   skip
   refine AW.ret ?_; rw [show spoiltV l k h = ((rawN l k), h) by unfold spoiltV; rw [if_neg e1, if_neg e2, if_neg e3, if_neg e4, if_neg e5, if_neg e6, if_pos e8]; rw [if_pos h9]]; exact RQ.of (.inl rfl) rfl (.cell (bl rfl) rfl rfl rfl ag26 sz26 (bl rfl) rfl rfl .nil) (by simp) rfl (one_out rfl)
  have hc8 := hc; have e8 : ¬ gmod (rawV l k) 8 = 6 := (by simpa using hc8); refine AW.gh (Gh.freezeC (r := 1) (row := [.v (.int .i64 h.number), .v (.int .i64 h.next), .v (.int .i64 h.last), .v (.bool h.offline), .own 75 (h.grants.map Grant.av), .ro (h.conts.map Container.av), .own 33 (h.log.map Op.av)]) 0 4 rfl rfl rfl (gav_flat _) (es2 := [[.v (.int .i64 h.number), .v (.int .i64 h.next), .v (.int .i64 h.last), .v (.bool h.offline), .ro (h.grants.map Grant.av), .ro (h.conts.map Container.av), .own 33 (h.log.map Op.av)]]) rfl) ?_; (simp only [nA, Nat.reduceBEq, Nat.reduceEqDiff, ↓reduceIte, Nat.reduceAdd, Nat.reduceSub]); refine AW.gh (Gh.freezeC (r := 1) (row := [.v (.int .i64 h.number), .v (.int .i64 h.next), .v (.int .i64 h.last), .v (.bool h.offline), .ro (h.grants.map Grant.av), .ro (h.conts.map Container.av), .own 33 (h.log.map Op.av)]) 0 6 rfl rfl rfl (opv_flat _) (es2 := [h.av]) rfl) ?_; (simp only [nA, Nat.reduceBEq, Nat.reduceEqDiff, ↓reduceIte, Nat.reduceAdd, Nat.reduceSub])
  refine AW.region ?_
  refine awJ (op_buildSlice rfl [] [] Try.underlying23 ze77 rfl (by simp) rfl (by simp) rfl (bl rfl) (by simp [maxLen])) ?_; (simp only [nA, Nat.reduceBEq, Nat.reduceEqDiff, ↓reduceIte])
  (refine awP (op_fa_ptr rfl rfl rfl fl26_5 (by exact sz23) (by decide) rfl) ?_)
  (refine awR (op_load_ptr1 rfl rfl rfl rfl ag23 rfl rfl) ?_)
  refine awJ (op_app (rows := (h.conts.map Container.av)) rfl rfl rfl rfl rfl .ro Try.underlying23 ze77 (by decide) (conv_len _) (by simp; omega) (by decide) (List.nil_append _) (n := h.conts.length) (by simp)) ?_; (simp only [nA, Nat.reduceBEq, Nat.reduceEqDiff, ↓reduceIte, Nat.reduceAdd, Nat.reduceSub])
  refine awP (op_move rfl rfl) ?_
  refine awJ (op_call1 rfl en12 (C12 (n := 9) hl (by decide)) (by exact rfl) (RL.cons .ptr (RL.cons (.base (by exact View.same rfl)) (RL.nil))) (by exact ⟨_, _, _, rfl, rfl, rfl⟩) (by exact rfl) (by exact rfl) (by exact rfl)) ?_; (simp only [nA, ↓reduceIte])
  refine awJ (op_call (b := false) rfl en45 (C45_0) (RL.cons (by exact View.same rfl) (RL.nil)) rfl (fun h => by cases h) rfl rfl) ?_; (simp only [nA, Nat.reduceBEq, Nat.reduceEqDiff, ↓reduceIte, Nat.reduceAdd, Nat.reduceSub])
  refine awP (op_build2 (xs := [_, _, _, _, _, .v (.int .i64 0), .v (.int .i64 0), .v (.int .i64 0), .v (.int .i64 0), .v (.int .i64 0), .v (.slice none 0 0)]) rfl pl77 ze77 [(0, [_]), (1, [_, _, _, _])] rfl rfl rfl) ?_
  refine awJ (OpJ.frz (op_buildSlice rfl [(0, nilC ((newC (gmod (rawV l (rawN l k)) 9))))] [nilC ((newC (gmod (rawV l (rawN l k)) 9)))] Try.underlying23 ze77 rfl (by simp) rfl (by simp) rfl (bl rfl) (by simp [maxLen])) (by simp [flatA]) rfl) ?_; (simp only [nA, ↓reduceIte])
  refine awJ (op_app (r := 3) (rows := [nilC ((newC (gmod (rawV l (rawN l k)) 9)))]) rfl rfl rfl rfl (by simp) .ro Try.underlying23 ze77 (by decide) (by simp) (by simp; omega) (by decide) (es' := (h.conts.map Container.av) ++ [nilC ((newC (gmod (rawV l (rawN l k)) 9)))]) rfl (n := (h.conts ++ [(newC (gmod (rawV l (rawN l k)) 9))]).length) (by simp)) ?_; (simp only [nA, Nat.reduceBEq, Nat.reduceEqDiff, ↓reduceIte, Nat.reduceAdd, Nat.reduceSub]); refine AWL.gh (Gh.slot2 (r := 3) (es' := (h.conts ++ [(newC (gmod (rawV l (rawN l k)) 9))]).map Container.av) rfl (by simp) (new_le _ _)) ?_; (simp only [nA, Nat.reduceBEq, Nat.reduceEqDiff, ↓reduceIte, Nat.reduceAdd, Nat.reduceSub]); refine AWL.gh (Gh.freeze 26 (bl rfl) rfl rfl (conv_flat (h.conts ++ [(newC (gmod (rawV l (rawN l k)) 9))])) (es' := (h.conts ++ [(newC (gmod (rawV l (rawN l k)) 9))]).map Container.av) (List.take_of_length_le (by simp))) ?_; (simp only [nA, Nat.reduceBEq, Nat.reduceEqDiff, ↓reduceIte, Nat.reduceAdd, Nat.reduceSub])
  (refine awP (op_fa_ptr rfl rfl rfl fl26_5 (by exact sz23) (by decide) rfl) ?_)
  refine awJ (op_store rfl rfl rfl rfl rfl rfl sz23 rfl (bl rfl) rfl) ?_; (simp only [nA, ↓reduceIte])
  refine AWL.nil ?_
  simp only [thenE, inBlk, Nat.reduceEqDiff, ↓reduceIte]
  (refine hK _ ?_; clear hK K; (skip))
  (refine AW.seq_k ?_; intro K hK)
  refine AW.region ?_
  (refine awR (op_load_ptr rfl rfl rfl rfl ag26 sz26 (bl rfl) rfl) ?_); (simp only [nA, Nat.reduceBEq, Nat.reduceEqDiff, ↓reduceIte, Nat.reduceAdd, Nat.reduceSub])
  refine awJ (op_store rfl rfl rfl rfl rfl rfl sz26 rfl (bl rfl) rfl) ?_; (simp only [nA, Nat.reduceBEq, Nat.reduceEqDiff, ↓reduceIte, Nat.reduceAdd, Nat.reduceSub])
  refine AWL.nil ?_
  (refine hK _ ?_; clear hK K; (skip))
  skip
  refine AW.ret ?_; rw [show spoiltV l k h = (rawN l (rawN l k), { h with conts := h.conts ++ [(newC (gmod (rawV l (rawN l k)) 9))] }) by unfold spoiltV; rw [if_neg e1, if_neg e2, if_neg e3, if_neg e4, if_neg e5, if_neg e6, if_neg e8]]; exact RQ.of (.inl rfl) rfl (.cell (bl rfl) rfl rfl rfl ag26 sz26 (bl rfl) rfl rfl .nil) (by simp) rfl (one_out rfl)
end Go.Proofs.Ytdnofpggdddimaa
namespace Go.Proofs.Ytdnofpggdddimaa
open Go.RowKit
set_option linter.unusedSimpArgs false
set_option linter.unusedVariables false
inductive Sh where
  | int (k : IntKind)
  | str
  | bool
  | sl (row : List Sh)
inductive Mt : AV → Sh → Prop
  | int {k : IntKind} {n : Int} (h : (Lit.int k n).wf = true) : Mt (.v (.int k n)) (.int k)
  | str {s : ByteArray} (h : s.size ≤ maxLen) : Mt (.v (.string s)) .str
  | bool {b : Bool} : Mt (.v (.bool b)) .bool
  | sl {row : List Sh} {es : List (List AV)} (hs : es.length ≤ maxLen) (h : ∀ e ∈ es, e.length = row.length) (hc : ∀ e ∈ es, ∀ (i : Nat) (x : AV) (s : Sh), e[i]? = some x → row[i]? = some s → Mt x s) : Mt (.ro es) (.sl row)
theorem Mt.rows {es : List (List AV)} {row : List Sh} (h : Mt (.ro es) (.sl row)) : ∀ e ∈ es, RL Mt e row := by
  cases h with
  | sl hs h hc => exact fun e he => ⟨h e he, hc e he⟩
theorem rows_of {α : Type} {f : α → List AV} : ∀ {es : List (List AV)}, (∀ e ∈ es, ∃ p, e = f p) → ∃ ps : List α, es = ps.map f
  | [], _ => ⟨[], rfl⟩
  | e :: es, h => by
    obtain ⟨p, rfl⟩ := h e (by simp)
    obtain ⟨ps, rfl⟩ := rows_of (es := es) fun e he => h e (by simp [he])
    exact ⟨p :: ps, rfl⟩
def fieldsSh (sh : TypeId → Option (List Sh)) (P : Program) : Nat → List Field → Option (List Sh)
  | _, [] => some []
  | o, f :: fs => if f.offset = o then (sh f.type).bind fun r => if r.length = P.cellsOf f.type then (fieldsSh sh P (o + r.length) fs).map (r ++ ·) else none else none
def copies (r : List Sh) : Nat → List Sh
  | 0 => []
  | n + 1 => r ++ copies r n
def shOf (P : Program) : Nat → TypeId → Option (List Sh)
  | 0, _ => none
  | n + 1, t => match P.underlying t with
    | some (.int k) => some [.int k]
    | some .string => some [.str]
    | some .bool => some [.bool]
    | some (.slice e) => (shOf P n e).map fun r => [.sl r]
    | some (.struct fs) => (fieldsSh (shOf P n) P 0 fs.toList).bind fun r => if r.length = P.cellsOf t then some r else none
    | some (.array k e) => (shOf P n e).bind fun r => if r.length = P.cellsOf e ∧ P.cellsOf t = k * P.cellsOf e then some (copies r k) else none
    | _ => none
theorem RL.cons' {α β : Type} {R : α → β → Prop} {us : List α} {xs : List β} {u : α} (h : RL R (u :: us) xs) : ∃ x xs', xs = x :: xs' ∧ R u x ∧ RL R us xs' := by
  cases xs with
  | nil => have := h.1; simp at this
  | cons x xs => exact ⟨x, xs, rfl, h.2 0 u x rfl rfl, by have := h.1; simpa using this, fun i a b ha hb => h.2 (i + 1) a b (by simpa using ha) (by simpa using hb)⟩
theorem take_split {α : Type} (l : List α) (o m n : Nat) : (l.drop o).take (m + n) = (l.drop o).take m ++ (l.drop (o + m)).take n := by
  rw [List.take_add, List.drop_drop]
theorem flat_idx {α : Type} {sz : Nat} : ∀ {es : List (List α)}, (∀ e ∈ es, e.length = sz) → ∀ {j : Nat}, j < es.flatten.length → ∃ e u, es[j / sz]? = some e ∧ e[j % sz]? = some u ∧ es.flatten[j]? = some u
  | [], _, j, h => by simp at h
  | e :: es, hs, j, h => by
    have he : e.length = sz := hs e (by simp)
    have hs' : ∀ e ∈ es, e.length = sz := fun e he => hs e (by simp [he])
    rw [List.flatten_cons] at h ⊢
    by_cases hj : j < sz
    · rw [List.getElem?_append_left (by omega), Nat.div_eq_of_lt hj, Nat.mod_eq_of_lt hj]
      exact ⟨e, e[j]'(by omega), rfl, List.getElem?_eq_getElem _, List.getElem?_eq_getElem _⟩
    rw [List.length_append] at h
    obtain ⟨e1, u, h1, h2, h3⟩ := flat_idx hs' (j := j - sz) (by omega)
    have h0 : 0 < sz := by
      rcases Nat.eq_zero_or_pos sz with h0 | h0
      · subst h0
        have : es.flatten = [] := List.flatten_eq_nil_iff.2 fun e he => List.eq_nil_of_length_eq_zero (hs' e he)
        rw [this] at h
        simp at h
        omega
      exact h0
    rw [List.getElem?_append_right (by omega), he, Nat.div_eq_sub_div h0 (by omega), Nat.mod_eq_sub_mod (by omega)]
    exact ⟨e1, u, by simpa using h1, h2, h3⟩
section
variable {H : Type} {enc : TypeId × Value → H} {P : Program} {w : World} {base : Nat} {spare : Nat → Bool} {held : Bool}
theorem fields_open {S : Nat → Prop} {sh : TypeId → Option (List Sh)} {n : Nat} {cs : List Value} (ih : ∀ t cs x r, sh t = some r → DataW.trod enc P w base spare held n t cs = some x → ∃ xs, RL (Rep P S w []) cs xs ∧ RL Mt xs r) :
    ∀ (fs : List Field) (o : Nat) (r : List Sh), fieldsSh sh P o fs = some r → (∀ f ∈ fs, ∃ y, DataW.trod enc P w base spare held n f.type ((cs.drop f.offset).take (P.cellsOf f.type)) = some y) →
      ∃ xs, RL (Rep P S w []) ((cs.drop o).take r.length) xs ∧ RL Mt xs r
  | [], o, r, h, _ => by
    simp only [fieldsSh, Option.some.injEq] at h
    subst h
    exact ⟨[], by simpa using RL.nil, RL.nil⟩
  | f :: fs, o, r, h, hf => by
    unfold fieldsSh at h
    split at h
    · rename_i ho
      obtain ⟨r1, h1, h2⟩ := Option.bind_eq_some_iff.1 h
      split at h2
      · rename_i hl
        obtain ⟨r2, h3, h4⟩ := Option.map_eq_some_iff.1 h2
        subst h4
        obtain ⟨y, hy⟩ := hf f (by simp)
        obtain ⟨xs1, a1, a2⟩ := ih _ _ _ _ h1 hy
        obtain ⟨xs2, b1, b2⟩ := fields_open ih fs (o + r1.length) r2 h3 fun f hf' => hf f (by simp [hf'])
        refine ⟨xs1 ++ xs2, ?_, a2.append b2⟩
        rw [List.length_append, take_split]
        rw [ho, ← hl] at a1
        exact a1.append b1
      cases h2
    cases h
theorem copies_open {S : Nat → Prop} {r : List Sh} {n c : Nat} {e : TypeId} {cs : List Value} (hr : r.length = c) (ih : ∀ cs x, DataW.trod enc P w base spare held n e cs = some x → ∃ xs, RL (Rep P S w []) cs xs ∧ RL Mt xs r) :
    ∀ (m o : Nat), (∀ i, i < m → ∃ y, DataW.trod enc P w base spare held n e ((cs.drop (o + i * c)).take c) = some y) → ∃ xs, RL (Rep P S w []) ((cs.drop o).take (m * c)) xs ∧ RL Mt xs (copies r m)
  | 0, o, _ => ⟨[], by simpa using RL.nil, RL.nil⟩
  | m + 1, o, h => by
    obtain ⟨y, hy⟩ := h 0 (by omega)
    rw [Nat.zero_mul, Nat.add_zero] at hy
    obtain ⟨xs1, a1, a2⟩ := ih _ _ hy
    obtain ⟨xs2, b1, b2⟩ := copies_open hr ih m (o + c) fun i hi => by
      have := h (i + 1) (by omega)
      rw [show o + (i + 1) * c = o + c + i * c by rw [Nat.succ_mul]; omega] at this
      exact this
    refine ⟨xs1 ++ xs2, ?_, a2.append b2⟩
    rw [Nat.succ_mul, Nat.add_comm (m * c) c, take_split]
    exact a1.append b1
theorem Rep.small {S : Nat → Prop} {A : Option Addr} {len c : Nat} {es : List (List AV)} (h : Rep P S w [] (.slice A len c) (.ro es)) : es.length ≤ maxLen := by
  obtain ⟨-, A', c', sz, us, e, h1, h2, -⟩ := h.ro_inv
  exact Nat.le_trans h1 h2
theorem open_sh : ∀ (m fuel : Nat) (t : TypeId) (cs : List Value) (x : DataW H × List MemPlace) (r : List Sh), shOf P m t = some r → DataW.trod enc P w base spare held fuel t cs = some x → ∃ xs, RL (Rep P (fun k => k < w.heap.size) w []) cs xs ∧ RL Mt xs r
  | 0, _, _, _, _, _, h, _ => by simp [shOf] at h
  | m + 1, fuel, t, cs, x, r, h, hx => by
    unfold shOf at h
    split at h
    · rename_i k ht
      injection h with h; subst h
      obtain ⟨n, rfl, _, hw⟩ := DataW.trod_int ht hx
      exact ⟨_, .cons (.v rfl) .nil, .cons (.int hw) .nil⟩
    · rename_i ht
      injection h with h; subst h
      obtain ⟨s, rfl, _, hw⟩ := DataW.trod_string ht hx
      exact ⟨_, .cons (.v rfl) .nil, .cons (.str hw) .nil⟩
    · rename_i ht
      injection h with h; subst h
      obtain ⟨b, rfl, _⟩ := DataW.trod_bool ht hx
      exact ⟨_, .cons (.v rfl) .nil, .cons .bool .nil⟩
    · rename_i e ht
      obtain ⟨row, h1, h2⟩ := Option.map_eq_some_iff.1 h
      subst h2
      rcases Go.Deep.open_slice ht hx with ⟨rfl, _⟩ | ⟨a, len, cap, mm, n, D, Pl, rfl, hb, hl, hm, hmm, _, hel⟩
      · exact ⟨_, .cons rep_ro_nil .nil, .cons (.sl (Nat.zero_le _) (by simp) (by simp)) .nil⟩
      have hlm : len ≤ mm := by rw [hmm]; split <;> omega
      have key : ∀ i, i < len → ∃ p : List Value × List AV, w.cells? base (a.add (i * P.cellsOf e)) (P.cellsOf e) = some p.1 ∧ RL (Rep P (fun k => k < w.heap.size) w []) p.1 p.2 ∧ RL Mt p.2 row := fun i hi => by
        obtain ⟨cs', c1, c2⟩ := hel i (by omega)
        obtain ⟨xs, c3, c4⟩ := open_sh m _ _ _ _ _ h1 c2
        exact ⟨(cs', xs), c1, c3, c4⟩
      obtain ⟨F, hF⟩ := Go.Deep.choose_lt key
      have lv : ∀ l ∈ (List.range len).map (fun i => (F i).1), l.length = P.cellsOf e := fun l hl' => by
        obtain ⟨i, hi, rfl⟩ := List.mem_map.1 hl'
        exact (World.cells?_some (hF i (List.mem_range.1 hi)).1).2.1
      have lx : ∀ l ∈ (List.range len).map (fun i => (F i).2), l.length = P.cellsOf e := fun l hl' => by
        obtain ⟨i, hi, rfl⟩ := List.mem_map.1 hl'
        rw [← (hF i (List.mem_range.1 hi)).2.1.1]
        exact (World.cells?_some (hF i (List.mem_range.1 hi)).1).2.1
      have hlen : ((List.range len).map fun i => (F i).2).length = len := by simp
      have hfl : ((List.range len).map fun i => (F i).1).flatten.length = ((List.range len).map fun i => (F i).2).flatten.length := by
        rw [List.length_flatten, List.length_flatten]
        congr 1
        rw [List.map_map, List.map_map]
        exact List.map_congr_left fun i hi => (hF i (List.mem_range.1 hi)).2.1.1
      have hrep : Rep P (fun k => k < w.heap.size) w [] (.slice (some a) ((List.range len).map fun i => (F i).2).length cap) (.ro ((List.range len).map fun i => (F i).2)) := by
        refine Rep.ro (sz := P.cellsOf e) (us := ((List.range len).map fun i => (F i).1).flatten) (by rw [hlen]; exact hl) hm lx (fun hn => ?_) hfl fun i u x hu hx' => ?_
        · have hget : ∀ j u, ((List.range len).map fun i => (F i).1).flatten[j]? = some u → w.cell? (a.add j) = some u := fun j u hu => by
            obtain ⟨l, u', q1, q2, q3⟩ := flat_idx lv (j := j) (List.getElem?_eq_some_iff.1 hu).1
            rw [q3] at hu
            injection hu with hu; subst hu
            rw [List.getElem?_map] at q1
            have hq : j / P.cellsOf e < len := by
              have := (List.getElem?_eq_some_iff.1 (show ((List.range len).map fun i => (F i).1)[j / P.cellsOf e]? = some l by rw [List.getElem?_map]; exact q1)).1
              simpa using this
            rw [List.getElem?_range hq] at q1
            injection q1 with q1; subst q1
            have hc := (World.cells?_some (hF _ hq).1)
            have hp : 0 < P.cellsOf e := by
              have := (List.getElem?_eq_some_iff.1 q2).1
              rw [hc.2.1] at this; omega
            have hcell := hc.2.2 (j % P.cellsOf e) (Nat.mod_lt _ hp)
            rw [q2, Go.Deep.add_add, Nat.mul_comm, Nat.div_add_mod] at hcell
            exact hcell
          have h0 := hget 0 _ (List.getElem?_eq_getElem hn)
          obtain ⟨g, o, sp⟩ := a
          have : sp = none := by simpa [Addr.add] using World.cell?_spot h0
          subst this
          refine ⟨g, o, rfl, World.block_lt_of_cell? w _ h0, fun j u hu => ?_⟩
          have := hget j u hu
          rw [add_off] at this
          exact this
        obtain ⟨l, u', q1, q2, q3⟩ := flat_idx lv (j := i) (List.getElem?_eq_some_iff.1 hu).1
        obtain ⟨l2, u2, p1, p2, p3⟩ := flat_idx lx (j := i) (List.getElem?_eq_some_iff.1 hx').1
        rw [q3] at hu
        injection hu with hu; subst hu
        rw [p3] at hx'
        injection hx' with hx'; subst hx'
        rw [List.getElem?_map] at q1 p1
        have hq : i / P.cellsOf e < len := by
          have := (List.getElem?_eq_some_iff.1 (show ((List.range len).map fun i => (F i).1)[i / P.cellsOf e]? = some l by rw [List.getElem?_map]; exact q1)).1
          simpa using this
        rw [List.getElem?_range hq] at q1 p1
        injection q1 with q1; subst q1
        injection p1 with p1; subst p1
        exact (hF _ hq).2.1.2 _ _ _ q2 p2
      rw [hlen] at hrep
      refine ⟨_, .cons hrep .nil, .cons (.sl hrep.small (fun l hl' => ?_) fun l hl' => ?_) .nil⟩
      · obtain ⟨i, hi, rfl⟩ := List.mem_map.1 hl'
        exact (hF i (List.mem_range.1 hi)).2.2.1
      obtain ⟨i, hi, rfl⟩ := List.mem_map.1 hl'
      exact (hF i (List.mem_range.1 hi)).2.2.2
    · rename_i fs ht
      obtain ⟨r1, h1, h2⟩ := Option.bind_eq_some_iff.1 h
      split at h2
      · rename_i hl
        injection h2 with h2; subst h2
        obtain ⟨ys, n, _, _, hcl, hyl, hf⟩ := DataW.trod_struct ht hx
        obtain ⟨xs, a1, a2⟩ := fields_open (fun t cs x r => open_sh m n t cs x r) fs.toList 0 r1 h1 (cs := cs) fun f hf' => by
          obtain ⟨i, hi, rfl⟩ := List.getElem_of_mem hf'
          have := hf i fs.toList[i] (by simp at hi; simp [hi])
          exact ⟨_, this.trans (List.getElem?_eq_getElem (by rw [hyl]; simpa using hi))⟩
        rw [List.drop_zero, hl, ← hcl, List.take_length] at a1
        exact ⟨xs, a1, a2⟩
      cases h2
    · rename_i k e ht
      obtain ⟨r1, h1, h2⟩ := Option.bind_eq_some_iff.1 h
      split at h2
      · rename_i hl
        injection h2 with h2; subst h2
        obtain ⟨ys, n, _, _, hcl, hyl, hf⟩ := DataW.trod_array ht hx
        obtain ⟨xs, a1, a2⟩ := copies_open (cs := cs) hl.1 (fun cs x hx => open_sh m n e cs x r1 h1 hx) k 0 fun i hi => by
          have := hf i hi
          rw [Nat.zero_add]
          exact ⟨_, this.trans (List.getElem?_eq_getElem (by omega))⟩
        rw [List.drop_zero, ← hl.2, ← hcl, List.take_length] at a1
        exact ⟨xs, a1, a2⟩
      cases h2
    cases h
/-- A datum of several cells. -/
theorem open_agg {m : Nat} {t : TypeId} {us : Array Value} {r : List Sh} {d : DataW H} {ps : List MemPlace} (hs : shOf P m t = some r) (h : DataW.Trod enc P w base spare held t (.agg us) d ps) : ∃ xs, AggOK P (fun k => k < w.heap.size) w (insT []) [] (.agg us) (.agg xs) ∧ RL Mt xs r := by
  obtain ⟨fuel, hf⟩ := h
  obtain ⟨xs, a1, a2⟩ := open_sh m fuel t us.toList _ r hs hf
  exact ⟨xs, ⟨us, rfl, a1.mono fun u x h => h.ref⟩, a2⟩
/-- A datum of one cell. -/
theorem open_one {m : Nat} {t : TypeId} {v : Value} {s : Sh} {d : DataW H} {ps : List MemPlace} (hs : shOf P m t = some [s]) (hv : v.cells = #[v]) (h : DataW.Trod enc P w base spare held t v d ps) : ∃ x, AggOK P (fun k => k < w.heap.size) w (insT []) [] v x ∧ Mt x s := by
  obtain ⟨fuel, hf⟩ := h
  rw [hv] at hf
  obtain ⟨xs, a1, a2⟩ := open_sh m fuel t [v] _ [s] hs hf
  obtain ⟨x, xs', rfl, b1, b2⟩ := a1.cons'
  obtain ⟨x2, xs2, q, c1, -⟩ := a2.cons'
  injection q with q _
  subst q
  refine ⟨x, ?_, c1⟩
  have hr := b1.ref (T := insT []) (vals := [])
  cases c1 <;> exact hr
end
theorem Spec.small {P : Program} {f : FuncId} {ins xs : List AV} {Q : List AV → List AV → Prop} {es : List (List AV)} (k : Nat) (hk : xs[k]? = some (.ro es)) (h : es.length ≤ 9223372036854775807 → Spec P f ins xs Q) : Spec P f ins xs Q := fun w S vals bss vs c => by
  obtain ⟨u, hu, hr⟩ := c.args.at_ hk
  have hr : Rep P S w [] u (.ro es) := hr
  obtain ⟨-, A, cc, sz, us, e, h1, h2, -⟩ := hr.ro_inv
  exact h (Nat.le_trans (Nat.le_trans h1 h2) (by decide)) w S vals bss vs c
theorem Spec.smallA {P : Program} {f : FuncId} {ins xs : List AV} {Q : List AV → List AV → Prop} {cs : List AV} {es : List (List AV)} (k j : Nat) (hk : xs[k]? = some (.agg cs)) (hj : cs[j]? = some (.ro es)) (h : es.length ≤ 9223372036854775807 → Spec P f ins xs Q) : Spec P f ins xs Q := fun w S vals bss vs c => by
  obtain ⟨u, hu, hr⟩ := c.args.at_ hk
  obtain ⟨us, rfl, hrl⟩ := (show ∃ us, u = .agg us ∧ RL (RefOK P S w (insT ins) vals) us.toList cs from hr)
  obtain ⟨u2, hu2, hr2⟩ := hrl.at_ hj
  have hr2 : Rep P S w [] u2 (.ro es) := hr2
  obtain ⟨-, A, cc, sz, us, e, h1, h2, -⟩ := hr2.ro_inv
  exact h (Nat.le_trans (Nat.le_trans h1 h2) (by decide)) w S vals bss vs c
/-- What a cell may hold, taken apart. -/
theorem Mt.i64 {x : AV} (h : Mt x (.int .i64)) : ∃ n, x = .v (.int .i64 n) := by cases h; exact ⟨_, rfl⟩
theorem Mt.u8 {x : AV} (h : Mt x (.int .u8)) : ∃ n, x = .v (.int .u8 n) := by cases h; exact ⟨_, rfl⟩
theorem Mt.s_ {x : AV} (h : Mt x .str) : ∃ n, x = .v (.string n) := by cases h; exact ⟨_, rfl⟩
theorem Mt.b_ {x : AV} (h : Mt x .bool) : ∃ n, x = .v (.bool n) := by cases h; exact ⟨_, rfl⟩
theorem Mt.sl_ {x : AV} {r : List Sh} (h : Mt x (.sl r)) : ∃ es, x = .ro es := by cases h; exact ⟨_, rfl⟩
end Go.Proofs.Ytdnofpggdddimaa
namespace Go.Proofs.Ytdnofpggdddimaa
open Go.RowKit
set_option linter.unusedSimpArgs false
set_option linter.unusedVariables false
set_option maxRecDepth 100000
def smallH (h : Hand) : Bool := (decide ((h.grants.length : Int) ≤ 70) && decide ((h.log.length : Int) ≤ 70)) && smallB h.conts
set_option maxHeartbeats 8000000 in
theorem C10 {h : Hand} : Fn Try.prog 10 [] [.agg h.av] [.v (.bool (smallH h))] [] := by
  refine Spec.smallA 0 5 rfl rfl fun hx => ?_
  refine Spec.body Try.func10 rfl Try.ntmps10 (by simp) rfl ?_; intro S0 own0 v0 w0
  (refine AW.seq_k ?_; intro K hK)
  refine AW.region ?_
  refine awJ (op_box rfl rfl rfl sz26 rfl) ?_; (simp only [nA, Nat.reduceBEq, Nat.reduceEqDiff, ↓reduceIte])
  refine awP (op_assign rfl rfl) ?_
  refine AWL.nil ?_
  (refine hK _ ?_; clear hK K; (simp only [nA, Nat.reduceBEq, Nat.reduceEqDiff, ↓reduceIte, Nat.reduceAdd, Nat.reduceSub]))
  (refine AW.seq_k ?_; intro K hK)
  refine AW.region (AWL.quiet ?_)
  (refine aqP (op_fa_ptr rfl rfl rfl fl26_4 (by exact sz22) (by decide) rfl) ?_)
  (refine aqR (op_load_ptr1 rfl rfl rfl rfl ag22 rfl rfl) ?_)
  refine aqP (op_len_ro (n := h.grants.length) rfl rfl Try.underlying22 (.inr (.inl ⟨_, rfl, by simp⟩))) ?_
  refine aqP (op_leq rfl rfl rfl) ?_
  refine aqP (op_move rfl rfl) ?_
  refine' aqAnd' [_, _, _, _] [8,9,10,11] rfl rfl rfl rfl rfl rfl rfl rfl rfl rfl rfl rfl (fun hb => ?_) ?_; rotate_left
  ·
   (try simp only [hcS] at hb)
   (refine aqP (op_fa_ptr rfl rfl rfl fl26_6 (by exact sz24) (by decide) rfl) ?_)
   (refine aqR (op_load_ptr1 rfl rfl rfl rfl ag24 rfl rfl) ?_)
   refine aqP (op_len_ro (n := h.log.length) rfl rfl Try.underlying24 (.inr (.inl ⟨_, rfl, by simp⟩))) ?_
   refine aqP (op_leq rfl rfl rfl) ?_
   (refine aqSeg rfl rfl rfl ?_; repeat (first | exact fun _ _ => rfl | refine upd_out rfl ?_))
  simp only [nA]
  refine aqP (op_move rfl rfl) ?_
  refine' aqAnd' [_, _, _] [14,15,16] rfl rfl rfl rfl rfl rfl rfl rfl rfl rfl rfl rfl (fun hb => ?_) ?_; rotate_left
  ·
   (try simp only [hcS] at hb)
   (refine aqP (op_fa_ptr rfl rfl rfl fl26_5 (by exact sz23) (by decide) rfl) ?_)
   (refine aqR (op_load_ptr1 rfl rfl rfl rfl ag23 rfl rfl) ?_)
   refine aqQ (op_callQ (b := true) rfl en28 (C28 (by simpa using hx)) (RL.cons (by exact View.same rfl) (RL.nil)) rfl) ?_; (simp only [nA])
   (refine aqSeg rfl rfl rfl ?_; repeat (first | exact fun _ _ => rfl | refine upd_out rfl ?_))
  simp only [nA]
  refine aqP (op_assign rfl rfl) ?_
  refine AQ.nil ?_
  (refine hK _ ?_; clear hK K; (simp only [nA]))
  skip
  refine AW.ret ?_; exact RQ.of0 rfl (.tmp (bl rfl) rfl rfl .nil)
theorem small_sm {h : Hand} (hh : smallH h = true) : h.Sm := by
  unfold smallH smallB at hh
  simp only [Bool.and_eq_true, decide_eq_true_eq, List.all_eq_true] at hh
  exact ⟨by omega, by omega, by omega, fun c hc => by have := hh.2.1 c hc; omega⟩
theorem DevI.bd {h : Hand} (hd : DevI h) : h.grants.length ≤ 60 ∧ h.conts.length ≤ 60 ∧ h.log.length ≤ 60 := by
  obtain ⟨-, -, v3, v4, v5⟩ := val_parts hd.v
  have h1 := (log_parts v5).1
  have h2 := chk_len (emp_parts v4)
  unfold grsB at v3
  simp only [Bool.and_eq_true, decide_eq_true_eq] at v3
  have h3 := v3.1
  omega
theorem spoilt_sm (l : List Int) (k : Nat) {h : Hand} (hd : DevI h) : (spoiltV l k h).2.Sm := by
  obtain ⟨h1, h2, h3⟩ := hd.bd
  obtain ⟨a, b, c, d⟩ := spoilt_bd l k h1 h2 h3 hd.s.p
  exact ⟨by omega, by omega, by omega, d⟩
theorem spoilt_sm2 (l : List Int) (k k' : Nat) {h : Hand} (hd : DevI h) : (spoiltV l k (spoiltV l k' h).2).2.Sm := by
  obtain ⟨h1, h2, h3⟩ := hd.bd
  obtain ⟨a, b, c, d⟩ := spoilt_bd l k' h1 h2 h3 hd.s.p
  obtain ⟨a', b', c', d'⟩ := spoilt_bd l k a b c d
  exact ⟨by omega, by omega, by omega, d'⟩
theorem at_map {α : Type} (f : α → List AV) {xs : List α} {j : Nat} (h : j < xs.length) : ∃ v, v ∈ xs ∧ (xs.map f)[j]? = some (f v) := ⟨xs[j], List.getElem_mem h, by rw [List.getElem?_map, List.getElem?_eq_getElem h]; rfl⟩
end Go.Proofs.Ytdnofpggdddimaa
