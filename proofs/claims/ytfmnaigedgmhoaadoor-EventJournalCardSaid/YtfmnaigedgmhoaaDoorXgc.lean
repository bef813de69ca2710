import Derived.Test.YtfmnaigedgmhoaaDoorXgb
import Derived.Laws.StructEq
import Derived.Laws.IdiomStrings
import Derived.Laws.BytesArg
import Derived.Lib.AppendStr
import Derived.Laws.Concat
import Derived.Laws.BitsAllLaws
namespace Go.Proofs.YtfmnaigedgmhoaaDoor
open Go.RowKit
set_option linter.unusedSimpArgs false
set_option linter.unusedVariables false
set_option maxRecDepth 100000
theorem mix : Tryd.prog.follows .mixedOrders = true := by kernel_rfl
theorem en9 : Enters Tryd.prog 9 := fun vs w => by kernel_rfl
theorem en10 : Enters Tryd.prog 10 := fun vs w => by kernel_rfl
theorem en13 : Enters Tryd.prog 13 := fun vs w => by kernel_rfl
theorem en15 : Enters Tryd.prog 15 := fun vs w => by kernel_rfl
theorem en17 : Enters Tryd.prog 17 := fun vs w => by kernel_rfl
theorem en18 : Enters Tryd.prog 18 := fun vs w => by kernel_rfl
theorem en19 : Enters Tryd.prog 19 := fun vs w => by kernel_rfl
theorem en20 : Enters Tryd.prog 20 := fun vs w => by kernel_rfl
theorem en21 : Enters Tryd.prog 21 := fun vs w => by kernel_rfl
theorem en22 : Enters Tryd.prog 22 := fun vs w => by kernel_rfl
theorem en23 : Enters Tryd.prog 23 := fun vs w => by kernel_rfl
theorem en24 : Enters Tryd.prog 24 := fun vs w => by kernel_rfl
theorem en25 : Enters Tryd.prog 25 := fun vs w => by kernel_rfl
theorem en26 : Enters Tryd.prog 26 := fun vs w => by kernel_rfl
theorem en27 : Enters Tryd.prog 27 := fun vs w => by kernel_rfl
theorem en28 : Enters Tryd.prog 28 := fun vs w => by kernel_rfl
theorem en29 : Enters Tryd.prog 29 := fun vs w => by kernel_rfl
theorem en30 : Enters Tryd.prog 30 := fun vs w => by kernel_rfl
theorem en37 : Enters Tryd.prog 37 := fun vs w => by kernel_rfl
theorem en38 : Enters Tryd.prog 38 := fun vs w => by kernel_rfl
theorem en39 : Enters Tryd.prog 39 := fun vs w => by kernel_rfl
theorem en41 : Enters Tryd.prog 41 := fun vs w => by kernel_rfl
theorem en42 : Enters Tryd.prog 42 := fun vs w => by kernel_rfl
theorem en43 : Enters Tryd.prog 43 := fun vs w => by kernel_rfl
theorem en44 : Enters Tryd.prog 44 := fun vs w => by kernel_rfl
theorem en45 : Enters Tryd.prog 45 := fun vs w => by kernel_rfl
theorem en46 : Enters Tryd.prog 46 := fun vs w => by kernel_rfl
theorem en47 : Enters Tryd.prog 47 := fun vs w => by kernel_rfl
theorem en48 : Enters Tryd.prog 48 := fun vs w => by kernel_rfl
theorem en49 : Enters Tryd.prog 49 := fun vs w => by kernel_rfl
theorem en50 : Enters Tryd.prog 50 := fun vs w => by kernel_rfl
theorem en51 : Enters Tryd.prog 51 := fun vs w => by kernel_rfl
theorem en52 : Enters Tryd.prog 52 := fun vs w => by kernel_rfl
theorem en53 : Enters Tryd.prog 53 := fun vs w => by kernel_rfl
theorem en54 : Enters Tryd.prog 54 := fun vs w => by kernel_rfl
theorem en55 : Enters Tryd.prog 55 := fun vs w => by kernel_rfl
theorem en56 : Enters Tryd.prog 56 := fun vs w => by kernel_rfl
theorem en57 : Enters Tryd.prog 57 := fun vs w => by kernel_rfl
theorem en58 : Enters Tryd.prog 58 := fun vs w => by kernel_rfl
theorem en59 : Enters Tryd.prog 59 := fun vs w => by kernel_rfl
theorem en60 : Enters Tryd.prog 60 := fun vs w => by kernel_rfl
theorem en61 : Enters Tryd.prog 61 := fun vs w => by kernel_rfl
theorem en62 : Enters Tryd.prog 62 := fun vs w => by kernel_rfl
theorem en63 : Enters Tryd.prog 63 := fun vs w => by kernel_rfl
theorem en64 : Enters Tryd.prog 64 := fun vs w => by kernel_rfl
theorem en65 : Enters Tryd.prog 65 := fun vs w => by kernel_rfl
theorem en66 : Enters Tryd.prog 66 := fun vs w => by kernel_rfl
theorem en67 : Enters Tryd.prog 67 := fun vs w => by kernel_rfl
theorem en73 : Enters Tryd.prog 73 := fun vs w => by kernel_rfl
theorem en74 : Enters Tryd.prog 74 := fun vs w => by kernel_rfl
theorem en75 : Enters Tryd.prog 75 := fun vs w => by kernel_rfl
theorem en76 : Enters Tryd.prog 76 := fun vs w => by kernel_rfl
theorem en77 : Enters Tryd.prog 77 := fun vs w => by kernel_rfl
theorem en78 : Enters Tryd.prog 78 := fun vs w => by kernel_rfl
theorem en79 : Enters Tryd.prog 79 := fun vs w => by kernel_rfl
theorem en80 : Enters Tryd.prog 80 := fun vs w => by kernel_rfl
theorem en81 : Enters Tryd.prog 81 := fun vs w => by kernel_rfl
theorem en82 : Enters Tryd.prog 82 := fun vs w => by kernel_rfl
theorem en83 : Enters Tryd.prog 83 := fun vs w => by kernel_rfl
theorem en84 : Enters Tryd.prog 84 := fun vs w => by kernel_rfl
theorem en85 : Enters Tryd.prog 85 := fun vs w => by kernel_rfl
theorem en86 : Enters Tryd.prog 86 := fun vs w => by kernel_rfl
theorem en87 : Enters Tryd.prog 87 := fun vs w => by kernel_rfl
theorem en88 : Enters Tryd.prog 88 := fun vs w => by kernel_rfl
theorem en89 : Enters Tryd.prog 89 := fun vs w => by kernel_rfl
theorem en90 : Enters Tryd.prog 90 := fun vs w => by kernel_rfl
theorem en91 : Enters Tryd.prog 91 := fun vs w => by kernel_rfl
theorem en92 : Enters Tryd.prog 92 := fun vs w => by kernel_rfl
theorem en93 : Enters Tryd.prog 93 := fun vs w => by kernel_rfl
theorem en94 : Enters Tryd.prog 94 := fun vs w => by kernel_rfl
theorem en95 : Enters Tryd.prog 95 := fun vs w => by kernel_rfl
theorem en99 : Enters Tryd.prog 99 := fun vs w => by kernel_rfl
theorem en100 : Enters Tryd.prog 100 := fun vs w => by kernel_rfl
theorem en101 : Enters Tryd.prog 101 := fun vs w => by kernel_rfl
theorem en102 : Enters Tryd.prog 102 := fun vs w => by kernel_rfl
theorem en103 : Enters Tryd.prog 103 := fun vs w => by kernel_rfl
theorem en104 : Enters Tryd.prog 104 := fun vs w => by kernel_rfl
theorem en105 : Enters Tryd.prog 105 := fun vs w => by kernel_rfl
theorem en106 : Enters Tryd.prog 106 := fun vs w => by kernel_rfl
theorem en107 : Enters Tryd.prog 107 := fun vs w => by kernel_rfl
theorem en108 : Enters Tryd.prog 108 := fun vs w => by kernel_rfl
theorem en111 : Enters Tryd.prog 111 := fun vs w => by kernel_rfl
theorem pl68 : plIs Tryd.prog 68 [(0, 1), (1, 1)] := ⟨_, Tryd.underlying68, by kernel_rfl⟩
theorem pl23 : plIs Tryd.prog 23 [(0, 1), (1, 1), (2, 1)] := ⟨_, Tryd.underlying23, by kernel_rfl⟩
theorem pl26 : plIs Tryd.prog 26 [(0, 1), (1, 1), (2, 1), (3, 1)] := ⟨_, Tryd.underlying26, by kernel_rfl⟩
theorem pl30 : plIs Tryd.prog 30 [(0, 3), (3, 1), (4, 1)] := ⟨_, Tryd.underlying30, by kernel_rfl⟩
theorem pl32 : plIs Tryd.prog 32 [(0, 1), (1, 1), (2, 1), (3, 1), (4, 1), (5, 5)] := ⟨_, Tryd.underlying32, by kernel_rfl⟩
theorem pl35 : plIs Tryd.prog 35 [(0, 1), (1, 1), (2, 1), (3, 3), (6, 1), (7, 1), (8, 1), (9, 1), (10, 6), (16, 1), (17, 10), (27, 1), (28, 4)] := ⟨_, Tryd.underlying35, by kernel_rfl⟩
theorem pl28 : plIs Tryd.prog 28 [(0, 1), (1, 1), (2, 4)] := ⟨_, Tryd.underlying28, by kernel_rfl⟩
theorem pl66 : plIs Tryd.prog 66 [(0, 1), (1, 1), (2, 1)] := ⟨_, Tryd.underlying66, by kernel_rfl⟩
theorem pl94 : plIs Tryd.prog 94 [(0, 1), (1, 32), (33, 1)] := ⟨_, Tryd.underlying94, by kernel_rfl⟩
theorem pl77 : plIs Tryd.prog 77 [(0, 1)] := ⟨_, Tryd.underlying77, by kernel_rfl⟩
end Go.Proofs.YtfmnaigedgmhoaaDoor
namespace Go.Proofs.YtfmnaigedgmhoaaDoor
open Go.RowKit
set_option linter.unusedSimpArgs false
set_option linter.unusedVariables false
set_option maxRecDepth 100000
def inB (n lo hi : Int) : Bool := decide (n ≥ lo) && decide (n ≤ hi)
def upB (c : UInt8) : Bool := decide ((c.toNat : Int) ≥ 65) && decide ((c.toNat : Int) ≤ 90)
def dgB (c : UInt8) : Bool := decide ((c.toNat : Int) ≥ 48) && decide ((c.toNat : Int) ≤ 57)
set_option maxHeartbeats 8000000 in
theorem C93 {n lo hi : Int} : Fn Tryd.prog 93 [] [.v (.int .i64 n), .v (.int .i64 lo), .v (.int .i64 hi)] [.v (.bool (inB n lo hi))] [] := by
  refine Spec.body Tryd.func93 rfl Tryd.ntmps93 (by simp) rfl ?_; intro S0 own0 v0 w0 gl
  (refine AW.seq_k ?_; intro K hK)
  refine AW.region ?_
  refine awP (op_assign rfl rfl) ?_; (try simp only [nA, Nat.reduceBEq, Nat.reduceEqDiff, ↓reduceIte, Nat.reduceAdd, Nat.reduceSub])
  refine AWL.nil ?_
  (refine hK _ ?_; clear hK K; (try simp only [nA, Nat.reduceBEq, Nat.reduceEqDiff, ↓reduceIte, Nat.reduceAdd, Nat.reduceSub]))
  (refine AW.seq_k ?_; intro K hK)
  refine AW.region (AWL.quiet ?_)
  refine aqP (op_move rfl rfl) ?_; (simp only [nA, ↓reduceIte])
  refine aqP (op_move rfl rfl) ?_; (simp only [nA, ↓reduceIte])
  refine aqP (op_geq rfl rfl rfl) ?_; (try simp only [nA, Nat.reduceBEq, Nat.reduceEqDiff, ↓reduceIte, Nat.reduceAdd, Nat.reduceSub])
  refine aqP (op_move rfl rfl) ?_; (simp only [nA])
  refine' aqAnd' [_, _, _] [11,12,13] rfl rfl rfl rfl rfl rfl rfl rfl rfl rfl rfl rfl (fun hb => ?_) ?_; rotate_left
  ·
   (try simp only [hcS] at hb)
   refine aqP (op_move rfl rfl) ?_; (simp only [nA, ↓reduceIte])
   refine aqP (op_move rfl rfl) ?_; (simp only [nA, ↓reduceIte])
   refine aqP (op_leq rfl rfl rfl) ?_; (try simp only [nA, Nat.reduceBEq, Nat.reduceEqDiff, ↓reduceIte, Nat.reduceAdd, Nat.reduceSub])
   (refine aqSeg rfl rfl rfl ?_; repeat (first | exact fun _ _ => rfl | refine upd_out rfl ?_))
  refine aqP (op_assign rfl rfl) ?_; (simp only [nA])
  refine AQ.nil ?_
  (refine hK _ ?_; clear hK K; (skip))
  skip
  refine AW.ret ?_; (try simp only [thenE, inBlk, Nat.reduceEqDiff, ↓reduceIte]); exact RQ.of0 rfl (.tmp (bl rfl) rfl rfl .nil)
set_option maxHeartbeats 8000000 in
theorem C106 {c : UInt8} : Fn Tryd.prog 106 [] [.v (.int .u8 c.toNat)] [.v (.bool (upB c))] [] := by
  refine Spec.body Tryd.func106 rfl Tryd.ntmps106 (by simp) rfl ?_; intro S0 own0 v0 w0 gl
  (refine AW.seq_k ?_; intro K hK)
  refine AW.region ?_
  refine awP (op_assign rfl rfl) ?_; (try simp only [nA, Nat.reduceBEq, Nat.reduceEqDiff, ↓reduceIte, Nat.reduceAdd, Nat.reduceSub])
  refine AWL.nil ?_
  (refine hK _ ?_; clear hK K; (try simp only [nA, Nat.reduceBEq, Nat.reduceEqDiff, ↓reduceIte, Nat.reduceAdd, Nat.reduceSub]))
  (refine AW.seq_k ?_; intro K hK)
  refine AW.region (AWL.quiet ?_)
  refine aqP (op_move rfl rfl) ?_; (simp only [nA, ↓reduceIte])
  refine aqP (op_geq rfl rfl rfl) ?_; (try simp only [nA, Nat.reduceBEq, Nat.reduceEqDiff, ↓reduceIte, Nat.reduceAdd, Nat.reduceSub])
  refine aqP (op_move rfl rfl) ?_; (simp only [nA])
  refine' aqAnd' [_, _] [6,7] rfl rfl rfl rfl rfl rfl rfl rfl rfl rfl rfl rfl (fun hb => ?_) ?_; rotate_left
  ·
   (try simp only [hcS] at hb)
   refine aqP (op_move rfl rfl) ?_; (simp only [nA, ↓reduceIte])
   refine aqP (op_leq rfl rfl rfl) ?_; (try simp only [nA, Nat.reduceBEq, Nat.reduceEqDiff, ↓reduceIte, Nat.reduceAdd, Nat.reduceSub])
   (refine aqSeg rfl rfl rfl ?_; repeat (first | exact fun _ _ => rfl | refine upd_out rfl ?_))
  refine aqP (op_assign rfl rfl) ?_; (simp only [nA])
  refine AQ.nil ?_
  (refine hK _ ?_; clear hK K; (skip))
  skip
  refine AW.ret ?_; (try simp only [thenE, inBlk, Nat.reduceEqDiff, ↓reduceIte]); exact RQ.of0 rfl (.tmp (bl rfl) rfl rfl .nil)
set_option maxHeartbeats 8000000 in
theorem C107 {c : UInt8} : Fn Tryd.prog 107 [] [.v (.int .u8 c.toNat)] [.v (.bool (dgB c))] [] := by
  refine Spec.body Tryd.func107 rfl Tryd.ntmps107 (by simp) rfl ?_; intro S0 own0 v0 w0 gl
  (refine AW.seq_k ?_; intro K hK)
  refine AW.region ?_
  refine awP (op_assign rfl rfl) ?_; (try simp only [nA, Nat.reduceBEq, Nat.reduceEqDiff, ↓reduceIte, Nat.reduceAdd, Nat.reduceSub])
  refine AWL.nil ?_
  (refine hK _ ?_; clear hK K; (try simp only [nA, Nat.reduceBEq, Nat.reduceEqDiff, ↓reduceIte, Nat.reduceAdd, Nat.reduceSub]))
  (refine AW.seq_k ?_; intro K hK)
  refine AW.region (AWL.quiet ?_)
  refine aqP (op_move rfl rfl) ?_; (simp only [nA, ↓reduceIte])
  refine aqP (op_geq rfl rfl rfl) ?_; (try simp only [nA, Nat.reduceBEq, Nat.reduceEqDiff, ↓reduceIte, Nat.reduceAdd, Nat.reduceSub])
  refine aqP (op_move rfl rfl) ?_; (simp only [nA])
  refine' aqAnd' [_, _] [6,7] rfl rfl rfl rfl rfl rfl rfl rfl rfl rfl rfl rfl (fun hb => ?_) ?_; rotate_left
  ·
   (try simp only [hcS] at hb)
   refine aqP (op_move rfl rfl) ?_; (simp only [nA, ↓reduceIte])
   refine aqP (op_leq rfl rfl rfl) ?_; (try simp only [nA, Nat.reduceBEq, Nat.reduceEqDiff, ↓reduceIte, Nat.reduceAdd, Nat.reduceSub])
   (refine aqSeg rfl rfl rfl ?_; repeat (first | exact fun _ _ => rfl | refine upd_out rfl ?_))
  refine aqP (op_assign rfl rfl) ?_; (simp only [nA])
  refine AQ.nil ?_
  (refine hK _ ?_; clear hK K; (skip))
  skip
  refine AW.ret ?_; (try simp only [thenE, inBlk, Nat.reduceEqDiff, ↓reduceIte]); exact RQ.of0 rfl (.tmp (bl rfl) rfl rfl .nil)
end Go.Proofs.YtfmnaigedgmhoaaDoor
namespace Go.Proofs.YtfmnaigedgmhoaaDoor
open Go.RowKit
set_option linter.unusedSimpArgs false
set_option linter.unusedVariables false
set_option maxRecDepth 100000
def chr (s : ByteArray) (i : Nat) : UInt8 := s.data.toList.getD i 0
theorem size_len (s : ByteArray) : s.data.toList.length = s.size := by show s.data.toList.length = s.data.size; simp
theorem get_chr {s : ByteArray} {i : Nat} (h : i < s.size) : s.data.toList[i]? = some (chr s i) := by
  unfold chr
  rw [List.getD_eq_getElem?_getD, List.getElem?_eq_getElem (by rw [size_len]; exact h)]
  rfl
theorem take_all {s : ByteArray} {f : UInt8 → Bool} {i : Nat} (h : i < s.size) : (s.data.toList.take (i + 1)).all f = ((s.data.toList.take i).all f && f (chr s i)) := by
  have h2 := get_chr h
  rw [List.take_add_one, h2]
  simp
theorem all_take {s : ByteArray} {f : UInt8 → Bool} {i : Nat} (h : ¬ i < s.size) : (s.data.toList.take i).all f = s.data.toList.all f := by
  rw [List.take_of_length_le (by rw [size_len]; omega)]
theorem all_no {s : ByteArray} {f : UInt8 → Bool} {i : Nat} (h : i < s.size) (hf : f (chr s i) = false) : s.data.toList.all f = false := by
  rw [List.all_eq_false]
  exact ⟨chr s i, List.mem_of_getElem? (get_chr h), by rw [hf]; simp⟩
set_option maxHeartbeats 8000000 in
theorem C108 {s : ByteArray} (hs : s.size ≤ 1000000) : Fn Tryd.prog 108 [] [.v (.string s), .v (.func (.func 106) #[] #[])] [.v (.bool (s.data.toList.all upB))] [] := by
  refine Spec.body Tryd.func108 rfl Tryd.ntmps108 (by simp) rfl ?_; intro S0 own0 v0 w0 gl
  (refine AW.seq_k ?_; intro K hK)
  refine AW.region ?_
  refine awP (op_assign rfl rfl) ?_; (try simp only [nA, Nat.reduceBEq, Nat.reduceEqDiff, ↓reduceIte, Nat.reduceAdd, Nat.reduceSub])
  refine AWL.nil ?_
  (refine hK _ ?_; clear hK K; (try simp only [nA, Nat.reduceBEq, Nat.reduceEqDiff, ↓reduceIte, Nat.reduceAdd, Nat.reduceSub]))
  (refine AW.seq_k ?_; intro K hK)
  (refine AW.seq_k ?_; intro K hK)
  refine AW.region ?_
  refine awP (op_move rfl rfl) ?_; (simp only [nA, ↓reduceIte])
  (refine awP (op_len_str rfl rfl Tryd.underlying9) ?_); (try simp only [nA, Nat.reduceBEq, Nat.reduceEqDiff, ↓reduceIte, Nat.reduceAdd, Nat.reduceSub])
  refine awP (op_move rfl rfl) ?_; (try simp only [nA, Nat.reduceBEq, Nat.reduceEqDiff, ↓reduceIte, Nat.reduceAdd, Nat.reduceSub])
  refine AWL.nil ?_
  (refine hK _ ?_; clear hK K; (skip))
  refine AW.block ?_
  refine AW.loopI (fun i => [(0, .v (.string s)), (1, .v (.func (.func 106) #[] #[])), (7, .v (.int .i64 s.size)), (8, .v (.int .i64 (i : Nat)))]) (fun _ => ⟨[], 1⟩) (fun i => i ≤ s.size ∧ (s.data.toList.take i).all upB = true) (fun i => s.size - i) 0 (by simp) ⟨rfl, rfl, rfl, rfl, trivial⟩ rfl ?_; intro i ρ hi; simp only [updL]
  (refine AW.seq_k ?_; intro K hK)
  refine AW.region ?_
  refine awP (op_lss rfl rfl rfl) ?_; (try simp only [nA, Nat.reduceBEq, Nat.reduceEqDiff, ↓reduceIte, Nat.reduceAdd, Nat.reduceSub])
  refine AWL.nil ?_
  (refine hK _ ?_; clear hK K; (skip))
  (refine AW.seq_k ?_; intro K hK)
  refine AW.cond rfl rfl rfl (fun hc => ?_) (fun hc => ?_)
  ·
   (try simp only [hcS] at hc); have hc1 := hc
   refine AW.skip ?_
   (refine hK _ ?_; clear hK K; (skip))
   (refine AW.seq_k ?_; intro K hK)
   refine AW.block ?_
   (refine AW.seq_k ?_; intro K hK)
   refine AW.region ?_
   refine awP (op_move rfl rfl) ?_; (simp only [nA, ↓reduceIte])
   refine awP (op_assign rfl rfl) ?_; (simp only [nA])
   refine AWL.nil ?_
   (refine hK _ ?_; clear hK K; (skip))
   (refine AW.seq_k ?_; intro K hK)
   refine AW.region ?_
   refine awP (op_move rfl rfl) ?_; (simp only [nA, ↓reduceIte])
   refine awP (op_move rfl rfl) ?_; (simp only [nA, ↓reduceIte])
   refine awP (op_move rfl rfl) ?_; (simp only [nA, ↓reduceIte])
   refine awP (op_ix_str _ rfl rfl rfl Tryd.underlying9 rfl (get_chr (by omega))) ?_; (try simp only [nA, Nat.reduceBEq, Nat.reduceEqDiff, ↓reduceIte, Nat.reduceAdd, Nat.reduceSub])
   refine awJ (OpQ.j (op_valQ (b := true) rfl rfl en106 C106 (RL.cons (by exact View.same rfl) (RL.nil)) rfl)) ?_; (try simp only [nA, Nat.reduceBEq, Nat.reduceEqDiff, ↓reduceIte, Nat.reduceAdd, Nat.reduceSub])
   refine awP (op_not rfl rfl rfl) ?_; (try simp only [nA, Nat.reduceBEq, Nat.reduceEqDiff, ↓reduceIte, Nat.reduceAdd, Nat.reduceSub])
   refine AWL.nil ?_
   (refine hK _ ?_; clear hK K; (skip))
   refine AW.cond rfl rfl rfl (fun hc => ?_) (fun hc => ?_)
   ·
    (try simp only [hcS] at hc); have hc2 := hc
    (refine AW.seq_k ?_; intro K hK)
    refine AW.region ?_
    refine awP (op_assign rfl rfl) ?_; (try simp only [nA, Nat.reduceBEq, Nat.reduceEqDiff, ↓reduceIte, Nat.reduceAdd, Nat.reduceSub])
    refine AWL.nil ?_
    (refine hK _ ?_; clear hK K; (skip))
    skip
    refine AW.ret ?_; (try simp only [thenE, inBlk, Nat.reduceEqDiff, ↓reduceIte]); rw [all_no (i := i) (by omega) hc]; exact RQ.of0 rfl (.tmp (bl rfl) rfl rfl .nil)
   (try simp only [hcS] at hc); have hc2 := hc
   refine AW.skip ?_
   (try simp only [thenE, inBlk, Nat.reduceEqDiff, ↓reduceIte])
   (refine hK _ ?_; clear hK K; (skip))
   refine AW.region ?_
   (refine awP (op_addi rfl rfl rfl (by omega)) ?_); (try simp only [nA, Nat.reduceBEq, Nat.reduceEqDiff, ↓reduceIte, Nat.reduceAdd, Nat.reduceSub])
   refine awP (op_move rfl rfl) ?_; (simp only [nA])
   skip
   refine AWL.nil ?_
   refine ⟨i + 1, ⟨by omega, by rw [take_all (by omega), hi.2]; simpa using hc⟩, by omega, ⟨rfl, rfl, rfl, rfl, trivial⟩, rfl, rfl⟩
  (try simp only [hcS] at hc); have hc1 := hc
  refine AW.exit ?_; (try simp only [thenE, inBlk, Nat.reduceEqDiff, ↓reduceIte])
  clear hK K
  (refine hK _ ?_; clear hK K; (skip))
  (refine AW.seq_k ?_; intro K hK)
  refine AW.region ?_
  refine awP (op_assign rfl rfl) ?_; (try simp only [nA, Nat.reduceBEq, Nat.reduceEqDiff, ↓reduceIte, Nat.reduceAdd, Nat.reduceSub])
  refine AWL.nil ?_
  (refine hK _ ?_; clear hK K; (skip))
  skip
  refine AW.ret ?_; (try simp only [thenE, inBlk, Nat.reduceEqDiff, ↓reduceIte]); rw [← all_take (i := i) (by omega), hi.2]; exact RQ.of0 rfl (.tmp (bl rfl) rfl rfl .nil)
end Go.Proofs.YtfmnaigedgmhoaaDoor
namespace Go.Proofs.YtfmnaigedgmhoaaDoor
open Go.RowKit
set_option linter.unusedSimpArgs false
set_option linter.unusedVariables false
set_option maxRecDepth 100000
def lettersB (s : ByteArray) (lo hi : Int) : Bool := (decide ((s.size : Int) ≥ lo) && decide ((s.size : Int) ≤ hi)) && s.data.toList.all upB
set_option maxHeartbeats 8000000 in
theorem C92 {s : ByteArray} {lo hi : Int} (h : hi ≤ 1000000) : Fn Tryd.prog 92 [] [.v (.string s), .v (.int .i64 lo), .v (.int .i64 hi)] [.v (.bool (lettersB s lo hi))] [] := by
  refine Spec.body Tryd.func92 rfl Tryd.ntmps92 (by simp) rfl ?_; intro S0 own0 v0 w0 gl
  (refine AW.seq_k ?_; intro K hK)
  refine AW.region ?_
  refine awP (op_assign rfl rfl) ?_
  refine AWL.nil ?_
  (refine hK _ ?_; clear hK K; (try simp only [nA, Nat.reduceBEq, Nat.reduceEqDiff, ↓reduceIte, Nat.reduceAdd, Nat.reduceSub]))
  (refine AW.seq_k ?_; intro K hK)
  refine AW.region (AWL.quiet ?_)
  refine aqP (op_move rfl rfl) ?_
  (refine aqP (op_len_str rfl rfl Tryd.underlying9) ?_)
  refine aqP (op_move rfl rfl) ?_
  refine aqP (op_geq rfl rfl rfl) ?_
  refine aqP (op_move rfl rfl) ?_
  refine' aqAnd' [_, _, _, _] [12,13,14,15] rfl rfl rfl rfl rfl rfl rfl rfl rfl rfl rfl rfl (fun hb => ?_) ?_; rotate_left
  ·
   (try simp only [hcS] at hb)
   refine aqP (op_move rfl rfl) ?_
   (refine aqP (op_len_str rfl rfl Tryd.underlying9) ?_)
   refine aqP (op_move rfl rfl) ?_
   refine aqP (op_leq rfl rfl rfl) ?_
   (refine aqSeg rfl rfl rfl ?_; repeat (first | exact fun _ _ => rfl | refine upd_out rfl ?_))
  simp only [nA, ↓reduceIte]
  refine aqP (op_move rfl rfl) ?_
  refine' aqAnd' [_, _] [18,19] rfl rfl rfl rfl rfl rfl rfl rfl rfl rfl rfl rfl (fun hb => ?_) ?_; rotate_left
  ·
   (try simp only [hcS] at hb)
   refine aqP (op_move rfl rfl) ?_
   refine aqQ (op_callQ (b := true) rfl en108 (C108 (s := s) (by omega)) (RL.cons (by exact View.same rfl) (RL.cons (by exact View.same rfl) (RL.nil))) rfl) ?_; (simp only [nA, Nat.reduceEqDiff, ↓reduceIte])
   (refine aqSeg rfl rfl rfl ?_; repeat (first | exact fun _ _ => rfl | refine upd_out rfl ?_))
  simp only [nA]
  refine aqP (op_assign rfl rfl) ?_
  refine AQ.nil ?_
  (refine hK _ ?_; clear hK K; (simp only [nA]))
  skip
  refine AW.ret ?_; (try simp only [thenE, inBlk, Nat.reduceEqDiff, ↓reduceIte]); exact RQ.of0 rfl (.tmp (bl rfl) rfl rfl .nil)
def carB (s : ByteArray) : Bool := decide (s.size = 2) && (s.data.toList.all (fun c => upB c || dgB c) && s.data.toList.any upB)
def cntB (s : ByteArray) (i : Nat) : Int := ((s.data.toList.take i).countP upB : Nat)
theorem cnt_yes {s : ByteArray} {i : Nat} (h : i < s.size) (hf : upB (chr s i) = true) : cntB s (i + 1) = cntB s i + 1 := by
  have h2 := get_chr h
  unfold cntB
  rw [List.take_add_one, h2]
  simp [hf]
theorem cnt_no {s : ByteArray} {i : Nat} (h : i < s.size) (hf : upB (chr s i) = false) : cntB s (i + 1) = cntB s i := by
  have h2 := get_chr h
  unfold cntB
  rw [List.take_add_one, h2]
  simp [hf]
theorem cnt_le {s : ByteArray} {i : Nat} (h : i ≤ s.size) : 0 ≤ cntB s i ∧ cntB s i ≤ i := by
  unfold cntB
  have := List.countP_le_length (p := upB) (l := s.data.toList.take i)
  have h3 : (s.data.toList.take i).length ≤ i := by simp; omega
  omega
theorem cnt_end {s : ByteArray} {i : Nat} (h : ¬ i < s.size) : decide (cntB s i > 0) = s.data.toList.any upB := by
  unfold cntB
  rw [List.take_of_length_le (by rw [size_len]; omega), Bool.eq_iff_iff, decide_eq_true_eq, List.any_eq_true]
  have := List.countP_pos_iff (p := upB) (l := s.data.toList)
  constructor
  · intro h; exact this.1 (by omega)
  intro h; have := this.2 h; omega
set_option maxHeartbeats 8000000 in
theorem C91 {s : ByteArray} : Fn Tryd.prog 91 [] [.v (.string s)] [.v (.bool (carB s))] [] := by
  refine Spec.body Tryd.func91 rfl Tryd.ntmps91 (by simp) rfl ?_; intro S0 own0 v0 w0 gl
  (refine AW.seq_k ?_; intro K hK)
  refine AW.region ?_
  refine awP (op_assign rfl rfl) ?_
  refine AWL.nil ?_
  (refine hK _ ?_; clear hK K; (try simp only [nA, Nat.reduceBEq, Nat.reduceEqDiff, ↓reduceIte, Nat.reduceAdd, Nat.reduceSub]))
  (refine AW.seq_k ?_; intro K hK)
  (refine AW.seq_k ?_; intro K hK)
  refine AW.region ?_
  refine awP (op_move rfl rfl) ?_
  (refine awP (op_len_str rfl rfl Tryd.underlying9) ?_)
  (refine awP (op_neq rfl rfl rfl) ?_)
  refine AWL.nil ?_
  (refine hK _ ?_; clear hK K; (simp only [nA, ↓reduceIte]))
  refine AW.cond rfl rfl rfl (fun hc => ?_) (fun hc => ?_)
  ·
   (try simp only [hcS] at hc); have hc1 := hc
   (refine AW.seq_k ?_; intro K hK)
   refine AW.region ?_
   refine awP (op_assign rfl rfl) ?_
   refine AWL.nil ?_
   (refine hK _ ?_; clear hK K; (try simp only [nA, Nat.reduceBEq, Nat.reduceEqDiff, ↓reduceIte, Nat.reduceAdd, Nat.reduceSub]))
   skip
   refine AW.ret ?_; (try simp only [thenE, inBlk, Nat.reduceEqDiff, ↓reduceIte]); rw [show carB s = false by unfold carB; rw [show decide (s.size = 2) = false by simp; omega]; rfl]; exact RQ.of0 rfl (.tmp (bl rfl) rfl rfl .nil)
  (try simp only [hcS] at hc); have hc1 := hc
  refine AW.skip ?_
  (refine hK _ ?_; clear hK K; (skip))
  (refine AW.seq_k ?_; intro K hK)
  refine AW.region ?_
  refine awP (op_assign rfl rfl) ?_
  refine AWL.nil ?_
  (refine hK _ ?_; clear hK K; (try simp only [nA, Nat.reduceBEq, Nat.reduceEqDiff, ↓reduceIte, Nat.reduceAdd, Nat.reduceSub]))
  (refine AW.seq_k ?_; intro K hK)
  (refine AW.seq_k ?_; intro K hK)
  refine AW.region ?_
  refine awP (op_move rfl rfl) ?_
  (refine awP (op_len_str rfl rfl Tryd.underlying9) ?_)
  refine awP (op_move rfl rfl) ?_
  refine AWL.nil ?_
  (refine hK _ ?_; clear hK K; (simp only [nA, ↓reduceIte]))
  refine AW.block ?_
  refine AW.loopI (fun i => [(0, .v (.string s)), (3, .v (.int .i64 (cntB s i))), (9, .v (.int .i64 s.size)), (10, .v (.int .i64 (i : Nat)))]) (fun _ => ⟨[], 1⟩) (fun i => i ≤ s.size ∧ (s.data.toList.take i).all (fun c => upB c || dgB c) = true) (fun i => s.size - i) 0 (by simp) ⟨rfl, rfl, rfl, rfl, trivial⟩ rfl ?_; intro i ρ hi; simp only [updL]; have hcl := cnt_le (s := s) hi.1
  (refine AW.seq_k ?_; intro K hK)
  refine AW.region ?_
  refine awP (op_lss rfl rfl rfl) ?_
  refine AWL.nil ?_
  (refine hK _ ?_; clear hK K; (try simp only [nA, Nat.reduceBEq, Nat.reduceEqDiff, ↓reduceIte, Nat.reduceAdd, Nat.reduceSub]))
  (refine AW.seq_k ?_; intro K hK)
  refine AW.cond rfl rfl rfl (fun hc => ?_) (fun hc => ?_)
  ·
   (try simp only [hcS] at hc); have hc2 := hc
   refine AW.skip ?_
   (refine hK _ ?_; clear hK K; (skip))
   (refine AW.seq_k ?_; intro K hK)
   refine AW.block ?_
   (refine AW.seq_k ?_; intro K hK)
   refine AW.region ?_
   refine awP (op_move rfl rfl) ?_
   refine awP (op_assign rfl rfl) ?_
   refine AWL.nil ?_
   (refine hK _ ?_; clear hK K; (simp only [nA, ↓reduceIte]))
   refine AW.block ?_
   (refine AW.seq_k ?_; intro K hK)
   refine AW.region ?_
   refine awP (op_move rfl rfl) ?_
   refine awP (op_move rfl rfl) ?_
   refine awP (op_ix_str _ rfl rfl rfl Tryd.underlying9 rfl (get_chr (by omega))) ?_
   refine awJ (OpQ.j (op_callQ (b := true) rfl en106 (C106) (RL.cons (by exact View.same rfl) (RL.nil)) rfl)) ?_; (simp only [nA, ↓reduceIte])
   refine awP (op_assign rfl rfl) ?_
   refine AWL.nil ?_
   (refine hK _ ?_; clear hK K; (simp only [nA]))
   refine AW.cond rfl rfl rfl (fun hc => ?_) (fun hc => ?_)
   ·
    (try simp only [hcS] at hc); have hc3 := hc
    refine AW.region ?_
    refine awP (op_move rfl rfl) ?_
    (refine awP (op_addi rfl rfl rfl (by omega)) ?_)
    refine awP (op_assign rfl rfl) ?_
    refine AWL.nil ?_
    (try simp only [thenE, inBlk, Nat.reduceEqDiff, ↓reduceIte])
    (try simp only [thenE, inBlk, Nat.reduceEqDiff, ↓reduceIte])
    (refine hK _ ?_; clear hK K; (simp only [nA, ↓reduceIte]))
    refine AW.region ?_
    (refine awP (op_addi rfl rfl rfl (by omega)) ?_)
    refine awP (op_move rfl rfl) ?_
    skip
    refine AWL.nil ?_
    refine ⟨i + 1, ⟨by omega, by rw [take_all (by omega), hi.2]; simp [hc]⟩, by omega, ⟨rfl, (by rw [cnt_yes (by omega) hc]; rfl), rfl, rfl, trivial⟩, rfl, rfl⟩
   (try simp only [hcS] at hc); have hc3 := hc
   (refine AW.seq_k ?_; intro K hK)
   refine AW.region ?_
   refine awP (op_move rfl rfl) ?_
   refine awP (op_move rfl rfl) ?_
   refine awP (op_ix_str _ rfl rfl rfl Tryd.underlying9 rfl (get_chr (by omega))) ?_
   refine awJ (OpQ.j (op_callQ (b := true) rfl en107 (C107) (RL.cons (by exact View.same rfl) (RL.nil)) rfl)) ?_; (simp only [nA, ↓reduceIte])
   refine awP (op_not rfl rfl rfl) ?_
   refine awP (op_assign rfl rfl) ?_
   refine AWL.nil ?_
   (refine hK _ ?_; clear hK K; (simp only [nA]))
   refine AW.cond rfl rfl rfl (fun hc => ?_) (fun hc => ?_)
   ·
    (try simp only [hcS] at hc); have hc4 := hc
    (refine AW.seq_k ?_; intro K hK)
    refine AW.region ?_
    refine awP (op_assign rfl rfl) ?_
    refine AWL.nil ?_
    (refine hK _ ?_; clear hK K; (try simp only [nA, Nat.reduceBEq, Nat.reduceEqDiff, ↓reduceIte, Nat.reduceAdd, Nat.reduceSub]))
    skip
    refine AW.ret ?_; (try simp only [thenE, inBlk, Nat.reduceEqDiff, ↓reduceIte]); rw [show carB s = false by unfold carB; rw [all_no (i := i) (by omega) (by rw [hc3, hc]; rfl)]; simp]; exact RQ.of0 rfl (.tmp (bl rfl) rfl rfl .nil)
   (try simp only [hcS] at hc); have hc4 := hc
   refine AW.skip ?_
   (try simp only [thenE, inBlk, Nat.reduceEqDiff, ↓reduceIte])
   (try simp only [thenE, inBlk, Nat.reduceEqDiff, ↓reduceIte])
   (refine hK _ ?_; clear hK K; (skip))
   refine AW.region ?_
   (refine awP (op_addi rfl rfl rfl (by omega)) ?_)
   refine awP (op_move rfl rfl) ?_
   skip
   refine AWL.nil ?_
   refine ⟨i + 1, ⟨by omega, by rw [take_all (by omega), hi.2]; simp [hc]⟩, by omega, ⟨rfl, (by rw [cnt_no (by omega) hc3]; rfl), rfl, rfl, trivial⟩, rfl, rfl⟩
  (try simp only [hcS] at hc); have hc2 := hc
  refine AW.exit ?_; (try simp only [thenE, inBlk, Nat.reduceEqDiff, ↓reduceIte])
  clear hK K
  (refine hK _ ?_; clear hK K; (skip))
  (refine AW.seq_k ?_; intro K hK)
  refine AW.region ?_
  refine awP (op_move rfl rfl) ?_
  refine awP (op_gtr rfl rfl rfl) ?_
  refine awP (op_assign rfl rfl) ?_
  refine AWL.nil ?_
  (refine hK _ ?_; clear hK K; (simp only [nA, ↓reduceIte]))
  skip
  refine AW.ret ?_; (try simp only [thenE, inBlk, Nat.reduceEqDiff, ↓reduceIte]); rw [show carB s = decide (cntB s i > 0) by unfold carB; rw [cnt_end (by omega), show decide (s.size = 2) = true by simp; omega, ← all_take (i := i) (by omega), hi.2]; rfl]; exact RQ.of0 rfl (.tmp (bl rfl) rfl rfl .nil)
def cmpI (a b : Int) : Int := if a < b then -1 else if a > b then 1 else 0
end Go.Proofs.YtfmnaigedgmhoaaDoor
namespace Go.Proofs.YtfmnaigedgmhoaaDoor
open Go.RowKit
set_option linter.unusedSimpArgs false
set_option linter.unusedVariables false
set_option maxRecDepth 100000
structure Plate where
  lead : Int
  airline : Int
  serial : Int
  deriving DecidableEq
structure Flight where
  carrier : ByteArray
  number : Int
  suffix : ByteArray
  day : Int
structure Piece where
  plate : Plate
  weight : Int
  category : Int
structure Container where
  number : Int
  flight : Flight
  categories : Int
  limit : Int
  most : Int
  position : Int
  arm : Int
  pieces : List Piece
abbrev Plate.av (p : Plate) : List AV := [.v (.int .i64 p.lead), .v (.int .i64 p.airline), .v (.int .i64 p.serial)]
abbrev Flight.av (f : Flight) : List AV := [.v (.string f.carrier), .v (.int .i64 f.number), .v (.string f.suffix), .v (.int .i64 f.day)]
abbrev Piece.av (p : Piece) : List AV := [.v (.int .i64 p.plate.lead), .v (.int .i64 p.plate.airline), .v (.int .i64 p.plate.serial), .v (.int .i64 p.weight), .v (.int .i64 p.category)]
abbrev Container.av (c : Container) : List AV := [.v (.int .i64 c.number), .v (.string c.flight.carrier), .v (.int .i64 c.flight.number), .v (.string c.flight.suffix), .v (.int .i64 c.flight.day), .v (.int .i64 c.categories), .v (.int .i64 c.limit), .v (.int .i64 c.most), .v (.int .i64 c.position), .v (.int .i64 c.arm), .ro (c.pieces.map Piece.av)]
def flB (f : Flight) : Bool := ((((carB f.carrier && decide (f.number ≥ 1)) && decide (f.number ≤ 9999)) && lettersB f.suffix 0 1) && decide (f.day ≥ 0)) && decide (f.day ≤ 99)
def plB (p : Plate) : Bool := ((((decide (p.lead ≥ 0) && decide (p.lead ≤ 9)) && decide (p.airline ≥ 1)) && decide (p.airline ≤ 999)) && decide (p.serial ≥ 0)) && decide (p.serial < 1000000)
set_option maxHeartbeats 8000000 in
theorem C64 {f : Flight} : Fn Tryd.prog 64 [] [.agg f.av] [.v (.bool (flB f))] [] := by
  refine Spec.body Tryd.func64 rfl Tryd.ntmps64 (by simp) rfl ?_; intro S0 own0 v0 w0 gl
  (refine AW.seq_k ?_; intro K hK)
  refine AW.region ?_
  refine awJ (op_box rfl rfl rfl sz26 rfl) ?_; (simp only [nA, Nat.reduceBEq, Nat.reduceEqDiff, ↓reduceIte])
  refine awP (op_assign rfl rfl) ?_
  refine AWL.nil ?_
  (refine hK _ ?_; clear hK K; (try simp only [nA, Nat.reduceBEq, Nat.reduceEqDiff, ↓reduceIte, Nat.reduceAdd, Nat.reduceSub]))
  (refine AW.seq_k ?_; intro K hK)
  refine AW.region (AWL.quiet ?_)
  (refine aqP (op_fa_ptr rfl rfl rfl fl26_0 (by exact sz9) (by decide) rfl) ?_)
  (refine aqR (op_load_ptr1 rfl rfl rfl rfl ag9 rfl rfl) ?_)
  refine aqQ (op_callQ (b := true) rfl en91 (C91) (RL.cons (by exact View.same rfl) (RL.nil)) rfl) ?_; (try simp only [nA, Nat.reduceBEq, Nat.reduceEqDiff, ↓reduceIte, Nat.reduceAdd, Nat.reduceSub])
  refine aqP (op_move rfl rfl) ?_
  refine' aqAnd' [_, _, _] [7,8,9] rfl rfl rfl rfl rfl rfl rfl rfl rfl rfl rfl rfl (fun hb => ?_) ?_; rotate_left
  ·
   (try simp only [hcS] at hb)
   (refine aqP (op_fa_ptr rfl rfl rfl fl26_1 (by exact sz3) (by decide) rfl) ?_)
   (refine aqR (op_load_ptr1 rfl rfl rfl rfl ag3 rfl rfl) ?_)
   refine aqP (op_geq rfl rfl rfl) ?_
   (refine aqSeg rfl rfl rfl ?_; repeat (first | exact fun _ _ => rfl | refine upd_out rfl ?_))
  simp only [nA]
  refine aqP (op_move rfl rfl) ?_
  refine' aqAnd' [_, _, _] [12,13,14] rfl rfl rfl rfl rfl rfl rfl rfl rfl rfl rfl rfl (fun hb => ?_) ?_; rotate_left
  ·
   (try simp only [hcS] at hb)
   (refine aqP (op_fa_ptr rfl rfl rfl fl26_1 (by exact sz3) (by decide) rfl) ?_)
   (refine aqR (op_load_ptr1 rfl rfl rfl rfl ag3 rfl rfl) ?_)
   refine aqP (op_leq rfl rfl rfl) ?_
   (refine aqSeg rfl rfl rfl ?_; repeat (first | exact fun _ _ => rfl | refine upd_out rfl ?_))
  simp only [nA]
  refine aqP (op_move rfl rfl) ?_
  refine' aqAnd' [_, _, _] [17,18,19] rfl rfl rfl rfl rfl rfl rfl rfl rfl rfl rfl rfl (fun hb => ?_) ?_; rotate_left
  ·
   (try simp only [hcS] at hb)
   (refine aqP (op_fa_ptr rfl rfl rfl fl26_2 (by exact sz9) (by decide) rfl) ?_)
   (refine aqR (op_load_ptr1 rfl rfl rfl rfl ag9 rfl rfl) ?_)
   refine aqQ (op_callQ (b := true) rfl en92 (C92 (lo := 0) (hi := 1) (by decide)) (RL.cons (by exact View.same rfl) (RL.cons (by exact View.same rfl) (RL.cons (by exact View.same rfl) (RL.nil)))) rfl) ?_; (simp only [nA])
   (refine aqSeg rfl rfl rfl ?_; repeat (first | exact fun _ _ => rfl | refine upd_out rfl ?_))
  simp only [nA]
  refine aqP (op_move rfl rfl) ?_
  refine' aqAnd' [_, _, _] [22,23,24] rfl rfl rfl rfl rfl rfl rfl rfl rfl rfl rfl rfl (fun hb => ?_) ?_; rotate_left
  ·
   (try simp only [hcS] at hb)
   (refine aqP (op_fa_ptr rfl rfl rfl fl26_3 (by exact sz3) (by decide) rfl) ?_)
   (refine aqR (op_load_ptr1 rfl rfl rfl rfl ag3 rfl rfl) ?_)
   refine aqP (op_geq rfl rfl rfl) ?_
   (refine aqSeg rfl rfl rfl ?_; repeat (first | exact fun _ _ => rfl | refine upd_out rfl ?_))
  simp only [nA]
  refine aqP (op_move rfl rfl) ?_
  refine' aqAnd' [_, _, _] [27,28,29] rfl rfl rfl rfl rfl rfl rfl rfl rfl rfl rfl rfl (fun hb => ?_) ?_; rotate_left
  ·
   (try simp only [hcS] at hb)
   (refine aqP (op_fa_ptr rfl rfl rfl fl26_3 (by exact sz3) (by decide) rfl) ?_)
   (refine aqR (op_load_ptr1 rfl rfl rfl rfl ag3 rfl rfl) ?_)
   refine aqP (op_leq rfl rfl rfl) ?_
   (refine aqSeg rfl rfl rfl ?_; repeat (first | exact fun _ _ => rfl | refine upd_out rfl ?_))
  simp only [nA]
  refine aqP (op_assign rfl rfl) ?_
  refine AQ.nil ?_
  (refine hK _ ?_; clear hK K; (simp only [nA]))
  skip
  refine AW.ret ?_; (try simp only [thenE, inBlk, Nat.reduceEqDiff, ↓reduceIte]); exact RQ.of0 rfl (.tmp (bl rfl) rfl rfl .nil)
set_option maxHeartbeats 8000000 in
theorem C60 {p : Plate} : Fn Tryd.prog 60 [] [.agg p.av] [.v (.bool (plB p))] [] := by
  refine Spec.body Tryd.func60 rfl Tryd.ntmps60 (by simp) rfl ?_; intro S0 own0 v0 w0 gl
  (refine AW.seq_k ?_; intro K hK)
  refine AW.region ?_
  refine awJ (op_box rfl rfl rfl sz23 rfl) ?_; (simp only [nA, Nat.reduceBEq, Nat.reduceEqDiff, ↓reduceIte])
  refine awP (op_assign rfl rfl) ?_
  refine AWL.nil ?_
  (refine hK _ ?_; clear hK K; (try simp only [nA, Nat.reduceBEq, Nat.reduceEqDiff, ↓reduceIte, Nat.reduceAdd, Nat.reduceSub]))
  (refine AW.seq_k ?_; intro K hK)
  refine AW.region (AWL.quiet ?_)
  (refine aqP (op_fa_ptr rfl rfl rfl fl23_0 (by exact sz3) (by decide) rfl) ?_)
  (refine aqR (op_load_ptr1 rfl rfl rfl rfl ag3 rfl rfl) ?_)
  refine aqP (op_geq rfl rfl rfl) ?_
  refine aqP (op_move rfl rfl) ?_
  refine' aqAnd' [_, _, _] [7,8,9] rfl rfl rfl rfl rfl rfl rfl rfl rfl rfl rfl rfl (fun hb => ?_) ?_; rotate_left
  ·
   (try simp only [hcS] at hb)
   (refine aqP (op_fa_ptr rfl rfl rfl fl23_0 (by exact sz3) (by decide) rfl) ?_)
   (refine aqR (op_load_ptr1 rfl rfl rfl rfl ag3 rfl rfl) ?_)
   refine aqP (op_leq rfl rfl rfl) ?_
   (refine aqSeg rfl rfl rfl ?_; repeat (first | exact fun _ _ => rfl | refine upd_out rfl ?_))
  simp only [nA]
  refine aqP (op_move rfl rfl) ?_
  refine' aqAnd' [_, _, _] [12,13,14] rfl rfl rfl rfl rfl rfl rfl rfl rfl rfl rfl rfl (fun hb => ?_) ?_; rotate_left
  ·
   (try simp only [hcS] at hb)
   (refine aqP (op_fa_ptr rfl rfl rfl fl23_1 (by exact sz3) (by decide) rfl) ?_)
   (refine aqR (op_load_ptr1 rfl rfl rfl rfl ag3 rfl rfl) ?_)
   refine aqP (op_geq rfl rfl rfl) ?_
   (refine aqSeg rfl rfl rfl ?_; repeat (first | exact fun _ _ => rfl | refine upd_out rfl ?_))
  simp only [nA]
  refine aqP (op_move rfl rfl) ?_
  refine' aqAnd' [_, _, _] [17,18,19] rfl rfl rfl rfl rfl rfl rfl rfl rfl rfl rfl rfl (fun hb => ?_) ?_; rotate_left
  ·
   (try simp only [hcS] at hb)
   (refine aqP (op_fa_ptr rfl rfl rfl fl23_1 (by exact sz3) (by decide) rfl) ?_)
   (refine aqR (op_load_ptr1 rfl rfl rfl rfl ag3 rfl rfl) ?_)
   refine aqP (op_leq rfl rfl rfl) ?_
   (refine aqSeg rfl rfl rfl ?_; repeat (first | exact fun _ _ => rfl | refine upd_out rfl ?_))
  simp only [nA]
  refine aqP (op_move rfl rfl) ?_
  refine' aqAnd' [_, _, _] [22,23,24] rfl rfl rfl rfl rfl rfl rfl rfl rfl rfl rfl rfl (fun hb => ?_) ?_; rotate_left
  ·
   (try simp only [hcS] at hb)
   (refine aqP (op_fa_ptr rfl rfl rfl fl23_2 (by exact sz3) (by decide) rfl) ?_)
   (refine aqR (op_load_ptr1 rfl rfl rfl rfl ag3 rfl rfl) ?_)
   refine aqP (op_geq rfl rfl rfl) ?_
   (refine aqSeg rfl rfl rfl ?_; repeat (first | exact fun _ _ => rfl | refine upd_out rfl ?_))
  simp only [nA]
  refine aqP (op_move rfl rfl) ?_
  refine' aqAnd' [_, _, _] [27,28,29] rfl rfl rfl rfl rfl rfl rfl rfl rfl rfl rfl rfl (fun hb => ?_) ?_; rotate_left
  ·
   (try simp only [hcS] at hb)
   (refine aqP (op_fa_ptr rfl rfl rfl fl23_2 (by exact sz3) (by decide) rfl) ?_)
   (refine aqR (op_load_ptr1 rfl rfl rfl rfl ag3 rfl rfl) ?_)
   refine aqP (op_lss rfl rfl rfl) ?_
   (refine aqSeg rfl rfl rfl ?_; repeat (first | exact fun _ _ => rfl | refine upd_out rfl ?_))
  simp only [nA]
  refine aqP (op_assign rfl rfl) ?_
  refine AQ.nil ?_
  (refine hK _ ?_; clear hK K; (simp only [nA]))
  skip
  refine AW.ret ?_; (try simp only [thenE, inBlk, Nat.reduceEqDiff, ↓reduceIte]); exact RQ.of0 rfl (.tmp (bl rfl) rfl rfl .nil)
end Go.Proofs.YtfmnaigedgmhoaaDoor
namespace Go.Proofs.YtfmnaigedgmhoaaDoor
open Go.RowKit
set_option linter.unusedSimpArgs false
set_option linter.unusedVariables false
set_option maxRecDepth 100000
theorem st23 : Tryd.prog.stoodInHeld 23 = false := by kernel_rfl
theorem fo23 : Tryd.prog.underlying 23 = some (.struct (Tryd.prog.fieldsOf 23)) := by
  unfold Program.fieldsOf; rw [Tryd.underlying23]
theorem ty23 : Tryd.prog.eqGuardType Tryd.prog.depth 23 = false := by kernel_rfl
section
variable {S0 : Nat → Prop} {own0 : List Nat} {v0 : List Value} {w0 : World} {gl : Glb Tryd.prog (fun k => S0 k ∧ k ∉ own0) w0} {o : Oper} {ev : Operand → AV} {T : Sl} {yt : TypeId} {y z : Operand} {p q : Plate}
end
end Go.Proofs.YtfmnaigedgmhoaaDoor
namespace Go.Proofs.YtfmnaigedgmhoaaDoor
open Go.RowKit
set_option linter.unusedSimpArgs false
set_option linter.unusedVariables false
set_option maxRecDepth 100000
def piB (p : Piece) : Bool := (plB p.plate && inB p.weight 1 999) && inB p.category 0 4
structure Op where
  time : Int
  device : Int
  seq : Int
  kind : Int
  cont : Int
  piece : Piece
abbrev Op.av (o : Op) : List AV := [.v (.int .i64 o.time), .v (.int .i64 o.device), .v (.int .i64 o.seq), .v (.int .i64 o.kind), .v (.int .i64 o.cont), .v (.int .i64 o.piece.plate.lead), .v (.int .i64 o.piece.plate.airline), .v (.int .i64 o.piece.plate.serial), .v (.int .i64 o.piece.weight), .v (.int .i64 o.piece.category)]
set_option maxHeartbeats 8000000 in
theorem C37 {n lo hi : Int} : Fn Tryd.prog 37 [] [.v (.int .i64 n), .v (.int .i64 lo), .v (.int .i64 hi)] [.v (.bool (inB n lo hi))] [] := by
  refine Spec.body Tryd.func37 rfl Tryd.ntmps37 (by simp) rfl ?_; intro S0 own0 v0 w0 gl
  (refine AW.seq_k ?_; intro K hK)
  refine AW.region ?_
  refine awP (op_assign rfl rfl) ?_
  refine AWL.nil ?_
  (refine hK _ ?_; clear hK K; (try simp only [nA, Nat.reduceBEq, Nat.reduceEqDiff, ↓reduceIte, Nat.reduceAdd, Nat.reduceSub]))
  (refine AW.seq_k ?_; intro K hK)
  refine AW.region (AWL.quiet ?_)
  refine aqP (op_move rfl rfl) ?_
  refine aqP (op_move rfl rfl) ?_
  refine aqP (op_geq rfl rfl rfl) ?_
  refine aqP (op_move rfl rfl) ?_
  refine' aqAnd' [_, _, _] [11,12,13] rfl rfl rfl rfl rfl rfl rfl rfl rfl rfl rfl rfl (fun hb => ?_) ?_; rotate_left
  ·
   (try simp only [hcS] at hb)
   refine aqP (op_move rfl rfl) ?_
   refine aqP (op_move rfl rfl) ?_
   refine aqP (op_leq rfl rfl rfl) ?_
   (refine aqSeg rfl rfl rfl ?_; repeat (first | exact fun _ _ => rfl | refine upd_out rfl ?_))
  simp only [nA, ↓reduceIte]
  refine aqP (op_assign rfl rfl) ?_
  refine AQ.nil ?_
  (refine hK _ ?_; clear hK K; (simp only [nA]))
  skip
  refine AW.ret ?_; (try simp only [thenE, inBlk, Nat.reduceEqDiff, ↓reduceIte]); exact RQ.of0 rfl (.tmp (bl rfl) rfl rfl .nil)
set_option maxHeartbeats 8000000 in
theorem C94 {p : Piece} : Fn Tryd.prog 94 [] [.agg p.av] [.v (.bool (piB p))] [] := by
  refine Spec.body Tryd.func94 rfl Tryd.ntmps94 (by simp) rfl ?_; intro S0 own0 v0 w0 gl
  (refine AW.seq_k ?_; intro K hK)
  refine AW.region ?_
  refine awJ (op_box rfl rfl rfl sz30 rfl) ?_; (simp only [nA, Nat.reduceBEq, Nat.reduceEqDiff, ↓reduceIte])
  refine awP (op_assign rfl rfl) ?_
  refine AWL.nil ?_
  (refine hK _ ?_; clear hK K; (try simp only [nA, Nat.reduceBEq, Nat.reduceEqDiff, ↓reduceIte, Nat.reduceAdd, Nat.reduceSub]))
  (refine AW.seq_k ?_; intro K hK)
  refine AW.region (AWL.quiet ?_)
  (refine aqP (op_fa_ptr rfl rfl rfl fl30_0 (by exact sz23) (by decide) rfl) ?_)
  (refine aqR (op_load_ptr rfl rfl rfl rfl ag23 sz23 (bl rfl) rfl) ?_)
  refine aqQ (op_callQ (b := true) rfl en60 (C60 (p := p.plate)) (RL.cons (by exact View.same rfl) (RL.nil)) rfl) ?_; (try simp only [nA, Nat.reduceBEq, Nat.reduceEqDiff, ↓reduceIte, Nat.reduceAdd, Nat.reduceSub])
  refine aqP (op_move rfl rfl) ?_
  refine' aqAnd' [_, _, _] [7,8,9] rfl rfl rfl rfl rfl rfl rfl rfl rfl rfl rfl rfl (fun hb => ?_) ?_; rotate_left
  ·
   (try simp only [hcS] at hb)
   (refine aqP (op_fa_ptr rfl rfl rfl fl30_1 (by exact sz3) (by decide) rfl) ?_)
   (refine aqR (op_load_ptr1 rfl rfl rfl rfl ag3 rfl rfl) ?_)
   refine aqQ (op_callQ (b := true) rfl en93 (C93) (RL.cons (by exact View.same rfl) (RL.cons (by exact View.same rfl) (RL.cons (by exact View.same rfl) (RL.nil)))) rfl) ?_; (simp only [nA])
   (refine aqSeg rfl rfl rfl ?_; repeat (first | exact fun _ _ => rfl | refine upd_out rfl ?_))
  simp only [nA]
  refine aqP (op_move rfl rfl) ?_
  refine' aqAnd' [_, _, _] [12,13,14] rfl rfl rfl rfl rfl rfl rfl rfl rfl rfl rfl rfl (fun hb => ?_) ?_; rotate_left
  ·
   (try simp only [hcS] at hb)
   (refine aqP (op_fa_ptr rfl rfl rfl fl30_2 (by exact sz3) (by decide) rfl) ?_)
   (refine aqR (op_load_ptr1 rfl rfl rfl rfl ag3 rfl rfl) ?_)
   refine aqQ (op_callQ (b := true) rfl en93 (C93) (RL.cons (by exact View.same rfl) (RL.cons (by exact View.same rfl) (RL.cons (by exact View.same rfl) (RL.nil)))) rfl) ?_; (simp only [nA])
   (refine aqSeg rfl rfl rfl ?_; repeat (first | exact fun _ _ => rfl | refine upd_out rfl ?_))
  simp only [nA]
  refine aqP (op_assign rfl rfl) ?_
  refine AQ.nil ?_
  (refine hK _ ?_; clear hK K; (simp only [nA]))
  skip
  refine AW.ret ?_; (try simp only [thenE, inBlk, Nat.reduceEqDiff, ↓reduceIte]); exact RQ.of0 rfl (.tmp (bl rfl) rfl rfl .nil)
def opB (o : Op) : Bool := if (!inB o.time 0 1048576 || !inB o.device 1 6) || !inB o.seq 1 1048576 then false else ((decide (o.kind = 1) || decide (o.kind = 2)) && inB o.cont 1 999) && piB o.piece
set_option maxHeartbeats 8000000 in
theorem C65 {o : Op} : Fn Tryd.prog 65 [] [.agg o.av] [.v (.bool (opB o))] [] := by
  refine Spec.body Tryd.func65 rfl Tryd.ntmps65 (by simp) rfl ?_; intro S0 own0 v0 w0 gl
  (refine AW.seq_k ?_; intro K hK)
  refine AW.region ?_
  refine awJ (op_box rfl rfl rfl sz32 rfl) ?_; (simp only [nA, Nat.reduceBEq, Nat.reduceEqDiff, ↓reduceIte])
  refine awP (op_assign rfl rfl) ?_
  refine AWL.nil ?_
  (refine hK _ ?_; clear hK K; (try simp only [nA, Nat.reduceBEq, Nat.reduceEqDiff, ↓reduceIte, Nat.reduceAdd, Nat.reduceSub]))
  (refine AW.seq_k ?_; intro K hK)
  (refine AW.seq_k ?_; intro K hK)
  refine AW.region (AWL.quiet ?_)
  (refine aqP (op_fa_ptr rfl rfl rfl fl32_0 (by exact sz3) (by decide) rfl) ?_)
  (refine aqR (op_load_ptr1 rfl rfl rfl rfl ag3 rfl rfl) ?_)
  refine aqQ (op_callQ (b := true) rfl en93 (C93) (RL.cons (by exact View.same rfl) (RL.cons (by exact View.same rfl) (RL.cons (by exact View.same rfl) (RL.nil)))) rfl) ?_; (try simp only [nA, Nat.reduceBEq, Nat.reduceEqDiff, ↓reduceIte, Nat.reduceAdd, Nat.reduceSub])
  refine aqP (op_not rfl rfl rfl) ?_
  refine aqP (op_move rfl rfl) ?_
  refine' aqOr' [_, _, _, _] [8,9,10,11] rfl rfl rfl rfl rfl rfl rfl rfl rfl rfl rfl rfl (fun hb => ?_) ?_; rotate_left
  ·
   (try simp only [hcS] at hb)
   (refine aqP (op_fa_ptr rfl rfl rfl fl32_1 (by exact sz3) (by decide) rfl) ?_)
   (refine aqR (op_load_ptr1 rfl rfl rfl rfl ag3 rfl rfl) ?_)
   refine aqQ (op_callQ (b := true) rfl en93 (C93) (RL.cons (by exact View.same rfl) (RL.cons (by exact View.same rfl) (RL.cons (by exact View.same rfl) (RL.nil)))) rfl) ?_; (simp only [nA])
   refine aqP (op_not rfl rfl rfl) ?_
   (refine aqSeg rfl rfl rfl ?_; repeat (first | exact fun _ _ => rfl | refine upd_out rfl ?_))
  simp only [nA]
  refine aqP (op_move rfl rfl) ?_
  refine' aqOr' [_, _, _, _] [14,15,16,17] rfl rfl rfl rfl rfl rfl rfl rfl rfl rfl rfl rfl (fun hb => ?_) ?_; rotate_left
  ·
   (try simp only [hcS] at hb)
   (refine aqP (op_fa_ptr rfl rfl rfl fl32_2 (by exact sz3) (by decide) rfl) ?_)
   (refine aqR (op_load_ptr1 rfl rfl rfl rfl ag3 rfl rfl) ?_)
   refine aqQ (op_callQ (b := true) rfl en93 (C93) (RL.cons (by exact View.same rfl) (RL.cons (by exact View.same rfl) (RL.cons (by exact View.same rfl) (RL.nil)))) rfl) ?_; (simp only [nA])
   refine aqP (op_not rfl rfl rfl) ?_
   (refine aqSeg rfl rfl rfl ?_; repeat (first | exact fun _ _ => rfl | refine upd_out rfl ?_))
  simp only [nA]
  refine AQ.nil ?_
  (refine hK _ ?_; clear hK K; (skip))
  refine AW.cond rfl rfl rfl (fun hc => ?_) (fun hc => ?_)
  ·
   (try simp only [hcS] at hc); have hc1 := hc
   (refine AW.seq_k ?_; intro K hK)
   refine AW.region ?_
   refine awP (op_assign rfl rfl) ?_
   refine AWL.nil ?_
   (refine hK _ ?_; clear hK K; (try simp only [nA, Nat.reduceBEq, Nat.reduceEqDiff, ↓reduceIte, Nat.reduceAdd, Nat.reduceSub]))
   skip
   refine AW.ret ?_; (try simp only [thenE, inBlk, Nat.reduceEqDiff, ↓reduceIte]); rw [show opB o = false by unfold opB; rw [if_pos (by simpa using hc)]]; exact RQ.of0 rfl (.tmp (bl rfl) rfl rfl .nil)
  (try simp only [hcS] at hc); have hc1 := hc
  refine AW.skip ?_
  (refine hK _ ?_; clear hK K; (skip))
  (refine AW.seq_k ?_; intro K hK)
  refine AW.region (AWL.quiet ?_)
  (refine aqP (op_fa_ptr rfl rfl rfl fl32_3 (by exact sz3) (by decide) rfl) ?_)
  (refine aqR (op_load_ptr1 rfl rfl rfl rfl ag3 rfl rfl) ?_)
  (refine aqP (op_eql rfl rfl rfl) ?_)
  refine aqP (op_move rfl rfl) ?_
  refine' aqOr' [_, _, _] [23,24,25] rfl rfl rfl rfl rfl rfl rfl rfl rfl rfl rfl rfl (fun hb => ?_) ?_; rotate_left
  ·
   (try simp only [hcS] at hb)
   (refine aqP (op_fa_ptr rfl rfl rfl fl32_3 (by exact sz3) (by decide) rfl) ?_)
   (refine aqR (op_load_ptr1 rfl rfl rfl rfl ag3 rfl rfl) ?_)
   (refine aqP (op_eql rfl rfl rfl) ?_)
   (refine aqSeg rfl rfl rfl ?_; repeat (first | exact fun _ _ => rfl | refine upd_out rfl ?_))
  simp only [nA]
  refine aqP (op_move rfl rfl) ?_
  refine' aqAnd' [_, _, _] [28,29,30] rfl rfl rfl rfl rfl rfl rfl rfl rfl rfl rfl rfl (fun hb => ?_) ?_; rotate_left
  ·
   (try simp only [hcS] at hb)
   (refine aqP (op_fa_ptr rfl rfl rfl fl32_4 (by exact sz3) (by decide) rfl) ?_)
   (refine aqR (op_load_ptr1 rfl rfl rfl rfl ag3 rfl rfl) ?_)
   refine aqQ (op_callQ (b := true) rfl en93 (C93) (RL.cons (by exact View.same rfl) (RL.cons (by exact View.same rfl) (RL.cons (by exact View.same rfl) (RL.nil)))) rfl) ?_; (simp only [nA])
   (refine aqSeg rfl rfl rfl ?_; repeat (first | exact fun _ _ => rfl | refine upd_out rfl ?_))
  simp only [nA]
  refine aqP (op_move rfl rfl) ?_
  refine' aqAnd' [_, _, _] [33,34,35] rfl rfl rfl rfl rfl rfl rfl rfl rfl rfl rfl rfl (fun hb => ?_) ?_; rotate_left
  ·
   (try simp only [hcS] at hb)
   (refine aqP (op_fa_ptr rfl rfl rfl fl32_5 (by exact sz30) (by decide) rfl) ?_)
   (refine aqR (op_load_ptr rfl rfl rfl rfl ag30 sz30 (bl rfl) rfl) ?_)
   refine aqQ (op_callQ (b := true) rfl en94 (C94 (p := o.piece)) (RL.cons (by exact View.same rfl) (RL.nil)) rfl) ?_; (simp only [nA])
   (refine aqSeg rfl rfl rfl ?_; repeat (first | exact fun _ _ => rfl | refine upd_out rfl ?_))
  simp only [nA]
  refine aqP (op_assign rfl rfl) ?_
  refine AQ.nil ?_
  (refine hK _ ?_; clear hK K; (simp only [nA]))
  skip
  refine AW.ret ?_; (try simp only [thenE, inBlk, Nat.reduceEqDiff, ↓reduceIte]); rw [show opB o = (((decide (o.kind = 1) || decide (o.kind = 2)) && inB o.cont 1 999) && piB o.piece) by unfold opB; rw [if_neg (by simpa using hc1)]]; exact RQ.of0 rfl (.tmp (bl rfl) rfl rfl .nil)
end Go.Proofs.YtfmnaigedgmhoaaDoor
namespace Go.Proofs.YtfmnaigedgmhoaaDoor
open Go.RowKit
set_option linter.unusedSimpArgs false
set_option linter.unusedVariables false
set_option maxRecDepth 100000
instance : Inhabited Piece := ⟨⟨⟨0, 0, 0⟩, 0, 0⟩⟩
theorem get_mapD {α β : Type} [Inhabited α] {f : α → β} {xs : List α} {m : Nat} (h : m < xs.length) : (xs.map f)[m]? = some (f (xs.getD m default)) := by
  rw [List.getD_eq_getElem?_getD]; simp [h]
end Go.Proofs.YtfmnaigedgmhoaaDoor
namespace Go.Proofs.YtfmnaigedgmhoaaDoor
open Go.RowKit
set_option linter.unusedSimpArgs false
set_option linter.unusedVariables false
set_option maxRecDepth 100000
abbrev iv (n : Int) : List AV := [.v (.int .i64 n)]
abbrev srcRow (l : List Int) (k : Nat) : List AV := [.ro (l.map iv), .v (.int .i64 (k : Nat))]
theorem iv_len (l : List Int) : ∀ x ∈ l.map iv, x.length = 1 := fun x hx => by
  obtain ⟨p, _, rfl⟩ := List.mem_map.1 hx; rfl
theorem one_out {T : Sl} {x : AV} (h : T.slots[0]? = some (0, x)) : ∀ (r : Nat) (y : AV), [x][r]? = some y → T.slots[r]? = some (0, y) := fun r y hy => by
  cases r with
  | zero => simp at hy; subst hy; exact h
  | succ r => simp at hy
set_option maxHeartbeats 8000000 in
theorem C9 {l : List Int} : FnB Tryd.prog 9 [.ro (l.map iv)] 68 (srcRow (l.take 2000) 0) := by
  refine FnB.body Tryd.func9 rfl Tryd.ntmps9 (by simp) sz68 ?_; intro S0 own0 v0 w0 gl
  (refine AW.seq_k ?_; intro K hK)
  refine AW.region ?_
  refine awP (op_assign rfl rfl) ?_
  refine AWL.nil ?_
  (refine hK _ ?_; clear hK K; (try simp only [nA, Nat.reduceBEq, Nat.reduceEqDiff, ↓reduceIte, Nat.reduceAdd, Nat.reduceSub]))
  (refine AW.seq_k ?_; intro K hK)
  (refine AW.seq_k ?_; intro K hK)
  refine AW.region ?_
  refine awP (op_move rfl rfl) ?_
  (refine awP (op_len_ro rfl rfl Tryd.underlying36 (by exact .inr (.inl ⟨_, rfl, rfl⟩))) ?_)
  refine awP (op_gtr rfl rfl rfl) ?_
  refine AWL.nil ?_
  (refine hK _ ?_; clear hK K; (simp only [nA, ↓reduceIte]))
  refine AW.cond rfl rfl rfl (fun hc => ?_) (fun hc => ?_)
  ·
   (try simp only [hcS] at hc); have hc1 := hc
   refine AW.region ?_
   refine awP (op_move rfl rfl) ?_
   refine awP (op_slice_ro 0 2000 rfl (.inl rfl) (by exact rfl) (by exact ⟨_, rfl⟩) (by omega) (by simp; omega) Tryd.underlying36 sz36 (iv_len l) (es' := (l.take 2000).map iv) (by simp [List.map_take])) ?_; (simp only [nA, ↓reduceIte])
   refine awP (op_assign rfl rfl) ?_
   refine AWL.nil ?_
   (refine hK _ ?_; clear hK K; (simp only [nA]))
   (refine AW.seq_k ?_; intro K hK)
   refine AW.region ?_
   refine awP (op_move rfl rfl) ?_
   refine awP (op_build2 (xs := [_, .v (.int .i64 0)]) rfl pl68 ze68 [(0, [_])] rfl rfl rfl) ?_
   refine awJ (op_box rfl rfl rfl sz68 rfl) ?_; (simp only [nA, Nat.reduceBEq, Nat.reduceEqDiff, ↓reduceIte])
   refine awP (op_assign rfl rfl) ?_
   refine AWL.nil ?_
   (refine hK _ ?_; clear hK K; (simp only [nA]))
   skip
   refine AW.ret ?_; (try simp only [thenE, inBlk, Nat.reduceEqDiff, ↓reduceIte]); exact ⟨2, 0, 1, rfl, (bl rfl), rfl, rfl⟩
  (try simp only [hcS] at hc); have hc1 := hc
  refine AW.skip ?_
  (refine hK _ ?_; clear hK K; (skip))
  (refine AW.seq_k ?_; intro K hK)
  refine AW.region ?_
  refine awP (op_move rfl rfl) ?_
  refine awP (op_build2 (xs := [_, .v (.int .i64 0)]) rfl pl68 ze68 [(0, [_])] rfl rfl rfl) ?_
  refine awJ (op_box rfl rfl rfl sz68 rfl) ?_; (simp only [nA, Nat.reduceBEq, Nat.reduceEqDiff, ↓reduceIte])
  refine awP (op_assign rfl rfl) ?_
  refine AWL.nil ?_
  (refine hK _ ?_; clear hK K; (simp only [nA]))
  skip
  refine AW.ret ?_; (try simp only [thenE, inBlk, Nat.reduceEqDiff, ↓reduceIte]); rw [show l.take 2000 = l from List.take_of_length_le (by omega)]; exact ⟨2, 0, 1, rfl, (bl rfl), rfl, rfl⟩
def gmod (x n : Int) : Int := if n < 1 then 0 else if Int.tmod x n < 0 then Int.tmod x n + n else Int.tmod x n
theorem gmod_bd {x n : Int} (h : 1 ≤ n) : 0 ≤ gmod x n ∧ gmod x n < n := by
  unfold gmod
  have h1 : Int.tmod x n < n := Int.tmod_lt_of_pos x (by omega)
  have h2 : -n < Int.tmod x n := Int.lt_tmod_of_pos x (by omega)
  rw [if_neg (by omega)]
  split <;> omega
set_option maxHeartbeats 8000000 in
theorem C21 {x n : Int} (hn : n ≤ 9223372036854775807) : Fn Tryd.prog 21 [] [.v (.int .i64 x), .v (.int .i64 n)] [.v (.int .i64 (gmod x n))] [] := by
  refine Spec.body Tryd.func21 rfl Tryd.ntmps21 (by simp) rfl ?_; intro S0 own0 v0 w0 gl
  (refine AW.seq_k ?_; intro K hK)
  refine AW.region ?_
  refine awP (op_assign rfl rfl) ?_
  refine AWL.nil ?_
  (refine hK _ ?_; clear hK K; (try simp only [nA, Nat.reduceBEq, Nat.reduceEqDiff, ↓reduceIte, Nat.reduceAdd, Nat.reduceSub]))
  (refine AW.seq_k ?_; intro K hK)
  (refine AW.seq_k ?_; intro K hK)
  refine AW.region ?_
  refine awP (op_move rfl rfl) ?_
  refine awP (op_lss rfl rfl rfl) ?_
  refine AWL.nil ?_
  (refine hK _ ?_; clear hK K; (simp only [nA, ↓reduceIte]))
  refine AW.cond rfl rfl rfl (fun hc => ?_) (fun hc => ?_)
  ·
   (try simp only [hcS] at hc); have hc1 := hc
   (refine AW.seq_k ?_; intro K hK)
   refine AW.region ?_
   refine awP (op_assign rfl rfl) ?_
   refine AWL.nil ?_
   (refine hK _ ?_; clear hK K; (try simp only [nA, Nat.reduceBEq, Nat.reduceEqDiff, ↓reduceIte, Nat.reduceAdd, Nat.reduceSub]))
   skip
   refine AW.ret ?_; (try simp only [thenE, inBlk, Nat.reduceEqDiff, ↓reduceIte]); rw [show gmod x n = 0 by unfold gmod; rw [if_pos hc]]; exact RQ.of0 rfl (.tmp (bl rfl) rfl rfl .nil)
  (try simp only [hcS] at hc); have hc1 := hc; have h1 : Int.tmod x n < n := Int.tmod_lt_of_pos x (by omega); have h2 : -n < Int.tmod x n := Int.lt_tmod_of_pos x (by omega)
  refine AW.skip ?_
  (refine hK _ ?_; clear hK K; (skip))
  (refine AW.seq_k ?_; intro K hK)
  refine AW.region ?_
  refine awP (op_move rfl rfl) ?_
  refine awP (op_move rfl rfl) ?_
  refine awP (op_rem rfl rfl rfl (by omega) rfl) ?_
  refine awP (op_assign rfl rfl) ?_
  refine AWL.nil ?_
  (refine hK _ ?_; clear hK K; (simp only [nA, ↓reduceIte]))
  (refine AW.seq_k ?_; intro K hK)
  (refine AW.seq_k ?_; intro K hK)
  refine AW.region ?_
  refine awP (op_move rfl rfl) ?_
  refine awP (op_lss rfl rfl rfl) ?_
  refine AWL.nil ?_
  (refine hK _ ?_; clear hK K; (simp only [nA]))
  refine AW.cond rfl rfl rfl (fun hc => ?_) (fun hc => ?_)
  ·
   (try simp only [hcS] at hc); have hc2 := hc
   refine AW.region ?_
   refine awP (op_move rfl rfl) ?_
   refine awP (op_move rfl rfl) ?_
   (refine awP (op_addi rfl rfl rfl (by omega)) ?_)
   refine awP (op_assign rfl rfl) ?_
   refine AWL.nil ?_
   (refine hK _ ?_; clear hK K; (simp only [nA, ↓reduceIte]))
   (refine AW.seq_k ?_; intro K hK)
   refine AW.region ?_
   refine awP (op_move rfl rfl) ?_
   refine awP (op_assign rfl rfl) ?_
   refine AWL.nil ?_
   (refine hK _ ?_; clear hK K; (simp only [nA]))
   skip
   refine AW.ret ?_; (try simp only [thenE, inBlk, Nat.reduceEqDiff, ↓reduceIte]); rw [show gmod x n = Int.tmod x n + n by unfold gmod; rw [if_neg (by omega), if_pos (by omega)]]; exact RQ.of0 rfl (.tmp (bl rfl) rfl rfl .nil)
  (try simp only [hcS] at hc); have hc2 := hc
  refine AW.skip ?_
  (refine hK _ ?_; clear hK K; (skip))
  (refine AW.seq_k ?_; intro K hK)
  refine AW.region ?_
  refine awP (op_move rfl rfl) ?_
  refine awP (op_assign rfl rfl) ?_
  refine AWL.nil ?_
  (refine hK _ ?_; clear hK K; (simp only [nA, ↓reduceIte]))
  skip
  refine AW.ret ?_; (try simp only [thenE, inBlk, Nat.reduceEqDiff, ↓reduceIte]); rw [show gmod x n = Int.tmod x n by unfold gmod; rw [if_neg (by omega), if_neg (by omega)]]; exact RQ.of0 rfl (.tmp (bl rfl) rfl rfl .nil)
def rawV (l : List Int) (k : Nat) : Int := l.getD k default
def rawN (l : List Int) (k : Nat) : Nat := if k < l.length then k + 1 else k
set_option maxHeartbeats 8000000 in
theorem C45 {l : List Int} {k : Nat} (hl : l.length ≤ 2000) : Fn Tryd.prog 45 [.own 68 [srcRow l k]] [.ptr 0 0 0 0] [.v (.int .i64 (rawV l k))] [.own 68 [srcRow l (rawN l k)]] := by
  refine Spec.body Tryd.func45 rfl Tryd.ntmps45 (by simp) rfl ?_; intro S0 own0 v0 w0 gl
  (refine AW.seq_k ?_; intro K hK)
  refine AW.region ?_
  refine awP (op_assign rfl rfl) ?_
  refine AWL.nil ?_
  (refine hK _ ?_; clear hK K; (try simp only [nA, Nat.reduceBEq, Nat.reduceEqDiff, ↓reduceIte, Nat.reduceAdd, Nat.reduceSub]))
  (refine AW.seq_k ?_; intro K hK)
  (refine AW.seq_k ?_; intro K hK)
  refine AW.quiet mix (by kernel_rfl) ?_
  refine aqP (op_move rfl rfl) ?_
  (refine aqP (op_nil_slot rfl rfl rfl) ?_)
  (refine aqP (op_fa_ptr rfl rfl rfl fl68_1 (by exact sz3) (by decide) rfl) ?_)
  (refine aqR (op_load_ptr1 rfl rfl rfl rfl ag3 rfl rfl) ?_)
  refine aqP (op_move rfl rfl) ?_
  (refine aqP (op_nil_slot rfl rfl rfl) ?_)
  (refine aqP (op_fa_ptr rfl rfl rfl fl68_0 (by exact sz36) (by decide) rfl) ?_)
  (refine aqR (op_load_ptr1 rfl rfl rfl rfl ag36 rfl rfl) ?_)
  (refine aqP (op_len_ro rfl rfl Tryd.underlying36 (by exact .inr (.inl ⟨_, rfl, rfl⟩))) ?_)
  refine aqP (op_geq rfl rfl rfl) ?_
  refine AQ.nil ?_
  (refine hK _ ?_; clear hK K; (simp only [nA, ↓reduceIte]))
  refine AW.cond rfl rfl rfl (fun hc => ?_) (fun hc => ?_)
  ·
   (try simp only [hcS] at hc); have hc1 := hc
   (refine AW.seq_k ?_; intro K hK)
   refine AW.region ?_
   refine awP (op_assign rfl rfl) ?_
   refine AWL.nil ?_
   (refine hK _ ?_; clear hK K; (try simp only [nA, Nat.reduceBEq, Nat.reduceEqDiff, ↓reduceIte, Nat.reduceAdd, Nat.reduceSub]))
   skip
   refine AW.ret ?_; (try simp only [thenE, inBlk, Nat.reduceEqDiff, ↓reduceIte]); rw [show rawV l k = 0 by unfold rawV; rw [List.getD_eq_getElem?_getD, List.getElem?_eq_none (by omega)]; rfl, show rawN l k = k by unfold rawN; rw [if_neg (by omega)]]; exact RQ.of (.inl rfl) rfl (.tmp (bl rfl) rfl rfl .nil) (by simp) rfl (one_out rfl)
  (try simp only [hcS] at hc); have hc1 := hc
  refine AW.skip ?_
  (refine hK _ ?_; clear hK K; (skip))
  (refine AW.seq_k ?_; intro K hK)
  refine AW.region ?_
  refine awP (op_move rfl rfl) ?_
  (refine awP (op_nil_slot rfl rfl rfl) ?_)
  (refine awP (op_fa_ptr rfl rfl rfl fl68_1 (by exact sz3) (by decide) rfl) ?_)
  (refine awR (op_load_ptr1 rfl rfl rfl rfl ag3 rfl rfl) ?_)
  (refine awP (op_addi rfl rfl rfl (by omega)) ?_)
  (refine awP (op_nil_slot rfl rfl rfl) ?_)
  (refine awP (op_fa_ptr rfl rfl rfl fl68_1 (by exact sz3) (by decide) rfl) ?_)
  refine awJ (op_store rfl rfl rfl rfl rfl rfl sz3 rfl (bl rfl) rfl) ?_; (simp only [nA, ↓reduceIte])
  refine AWL.nil ?_
  (refine hK _ ?_; clear hK K; (skip))
  (refine AW.seq_k ?_; intro K hK)
  refine AW.quiet mix (by kernel_rfl) ?_
  refine aqP (op_move rfl rfl) ?_
  (refine aqP (op_nil_slot rfl rfl rfl) ?_)
  (refine aqP (op_fa_ptr rfl rfl rfl fl68_0 (by exact sz36) (by decide) rfl) ?_)
  (refine aqR (op_load_ptr1 rfl rfl rfl rfl ag36 rfl rfl) ?_)
  refine aqP (op_move rfl rfl) ?_
  (refine aqP (op_nil_slot rfl rfl rfl) ?_)
  (refine aqP (op_fa_ptr rfl rfl rfl fl68_1 (by exact sz3) (by decide) rfl) ?_)
  (refine aqR (op_load_ptr1 rfl rfl rfl rfl ag3 rfl rfl) ?_)
  (refine aqP (op_subi rfl rfl rfl (by omega)) ?_)
  (refine aqP (op_ia_ro k rfl (.inl rfl) rfl Tryd.underlying36 (by omega) (get_mapD (by omega)) (by exact sz3) (bl rfl)) ?_)
  (refine aqR (op_load_rop1 rfl rfl ag3) ?_)
  refine aqP (op_assign rfl rfl) ?_
  refine AQ.nil ?_
  (refine hK _ ?_; clear hK K; (simp only [nA, ↓reduceIte]))
  skip
  refine AW.ret ?_; (try simp only [thenE, inBlk, Nat.reduceEqDiff, ↓reduceIte]); rw [show rawN l k = k + 1 by unfold rawN; rw [if_pos (by omega)]]; exact RQ.of (.inl rfl) rfl (.tmp (bl rfl) rfl rfl .nil) (by simp) rfl (one_out rfl)
end Go.Proofs.YtfmnaigedgmhoaaDoor
namespace Go.Proofs.YtfmnaigedgmhoaaDoor
open Go.RowKit
set_option linter.unusedSimpArgs false
set_option linter.unusedVariables false
set_option maxRecDepth 100000
set_option maxHeartbeats 8000000 in
theorem C22 {l : List Int} {k : Nat} {n : Int} (hl : l.length ≤ 2000) (hn : n ≤ 9223372036854775807) : Fn Tryd.prog 22 [.own 68 [srcRow l k]] [.ptr 0 0 0 0, .v (.int .i64 n)] [.v (.int .i64 (gmod (rawV l k) n))] [.own 68 [srcRow l (rawN l k)]] := by
  refine Spec.body Tryd.func22 rfl Tryd.ntmps22 (by simp) rfl ?_; intro S0 own0 v0 w0 gl
  (refine AW.seq_k ?_; intro K hK)
  refine AW.region ?_
  refine awP (op_assign rfl rfl) ?_; (try simp only [nA, Nat.reduceBEq, Nat.reduceEqDiff, ↓reduceIte, Nat.reduceAdd, Nat.reduceSub])
  refine AWL.nil ?_
  (refine hK _ ?_; clear hK K; (try simp only [nA, Nat.reduceBEq, Nat.reduceEqDiff, ↓reduceIte, Nat.reduceAdd, Nat.reduceSub]))
  (refine AW.seq_k ?_; intro K hK)
  refine AW.region ?_
  refine awP (op_move rfl rfl) ?_; (simp only [nA, ↓reduceIte])
  refine awJ (op_call1 rfl en45 (C45 hl) (by exact rfl) (RL.cons .ptr (RL.nil)) (by exact ⟨_, _, _, rfl, rfl, rfl⟩) (by exact rfl) (by exact rfl) (by exact rfl)) ?_; (try simp only [nA, Nat.reduceBEq, Nat.reduceEqDiff, ↓reduceIte, Nat.reduceAdd, Nat.reduceSub])
  refine awP (op_move rfl rfl) ?_; (simp only [nA, ↓reduceIte])
  refine awJ (OpQ.j (op_callQ (b := true) rfl en21 (C21 (by omega)) (RL.cons (by exact View.same rfl) (RL.cons (by exact View.same rfl) (RL.nil))) rfl)) ?_; (try simp only [nA, Nat.reduceBEq, Nat.reduceEqDiff, ↓reduceIte, Nat.reduceAdd, Nat.reduceSub])
  refine awP (op_assign rfl rfl) ?_; (simp only [nA])
  refine AWL.nil ?_
  (refine hK _ ?_; clear hK K; (skip))
  skip
  refine AW.ret ?_; (try simp only [thenE, inBlk, Nat.reduceEqDiff, ↓reduceIte]); exact RQ.of (.inl rfl) rfl (.tmp (bl rfl) rfl rfl .nil) (by simp) rfl (one_out rfl)
def platesP (i : Int) : Plate := ⟨gmod i 1000 / 500, 117 + gmod i 1000 / 100 % 5, 1000 + gmod i 1000 % 100⟩
set_option maxHeartbeats 8000000 in
theorem C49 {i : Int} : Fn Tryd.prog 49 [] [.v (.int .i64 i)] [.agg (platesP i).av] [] := by
  have hg := gmod_bd (x := i) (n := 1000) (by decide)
  refine Spec.body Tryd.func49 rfl Tryd.ntmps49 (by simp) rfl ?_; intro S0 own0 v0 w0 gl
  (refine AW.seq_k ?_; intro K hK)
  refine AW.region ?_
  refine awJ (op_alloc rfl ze23 rfl) ?_; (simp only [nA, Nat.reduceBEq, Nat.reduceEqDiff, ↓reduceIte])
  refine AWL.nil ?_
  (refine hK _ ?_; clear hK K; (try simp only [nA, Nat.reduceBEq, Nat.reduceEqDiff, ↓reduceIte, Nat.reduceAdd, Nat.reduceSub]))
  (refine AW.seq_k ?_; intro K hK)
  refine AW.region ?_
  refine awP (op_move rfl rfl) ?_; (simp only [nA, ↓reduceIte])
  refine awJ (OpQ.j (op_callQ (b := true) rfl en21 (C21 (n := 1000) (by decide)) (RL.cons (by exact View.same rfl) (RL.cons (by exact View.same rfl) (RL.nil))) rfl)) ?_; (try simp only [nA, Nat.reduceBEq, Nat.reduceEqDiff, ↓reduceIte, Nat.reduceAdd, Nat.reduceSub])
  refine awP (op_assign rfl rfl) ?_; (simp only [nA])
  refine AWL.nil ?_
  (refine hK _ ?_; clear hK K; (skip))
  (refine AW.seq_k ?_; intro K hK)
  refine AW.region ?_
  refine awP (op_move rfl rfl) ?_; (simp only [nA])
  (refine awP (op_quoi rfl rfl rfl (by omega)) ?_); (try simp only [nA, Nat.reduceBEq, Nat.reduceEqDiff, ↓reduceIte, Nat.reduceAdd, Nat.reduceSub])
  refine awP (op_move rfl rfl) ?_; (simp only [nA, ↓reduceIte])
  (refine awP (op_quoi rfl rfl rfl (by omega)) ?_); (try simp only [nA, Nat.reduceBEq, Nat.reduceEqDiff, ↓reduceIte, Nat.reduceAdd, Nat.reduceSub])
  (refine awP (op_remi rfl rfl rfl (by omega)) ?_); (try simp only [nA, Nat.reduceBEq, Nat.reduceEqDiff, ↓reduceIte, Nat.reduceAdd, Nat.reduceSub])
  (refine awP (op_addi rfl rfl rfl (by omega)) ?_); (try simp only [nA, Nat.reduceBEq, Nat.reduceEqDiff, ↓reduceIte, Nat.reduceAdd, Nat.reduceSub])
  refine awP (op_move rfl rfl) ?_; (simp only [nA, ↓reduceIte])
  (refine awP (op_remi rfl rfl rfl (by omega)) ?_); (try simp only [nA, Nat.reduceBEq, Nat.reduceEqDiff, ↓reduceIte, Nat.reduceAdd, Nat.reduceSub])
  (refine awP (op_addi rfl rfl rfl (by omega)) ?_); (try simp only [nA, Nat.reduceBEq, Nat.reduceEqDiff, ↓reduceIte, Nat.reduceAdd, Nat.reduceSub])
  refine awP (op_build2 (xs := [_, _, _]) rfl pl23 ze23 [(0, [_]), (1, [_]), (2, [_])] rfl rfl rfl) ?_; (simp only [nA, ↓reduceIte])
  refine awJ (op_store rfl rfl rfl rfl rfl rfl sz23 rfl (bl rfl) rfl) ?_; (simp only [nA, Nat.reduceBEq, Nat.reduceEqDiff, ↓reduceIte])
  refine AWL.nil ?_
  (refine hK _ ?_; clear hK K; (skip))
  skip
  refine AW.ret ?_; (try simp only [thenE, inBlk, Nat.reduceEqDiff, ↓reduceIte]); exact RQ.of0 rfl (.cell (bl rfl) rfl rfl rfl ag23 sz23 (bl rfl) rfl rfl .nil)
end Go.Proofs.YtfmnaigedgmhoaaDoor
namespace Go.Proofs.YtfmnaigedgmhoaaDoor
open Go.RowKit
set_option linter.unusedSimpArgs false
set_option linter.unusedVariables false
set_option maxRecDepth 100000
theorem iv_flat (l : List Int) : ∀ r ∈ l.map iv, ∀ c ∈ r, flatA c = true := fun r hr c hc => by
  obtain ⟨p, _, rfl⟩ := List.mem_map.1 hr
  obtain rfl : c = _ := by simpa using hc
  rfl
def pickV (l : List Int) (k : Nat) (xs : List Int) : Int := xs.getD (gmod (rawV l k) (xs.length : Nat)).toNat default
theorem pickV_mem {l : List Int} {k : Nat} {xs : List Int} (h : 1 ≤ xs.length) : pickV l k xs ∈ xs := by
  have hg := gmod_bd (x := rawV l k) (n := (xs.length : Nat)) (by omega)
  unfold pickV
  rw [List.getD_eq_getElem?_getD, List.getElem?_eq_getElem (by omega)]
  exact List.getElem_mem _
set_option maxHeartbeats 8000000 in
theorem C27 {l : List Int} {k : Nat} {xs : List Int} (hl : l.length ≤ 2000) (h1 : 1 ≤ xs.length) (h2 : xs.length ≤ 1000) : Fn Tryd.prog 27 [.own 68 [srcRow l k]] [.ptr 0 0 0 0, .ro (xs.map iv)] [.v (.int .i64 (pickV l k xs))] [.own 68 [srcRow l (rawN l k)]] := by
  have hg := gmod_bd (x := rawV l k) (n := (xs.length : Nat)) (by omega)
  refine Spec.body Tryd.func27 rfl Tryd.ntmps27 (by simp) rfl ?_; intro S0 own0 v0 w0 gl
  (refine AW.seq_k ?_; intro K hK)
  refine AW.region ?_
  refine awP (op_assign rfl rfl) ?_; (try simp only [nA, Nat.reduceBEq, Nat.reduceEqDiff, ↓reduceIte, Nat.reduceAdd, Nat.reduceSub])
  refine AWL.nil ?_
  (refine hK _ ?_; clear hK K; (try simp only [nA, Nat.reduceBEq, Nat.reduceEqDiff, ↓reduceIte, Nat.reduceAdd, Nat.reduceSub]))
  (refine AW.seq_k ?_; intro K hK)
  refine AW.region ?_
  refine awP (op_move rfl rfl) ?_; (simp only [nA, ↓reduceIte])
  refine awP (op_move rfl rfl) ?_; (simp only [nA, ↓reduceIte])
  refine awP (op_move rfl rfl) ?_; (simp only [nA, ↓reduceIte])
  (refine awP (op_len_ro rfl rfl Tryd.underlying36 (by exact .inr (.inl ⟨_, rfl, rfl⟩))) ?_); (try simp only [nA, Nat.reduceBEq, Nat.reduceEqDiff, ↓reduceIte, Nat.reduceAdd, Nat.reduceSub])
  refine awJ (op_call1 rfl en22 (C22 hl (n := (xs.length : Nat)) (by omega)) (by exact rfl) (RL.cons .ptr (RL.cons (.base (by exact View.same rfl)) (RL.nil))) (by exact ⟨_, _, _, rfl, rfl, rfl⟩) (by exact rfl) (by exact rfl) (by exact rfl)) ?_; (try simp only [nA, Nat.reduceBEq, Nat.reduceEqDiff, ↓reduceIte, Nat.reduceAdd, Nat.reduceSub])
  (refine awP (op_ia_ro (gmod (rawV l k) (xs.length : Nat)).toNat rfl (.inl rfl) rfl Tryd.underlying36 (by omega) (get_mapD (by omega)) (by exact sz3) (bl rfl)) ?_); (try simp only [nA, Nat.reduceBEq, Nat.reduceEqDiff, ↓reduceIte, Nat.reduceAdd, Nat.reduceSub])
  (refine awR (op_load_rop1 rfl rfl ag3) ?_); (try simp only [nA, Nat.reduceBEq, Nat.reduceEqDiff, ↓reduceIte, Nat.reduceAdd, Nat.reduceSub])
  refine awP (op_assign rfl rfl) ?_; (simp only [nA])
  refine AWL.nil ?_
  (refine hK _ ?_; clear hK K; (skip))
  skip
  refine AW.ret ?_; (try simp only [thenE, inBlk, Nat.reduceEqDiff, ↓reduceIte]); exact RQ.of (.inl rfl) rfl (.tmp (bl rfl) rfl rfl .nil) (by simp) rfl (one_out rfl)
set_option maxHeartbeats 8000000 in
theorem C26 {l : List Int} {k : Nat} {n : Int} (hl : l.length ≤ 2000) (hn : n ≤ 9223372036854775807) : Fn Tryd.prog 26 [.own 68 [srcRow l k]] [.ptr 0 0 0 0, .v (.int .i64 n)] [.agg (platesP (gmod (rawV l k) n)).av] [.own 68 [srcRow l (rawN l k)]] := by
  refine Spec.body Tryd.func26 rfl Tryd.ntmps26 (by simp) rfl ?_; intro S0 own0 v0 w0 gl
  (refine AW.seq_k ?_; intro K hK)
  refine AW.region ?_
  refine awJ (op_alloc rfl ze23 rfl) ?_; (simp only [nA, Nat.reduceBEq, Nat.reduceEqDiff, ↓reduceIte])
  refine AWL.nil ?_
  (refine hK _ ?_; clear hK K; (try simp only [nA, Nat.reduceBEq, Nat.reduceEqDiff, ↓reduceIte, Nat.reduceAdd, Nat.reduceSub]))
  (refine AW.seq_k ?_; intro K hK)
  refine AW.region ?_
  refine awP (op_move rfl rfl) ?_; (simp only [nA, ↓reduceIte])
  refine awP (op_move rfl rfl) ?_; (simp only [nA, ↓reduceIte])
  refine awJ (op_call1 rfl en22 (C22 hl hn) (by exact rfl) (RL.cons .ptr (RL.cons (.base (by exact View.same rfl)) (RL.nil))) (by exact ⟨_, _, _, rfl, rfl, rfl⟩) (by exact rfl) (by exact rfl) (by exact rfl)) ?_; (try simp only [nA, Nat.reduceBEq, Nat.reduceEqDiff, ↓reduceIte, Nat.reduceAdd, Nat.reduceSub])
  refine awJ (op_call (b := false) rfl en49 (C49 (i := gmod (rawV l k) n)) (RL.cons (by exact View.same rfl) (RL.nil)) rfl (fun h => by cases h) rfl rfl) ?_; (try simp only [nA, Nat.reduceBEq, Nat.reduceEqDiff, ↓reduceIte, Nat.reduceAdd, Nat.reduceSub])
  refine awJ (op_store rfl rfl rfl rfl rfl rfl sz23 rfl (bl rfl) rfl) ?_; (simp only [nA, Nat.reduceBEq, Nat.reduceEqDiff, ↓reduceIte])
  refine AWL.nil ?_
  (refine hK _ ?_; clear hK K; (skip))
  skip
  refine AW.ret ?_; (try simp only [thenE, inBlk, Nat.reduceEqDiff, ↓reduceIte]); exact RQ.of (.inl rfl) rfl (.cell (bl rfl) rfl rfl rfl ag23 sz23 (bl rfl) rfl rfl .nil) (by simp) rfl (one_out rfl)
abbrev catsL : List Int := [0, 0, 0, 1, 1, 2, 3, 4]
abbrev pieceV (l : List Int) (k : Nat) (n : Int) : Piece := ⟨platesP (gmod (rawV l k) n), 1 + gmod (rawV l (rawN l k)) 40, pickV l (rawN l (rawN l k)) catsL⟩
set_option maxHeartbeats 8000000 in
theorem C50 {l : List Int} {k : Nat} {n : Int} (hl : l.length ≤ 2000) (hn : n ≤ 9223372036854775807) : Fn Tryd.prog 50 [.own 68 [srcRow l k]] [.ptr 0 0 0 0, .v (.int .i64 n)] [.agg (pieceV l k n).av] [.own 68 [srcRow l (rawN l (rawN l (rawN l k)))]] := by
  have hg := gmod_bd (x := rawV l (rawN l k)) (n := 40) (by decide)
  refine Spec.body Tryd.func50 rfl Tryd.ntmps50 (by simp) rfl ?_; intro S0 own0 v0 w0 gl
  (refine AW.seq_k ?_; intro K hK)
  refine AW.region ?_
  refine awJ (op_alloc rfl ze30 rfl) ?_; (simp only [nA, Nat.reduceBEq, Nat.reduceEqDiff, ↓reduceIte])
  refine AWL.nil ?_
  (refine hK _ ?_; clear hK K; (try simp only [nA, Nat.reduceBEq, Nat.reduceEqDiff, ↓reduceIte, Nat.reduceAdd, Nat.reduceSub]))
  (refine AW.seq_k ?_; intro K hK)
  refine AW.region ?_
  refine awP (op_move rfl rfl) ?_; (simp only [nA, ↓reduceIte])
  refine awP (op_move rfl rfl) ?_; (simp only [nA, ↓reduceIte])
  refine awJ (op_call1 rfl en26 (C26 hl hn) (by exact rfl) (RL.cons .ptr (RL.cons (.base (by exact View.same rfl)) (RL.nil))) (by exact ⟨_, _, _, rfl, rfl, rfl⟩) (by exact rfl) (by exact rfl) (by exact rfl)) ?_; (try simp only [nA, Nat.reduceBEq, Nat.reduceEqDiff, ↓reduceIte, Nat.reduceAdd, Nat.reduceSub])
  refine awP (op_move rfl rfl) ?_; (simp only [nA, ↓reduceIte])
  refine awJ (op_call1 rfl en22 (C22 (n := 40) hl (by decide)) (by exact rfl) (RL.cons .ptr (RL.cons (.base (by exact View.same rfl)) (RL.nil))) (by exact ⟨_, _, _, rfl, rfl, rfl⟩) (by exact rfl) (by exact rfl) (by exact rfl)) ?_; (try simp only [nA, Nat.reduceBEq, Nat.reduceEqDiff, ↓reduceIte, Nat.reduceAdd, Nat.reduceSub])
  (refine awP (op_addi rfl rfl rfl (by omega)) ?_); (try simp only [nA, Nat.reduceBEq, Nat.reduceEqDiff, ↓reduceIte, Nat.reduceAdd, Nat.reduceSub])
  refine awP (op_move rfl rfl) ?_; (simp only [nA, ↓reduceIte])
  refine awJ (op_buildSlice rfl [(0, iv 0), (1, iv 0), (2, iv 0), (3, iv 1), (4, iv 1), (5, iv 2), (6, iv 3), (7, iv 4)] (([0, 0, 0, 1, 1, 2, 3, 4] : List Int).map iv) Tryd.underlying36 ze3 rfl (by simp) (fold_dense 1 (([0, 0, 0, 1, 1, 2, 3, 4] : List Int).map iv) (iv_len _)) (iv_len _) rfl (bl rfl) (by simp [maxLen])) ?_; (simp only [nA, Nat.reduceBEq, Nat.reduceEqDiff, ↓reduceIte]); refine AWL.gh (Gh.freeze 12 (bl rfl) rfl rfl (iv_flat catsL) (es' := catsL.map iv) rfl) ?_; (try simp only [nA, Nat.reduceBEq, Nat.reduceEqDiff, ↓reduceIte, Nat.reduceAdd, Nat.reduceSub])
  refine awJ (op_call1 rfl en27 (C27 (xs := catsL) hl (by decide) (by decide)) (by exact rfl) (RL.cons .ptr (RL.cons (.base (by exact View.same rfl)) (RL.nil))) (by exact ⟨_, _, _, rfl, rfl, rfl⟩) (by exact rfl) (by exact rfl) (by exact rfl)) ?_; (try simp only [nA, Nat.reduceBEq, Nat.reduceEqDiff, ↓reduceIte, Nat.reduceAdd, Nat.reduceSub])
  refine awP (op_build2 (xs := [_, _, _, _, _]) rfl pl30 ze30 [(0, [_, _, _]), (1, [_]), (2, [_])] rfl rfl rfl) ?_; (simp only [nA, ↓reduceIte])
  refine awJ (op_store rfl rfl rfl rfl rfl rfl sz30 rfl (bl rfl) rfl) ?_; (simp only [nA, Nat.reduceBEq, Nat.reduceEqDiff, ↓reduceIte])
  refine AWL.nil ?_
  (refine hK _ ?_; clear hK K; (skip))
  skip
  refine AW.ret ?_; (try simp only [thenE, inBlk, Nat.reduceEqDiff, ↓reduceIte]); exact RQ.of (.inl rfl) rfl (.cell (bl rfl) rfl rfl rfl ag30 sz30 (bl rfl) rfl rfl .nil) (by simp) rfl (one_out rfl)
end Go.Proofs.YtfmnaigedgmhoaaDoor
namespace Go.Proofs.YtfmnaigedgmhoaaDoor
open Go.RowKit
set_option linter.unusedSimpArgs false
set_option linter.unusedVariables false
set_option maxRecDepth 100000
abbrev sv (s : ByteArray) : List AV := [.v (.string s)]
def textV (l : List Int) (k : Nat) (ss : List ByteArray) : ByteArray := ss.getD (gmod (rawV l k) (ss.length : Nat)).toNat default
set_option maxHeartbeats 8000000 in
theorem C25 {l : List Int} {k : Nat} {ss : List ByteArray} (hl : l.length ≤ 2000) (h1 : 1 ≤ ss.length) (h2 : ss.length ≤ 1000) : Fn Tryd.prog 25 [.own 68 [srcRow l k]] [.ptr 0 0 0 0, .ro (ss.map sv)] [.v (.string (textV l k ss))] [.own 68 [srcRow l (rawN l k)]] := by
  have hg := gmod_bd (x := rawV l k) (n := (ss.length : Nat)) (by omega)
  refine Spec.body Tryd.func25 rfl Tryd.ntmps25 (by simp) rfl ?_; intro S0 own0 v0 w0 gl
  (refine AW.seq_k ?_; intro K hK)
  refine AW.region ?_
  refine awP (op_assign rfl rfl) ?_
  refine AWL.nil ?_
  (refine hK _ ?_; clear hK K; (try simp only [nA, Nat.reduceBEq, Nat.reduceEqDiff, ↓reduceIte, Nat.reduceAdd, Nat.reduceSub]))
  (refine AW.seq_k ?_; intro K hK)
  refine AW.region ?_
  refine awP (op_move rfl rfl) ?_
  refine awP (op_move rfl rfl) ?_
  refine awP (op_move rfl rfl) ?_
  refine awP (op_len_ro (n := ss.length) rfl rfl Tryd.underlying70 (.inr (.inl ⟨_, rfl, by simp⟩))) ?_
  refine awJ (op_call1 rfl en22 (C22 hl (n := (ss.length : Nat)) (by omega)) (by exact rfl) (RL.cons .ptr (RL.cons (.base (by exact View.same rfl)) (RL.nil))) (by exact ⟨_, _, _, rfl, rfl, rfl⟩) (by exact rfl) (by exact rfl) (by exact rfl)) ?_; (simp only [nA, ↓reduceIte])
  refine awP (op_ia_ro (gmod (rawV l k) (ss.length : Nat)).toNat rfl (.inl rfl) rfl Tryd.underlying70 (by omega) (get_mapD (f := sv) (xs := ss) (by omega)) (by exact sz9) (bl rfl)) ?_
  (refine awR (op_load_rop1 rfl rfl ag9) ?_)
  refine awP (op_assign rfl rfl) ?_
  refine AWL.nil ?_
  (refine hK _ ?_; clear hK K; (simp only [nA]))
  skip
  refine AW.ret ?_; (try simp only [thenE, inBlk, Nat.reduceEqDiff, ↓reduceIte]); exact RQ.of (.inl rfl) rfl (.tmp (bl rfl) rfl rfl .nil) (by simp) rfl (one_out rfl)
abbrev carL : List ByteArray := [⟨#[83, 75]⟩, ⟨#[66, 65]⟩, ⟨#[76, 72]⟩]
abbrev flS (l : List Int) (k : Nat) : Flight := ⟨textV l k carL, 1 + gmod (rawV l (rawN l k)) 3, ⟨#[]⟩, 1 + gmod (rawV l (rawN l (rawN l k))) 3⟩
set_option maxHeartbeats 8000000 in
theorem C28 {l : List Int} {k : Nat} (hl : l.length ≤ 2000) : Fn Tryd.prog 28 [.own 68 [srcRow l k]] [.ptr 0 0 0 0] [.agg (flS l k).av] [.own 68 [srcRow l (rawN l (rawN l (rawN l k)))]] := by
  have hg1 := gmod_bd (x := rawV l (rawN l k)) (n := 3) (by decide)
  have hg2 := gmod_bd (x := rawV l (rawN l (rawN l k))) (n := 3) (by decide)
  refine Spec.body Tryd.func28 rfl Tryd.ntmps28 (by simp) rfl ?_; intro S0 own0 v0 w0 gl
  (refine AW.seq_k ?_; intro K hK)
  refine AW.region ?_
  refine awJ (op_alloc rfl ze26 rfl) ?_; (simp only [nA, Nat.reduceBEq, Nat.reduceEqDiff, ↓reduceIte])
  refine AWL.nil ?_
  (refine hK _ ?_; clear hK K; (try simp only [nA, Nat.reduceBEq, Nat.reduceEqDiff, ↓reduceIte, Nat.reduceAdd, Nat.reduceSub]))
  (refine AW.seq_k ?_; intro K hK)
  refine AW.region ?_
  refine awP (op_move rfl rfl) ?_
  refine awJ (OpJ.frz (op_buildSlice rfl [(0, sv ⟨#[83, 75]⟩), (1, sv ⟨#[66, 65]⟩), (2, sv ⟨#[76, 72]⟩)] (carL.map sv) Tryd.underlying70 ze9 rfl (by simp) rfl (by simp) rfl (bl rfl) (by simp [maxLen])) (by simp [flatA]) rfl) ?_; (simp only [nA, ↓reduceIte])
  refine awJ (op_call1 rfl en25 (C25 (ss := carL) hl (by decide) (by decide)) (by exact rfl) (RL.cons .ptr (RL.cons (.base (by exact View.same rfl)) (RL.nil))) (by exact ⟨_, _, _, rfl, rfl, rfl⟩) (by exact rfl) (by exact rfl) (by exact rfl)) ?_; (try simp only [nA, Nat.reduceBEq, Nat.reduceEqDiff, ↓reduceIte, Nat.reduceAdd, Nat.reduceSub])
  refine awP (op_move rfl rfl) ?_
  refine awJ (op_call1 rfl en22 (C22 (n := 3) hl (by decide)) (by exact rfl) (RL.cons .ptr (RL.cons (.base (by exact View.same rfl)) (RL.nil))) (by exact ⟨_, _, _, rfl, rfl, rfl⟩) (by exact rfl) (by exact rfl) (by exact rfl)) ?_; (simp only [nA, ↓reduceIte])
  (refine awP (op_addi rfl rfl rfl (by omega)) ?_)
  refine awP (op_move rfl rfl) ?_
  refine awJ (op_call1 rfl en22 (C22 (n := 3) hl (by decide)) (by exact rfl) (RL.cons .ptr (RL.cons (.base (by exact View.same rfl)) (RL.nil))) (by exact ⟨_, _, _, rfl, rfl, rfl⟩) (by exact rfl) (by exact rfl) (by exact rfl)) ?_; (simp only [nA, ↓reduceIte])
  (refine awP (op_addi rfl rfl rfl (by omega)) ?_)
  refine awP (op_build2 (xs := [_, _, .v (.string ⟨#[]⟩), _]) rfl pl26 ze26 [(0, [_]), (1, [_]), (3, [_])] rfl rfl rfl) ?_
  refine awJ (op_store rfl rfl rfl rfl rfl rfl sz26 rfl (bl rfl) rfl) ?_; (simp only [nA, Nat.reduceBEq, Nat.reduceEqDiff, ↓reduceIte])
  refine AWL.nil ?_
  (refine hK _ ?_; clear hK K; (skip))
  skip
  refine AW.ret ?_; (try simp only [thenE, inBlk, Nat.reduceEqDiff, ↓reduceIte]); exact RQ.of (.inl rfl) rfl (.cell (bl rfl) rfl rfl rfl ag26 sz26 (bl rfl) rfl rfl .nil) (by simp) rfl (one_out rfl)
end Go.Proofs.YtfmnaigedgmhoaaDoor
namespace Go.Proofs.YtfmnaigedgmhoaaDoor
open Go.RowKit
set_option linter.unusedSimpArgs false
set_option linter.unusedVariables false
set_option maxRecDepth 100000
abbrev PL := Plate
theorem bytes_ext {a b : ByteArray} (h : a.data.toList = b.data.toList) : a = b := by
  obtain ⟨⟨x⟩⟩ := a
  obtain ⟨⟨y⟩⟩ := b
  simp at h
  rw [h]
abbrev BL := List UInt8
def byI (x : Int) : UInt8 := UInt8.ofNat (x % 256).toNat
def b4 (n : Int) : BL := [byI (n / 16777216), byI (n / 65536), byI (n / 256), byI n]
def n4 (a b c d : UInt8) : Int := ((a.toNat * 16777216 + b.toNat * 65536 + c.toNat * 256 + d.toNat : Nat) : Int)
theorem byI_nat (x : Int) : ((byI x).toNat : Int) = x % 256 := by
  unfold byI
  rw [UInt8.toNat_ofNat']
  omega
theorem n4_lt (a b c d : UInt8) : 0 ≤ n4 a b c d ∧ n4 a b c d < 4294967296 := by
  have h1 := a.toNat_lt; have h2 := b.toNat_lt; have h3 := c.toNat_lt; have h4 := d.toNat_lt
  unfold n4
  omega
theorem n4_b4 {n : Int} (h : 0 ≤ n ∧ n < 4294967296) : n4 (byI (n / 16777216)) (byI (n / 65536)) (byI (n / 256)) (byI n) = n := by
  have h1 := byI_nat (n / 16777216); have h2 := byI_nat (n / 65536); have h3 := byI_nat (n / 256); have h4 := byI_nat n
  unfold n4
  omega
theorem byI_of {x : Int} {a : UInt8} (h : x % 256 = (a.toNat : Int)) : byI x = a := by
  apply UInt8.toNat_inj.1
  have := byI_nat x
  omega
theorem b4_n4 (a b c d : UInt8) : b4 (n4 a b c d) = [a, b, c, d] := by
  have h1 := a.toNat_lt; have h2 := b.toNat_lt; have h3 := c.toNat_lt; have h4 := d.toNat_lt
  unfold b4
  rw [byI_of (a := a) (by unfold n4; omega), byI_of (a := b) (by unfold n4; omega), byI_of (a := c) (by unfold n4; omega), byI_of (a := d) (by unfold n4; omega)]
abbrev P (α : Type) := BL → Option (α × BL)
def pb {α β : Type} (p : P α) (f : α → P β) : P β := fun b => match p b with | some (a, r) => f a r | none => none
def pp {α : Type} (a : α) : P α := fun b => some (a, b)
theorem pb_some {α β : Type} {p : P α} {f : α → P β} {b r : BL} {a : α} (h : p b = some (a, r)) : pb p f b = f a r := by
  show (match p b with | some (a, r) => f a r | none => none) = _
  rw [h]
theorem pb_none {α β : Type} {p : P α} {f : α → P β} {b : BL} (h : p b = none) : pb p f b = none := by
  show (match p b with | some (a, r) => f a r | none => none) = _
  rw [h]
theorem pb_inv {α β : Type} {p : P α} {f : α → P β} {b r : BL} {z : β} (h : pb p f b = some (z, r)) : ∃ a r1, p b = some (a, r1) ∧ f a r1 = some (z, r) := by
  cases hp : p b with
  | none => rw [pb_none hp] at h; cases h
  | some xr => exact ⟨xr.1, xr.2, rfl, by rw [pb_some (show p b = some (xr.1, xr.2) from hp)] at h; exact h⟩
structure Cod {α : Type} (p : P α) (e : α → BL) (ok : α → Prop) : Prop where
  to : ∀ x r, ok x → p (e x ++ r) = some (x, r)
  of : ∀ b x r, p b = some (x, r) → b = e x ++ r ∧ ok x
theorem Cod.bind {α β γ : Type} {p : P α} {e : α → BL} {ok : α → Prop} {q : P β} {e2 : β → BL} {ok2 : β → Prop} (h : Cod p e ok) (h2 : Cod q e2 ok2) (f : α → β → γ) (g1 : γ → α) (g2 : γ → β) (hf : ∀ z, f (g1 z) (g2 z) = z) (h1' : ∀ x y, g1 (f x y) = x) (h2' : ∀ x y, g2 (f x y) = y) :
    Cod (pb p fun x => pb q fun y => pp (f x y)) (fun z => e (g1 z) ++ e2 (g2 z)) (fun z => ok (g1 z) ∧ ok2 (g2 z)) := by
  constructor
  · intro z r ⟨hz, hz2⟩
    rw [List.append_assoc, pb_some (h.to _ _ hz), pb_some (h2.to _ _ hz2)]
    show some (f (g1 z) (g2 z), r) = _
    rw [hf]
  intro b z r hz
  obtain ⟨x, r1, hp, hz⟩ := pb_inv hz
  obtain ⟨y, r2, hq, hz⟩ := pb_inv hz
  cases hz
  obtain ⟨hb, hx⟩ := h.of _ _ _ hp
  obtain ⟨hb2, hy⟩ := h2.of _ _ _ hq
  subst hb2
  refine ⟨?_, by rw [h1']; exact hx, by rw [h2']; exact hy⟩
  rw [h1', h2', List.append_assoc]
  exact hb
def pNum : P Int := fun b => match b with | a :: b :: c :: d :: r => some (n4 a b c d, r) | _ => none
def okN (n : Int) : Prop := 0 ≤ n ∧ n < 4294967296
theorem cNum : Cod pNum b4 okN := by
  constructor
  · intro n r h
    show some (n4 _ _ _ _, r) = _
    rw [n4_b4 h]
  intro b n r h
  match b, h with
  | x :: y :: z :: w :: r', h =>
    cases h
    exact ⟨by rw [b4_n4]; rfl, n4_lt ..⟩
def eTr (t : Bool) : BL := [if t then 1 else 0]
def pTr : P Bool := fun b => match b with | a :: r => if a = 0 then some (false, r) else if a = 1 then some (true, r) else none | [] => none
theorem cTr : Cod pTr eTr fun _ => True := by
  constructor
  · intro t r _
    cases t <;> rfl
  intro b t r h
  match b, h with
  | a :: r', h =>
    unfold pTr at h
    by_cases h0 : a = 0
    · simp only [h0, if_true] at h; cases h; exact ⟨by subst h0; rfl, trivial⟩
    by_cases h1 : a = 1
    · simp only [h1] at h; cases h; exact ⟨by subst h1; rfl, trivial⟩
    simp only [if_neg h0, if_neg h1] at h; cases h
def strB (l : BL) : ByteArray := ⟨l.toArray⟩
theorem strB_eq (s : ByteArray) : strB s.data.toList = s := by obtain ⟨⟨l⟩⟩ := s; rfl
theorem strB_data (l : BL) : (strB l).data.toList = l := rfl
theorem size_data (s : ByteArray) : s.data.toList.length = s.size := by show s.data.toList.length = s.data.size; simp
def eWd (s : ByteArray) : BL := b4 (s.size : Nat) ++ s.data.toList
def tkS (n : Int) : P ByteArray := fun b => if n ≤ (b.length : Nat) then some (strB (b.take n.toNat), b.drop n.toNat) else none
def pWd : P ByteArray := pb pNum tkS
def okS (s : ByteArray) : Prop := s.size < 4294967296
theorem tkS_yes {n : Int} {b : BL} (h : n ≤ (b.length : Nat)) : tkS n b = some (strB (b.take n.toNat), b.drop n.toNat) := if_pos h
theorem tkS_no {n : Int} {b : BL} (h : ¬ n ≤ (b.length : Nat)) : tkS n b = none := if_neg h
theorem cWd : Cod pWd eWd okS := by
  constructor
  · intro s r h
    have hk : okN ((s.size : Nat) : Int) := by unfold okN okS at *; omega
    have e := size_data s
    show pb pNum tkS ((b4 (s.size : Nat) ++ s.data.toList) ++ r) = _
    have hn : ((s.size : Nat) : Int).toNat = s.size := by omega
    rw [List.append_assoc, pb_some (cNum.to _ _ hk), tkS_yes (by rw [List.length_append]; omega), hn, List.take_left' e, List.drop_left' e, strB_eq]
  intro b s r h
  obtain ⟨n, r1, hp, h⟩ := pb_inv (p := pNum) (f := tkS) h
  obtain ⟨hb, hk⟩ := cNum.of _ _ _ hp
  have h0 := hk.1
  by_cases hn : n ≤ (r1.length : Nat)
  · rw [tkS_yes hn] at h
    have h := Option.some.inj h
    have hs : strB (r1.take n.toNat) = s := congrArg Prod.fst h
    have hr : r1.drop n.toNat = r := congrArg Prod.snd h
    subst hs; subst hr
    have hl : (strB (r1.take n.toNat)).size = n.toNat := by rw [← size_data, strB_data, List.length_take]; omega
    have he : ((n.toNat : Nat) : Int) = n := by omega
    refine ⟨?_, ?_⟩
    · show b = (b4 ((strB (r1.take n.toNat)).size : Nat) ++ (strB (r1.take n.toNat)).data.toList) ++ r1.drop n.toNat
      rw [hl, strB_data, List.append_assoc, List.take_append_drop, he]
      exact hb
    unfold okS okN at *
    rw [hl]
    omega
  rw [tkS_no hn] at h; cases h
def ePl (p : PL) : BL := b4 p.lead ++ (b4 p.airline ++ b4 p.serial)
def pPl : P PL := pb pNum fun a => pb (pb pNum fun b => pb pNum fun c => pp (b, c)) fun bc => pp ⟨a, bc.1, bc.2⟩
def okPl (p : PL) : Prop := okN p.lead ∧ okN p.airline ∧ okN p.serial
theorem cPl : Cod pPl ePl okPl := cNum.bind (cNum.bind cNum Prod.mk Prod.fst Prod.snd (fun _ => rfl) (fun _ _ => rfl) (fun _ _ => rfl)) (fun a bc => (⟨a, bc.1, bc.2⟩ : PL)) (·.lead) (fun p => (p.airline, p.serial)) (fun _ => rfl) (fun _ _ => rfl) (fun _ _ => rfl)
def eFl (f : Flight) : BL := eWd f.carrier ++ (b4 f.number ++ (eWd f.suffix ++ b4 f.day))
def pFl : P Flight := pb pWd fun a => pb (pb pNum fun b => pb (pb pWd fun c => pb pNum fun d => pp (c, d)) fun cd => pp (b, cd)) fun x => pp ⟨a, x.1, x.2.1, x.2.2⟩
def okFl (f : Flight) : Prop := okS f.carrier ∧ okN f.number ∧ okS f.suffix ∧ okN f.day
theorem cFl : Cod pFl eFl okFl := cWd.bind (cNum.bind (cWd.bind cNum Prod.mk Prod.fst Prod.snd (fun _ => rfl) (fun _ _ => rfl) (fun _ _ => rfl)) Prod.mk Prod.fst Prod.snd (fun _ => rfl) (fun _ _ => rfl) (fun _ _ => rfl))
  (fun a x => (⟨a, x.1, x.2.1, x.2.2⟩ : Flight)) (·.carrier) (fun f => (f.number, f.suffix, f.day)) (fun _ => rfl) (fun _ _ => rfl) (fun _ _ => rfl)
def ePi (p : Piece) : BL := ePl p.plate ++ (b4 p.weight ++ b4 p.category)
def pPi : P Piece := pb pPl fun a => pb (pb pNum fun b => pb pNum fun c => pp (b, c)) fun x => pp ⟨a, x.1, x.2⟩
def okPi (p : Piece) : Prop := okPl p.plate ∧ okN p.weight ∧ okN p.category
theorem cPi : Cod pPi ePi okPi := cPl.bind (cNum.bind cNum Prod.mk Prod.fst Prod.snd (fun _ => rfl) (fun _ _ => rfl) (fun _ _ => rfl)) (fun a bc => (⟨a, bc.1, bc.2⟩ : Piece)) (·.plate) (fun p => (p.weight, p.category)) (fun _ => rfl) (fun _ _ => rfl) (fun _ _ => rfl)
def eOp (o : Op) : BL := b4 o.time ++ (b4 o.device ++ (b4 o.seq ++ (b4 o.kind ++ (b4 o.cont ++ ePi o.piece))))
def pOp : P Op := pb pNum fun a => pb (pb pNum fun b => pb (pb pNum fun c => pb (pb pNum fun d => pb (pb pNum fun e => pb pPi fun f => pp (e, f)) fun x => pp (d, x)) fun x => pp (c, x)) fun x => pp (b, x)) fun x => pp ⟨a, x.1, x.2.1, x.2.2.1, x.2.2.2.1, x.2.2.2.2⟩
def okOp (o : Op) : Prop := okN o.time ∧ okN o.device ∧ okN o.seq ∧ okN o.kind ∧ okN o.cont ∧ okPi o.piece
theorem cOp : Cod pOp eOp okOp :=
  cNum.bind (cNum.bind (cNum.bind (cNum.bind (cNum.bind cPi Prod.mk Prod.fst Prod.snd (fun _ => rfl) (fun _ _ => rfl) (fun _ _ => rfl)) Prod.mk Prod.fst Prod.snd (fun _ => rfl) (fun _ _ => rfl) (fun _ _ => rfl))
    Prod.mk Prod.fst Prod.snd (fun _ => rfl) (fun _ _ => rfl) (fun _ _ => rfl)) Prod.mk Prod.fst Prod.snd (fun _ => rfl) (fun _ _ => rfl) (fun _ _ => rfl))
    (fun a x => (⟨a, x.1, x.2.1, x.2.2.1, x.2.2.2.1, x.2.2.2.2⟩ : Op)) (·.time) (fun o => (o.device, o.seq, o.kind, o.cont, o.piece)) (fun _ => rfl) (fun _ _ => rfl) (fun _ _ => rfl)
structure Report where
  device : Int
  seen : Bool
  read : ByteArray
structure Rev where
  kind : Int
  amount : Int
  fl : Flight
def eRp (r : Report) : BL := b4 r.device ++ (eTr r.seen ++ eWd r.read)
def pRp : P Report := pb pNum fun a => pb (pb pTr fun b => pb pWd fun c => pp (b, c)) fun x => pp ⟨a, x.1, x.2⟩
def okRp (r : Report) : Prop := okN r.device ∧ True ∧ okS r.read
theorem cRp : Cod pRp eRp okRp := cNum.bind (cTr.bind cWd Prod.mk Prod.fst Prod.snd (fun _ => rfl) (fun _ _ => rfl) (fun _ _ => rfl)) (fun a bc => (⟨a, bc.1, bc.2⟩ : Report)) (·.device) (fun p => (p.seen, p.read)) (fun _ => rfl) (fun _ _ => rfl) (fun _ _ => rfl)
def eRv (r : Rev) : BL := b4 r.kind ++ (b4 r.amount ++ eFl r.fl)
def pRv : P Rev := pb pNum fun a => pb (pb pNum fun b => pb pFl fun c => pp (b, c)) fun x => pp ⟨a, x.1, x.2⟩
def okRv (r : Rev) : Prop := okN r.kind ∧ okN r.amount ∧ okFl r.fl
theorem cRv : Cod pRv eRv okRv := cNum.bind (cNum.bind cFl Prod.mk Prod.fst Prod.snd (fun _ => rfl) (fun _ _ => rfl) (fun _ _ => rfl)) (fun a bc => (⟨a, bc.1, bc.2⟩ : Rev)) (·.kind) (fun p => (p.amount, p.fl)) (fun _ => rfl) (fun _ _ => rfl) (fun _ _ => rfl)
def pRep {α : Type} (p : P α) : Nat → P (List α)
  | 0 => pp []
  | n + 1 => pb p fun x => pb (pRep p n) fun xs => pp (x :: xs)
theorem pRep_to {α : Type} {p : P α} {e : α → BL} {ok : α → Prop} (h : Cod p e ok) : ∀ (l : List α) (r : BL), (∀ x ∈ l, ok x) → pRep p l.length (l.flatMap e ++ r) = some (l, r)
  | [], r, _ => rfl
  | x :: l, r, hl => by
    show pb p (fun x => pb (pRep p l.length) fun xs => pp (x :: xs)) _ = _
    rw [List.flatMap_cons, List.append_assoc, pb_some (h.to _ _ (hl x (by simp))), pb_some (pRep_to h l r fun y hy => hl y (by simp [hy]))]
    rfl
theorem pRep_of {α : Type} {p : P α} {e : α → BL} {ok : α → Prop} (h : Cod p e ok) : ∀ (n : Nat) (b : BL) (l : List α) (r : BL), pRep p n b = some (l, r) → b = l.flatMap e ++ r ∧ l.length = n ∧ ∀ x ∈ l, ok x
  | 0, b, l, r, hb => by cases hb; exact ⟨rfl, rfl, fun x hx => by cases hx⟩
  | n + 1, b, l, r, hb => by
    obtain ⟨x, r1, hp, hb⟩ := pb_inv (p := p) (f := fun x => pb (pRep p n) fun xs => pp (x :: xs)) hb
    obtain ⟨xs, r2, hq, hb⟩ := pb_inv hb
    cases hb
    obtain ⟨h1, hx⟩ := h.of _ _ _ hp
    obtain ⟨h2, h3, h4⟩ := pRep_of h n _ _ _ hq
    refine ⟨by rw [List.flatMap_cons, List.append_assoc, ← h2]; exact h1, by simp [h3], ?_⟩
    intro y hy
    rcases List.mem_cons.1 hy with rfl | hy
    · exact hx
    exact h4 y hy
def eLs {α : Type} (e : α → BL) (l : List α) : BL := b4 (l.length : Nat) ++ l.flatMap e
def pLs {α : Type} (p : P α) : P (List α) := pb pNum fun n => pRep p n.toNat
def okLs {α : Type} (ok : α → Prop) (l : List α) : Prop := l.length < 4294967296 ∧ ∀ x ∈ l, ok x
theorem cLs {α : Type} {p : P α} {e : α → BL} {ok : α → Prop} (h : Cod p e ok) : Cod (pLs p) (eLs e) (okLs ok) := by
  constructor
  · intro l r ⟨hn, hl⟩
    have hk : okN ((l.length : Nat) : Int) := by unfold okN; omega
    have he : ((l.length : Nat) : Int).toNat = l.length := by omega
    show pb pNum (fun n => pRep p n.toNat) ((b4 (l.length : Nat) ++ l.flatMap e) ++ r) = _
    rw [List.append_assoc, pb_some (cNum.to _ _ hk), he]
    exact pRep_to h l r hl
  intro b l r hb
  obtain ⟨n, r1, hp, hb⟩ := pb_inv (p := pNum) (f := fun n => pRep p n.toNat) hb
  obtain ⟨h1, hk⟩ := cNum.of _ _ _ hp
  obtain ⟨h2, h3, h4⟩ := pRep_of h _ _ _ _ hb
  unfold okN at hk
  have he : ((n.toNat : Nat) : Int) = n := by omega
  refine ⟨?_, by omega, h4⟩
  show b = (b4 (l.length : Nat) ++ l.flatMap e) ++ r
  rw [h3, he, List.append_assoc, ← h2]
  exact h1
structure Ev where
  kind : Int
  time : Int
  text : ByteArray
  plate : Plate
  node : Int
  image : Int
  clear : Bool
  reports : List Report
  rev : Rev
  device : Int
  op : Op
  ops : List Op
  fl : Flight
abbrev emptyS : ByteArray := ⟨#[]⟩
abbrev fl0 : Flight := ⟨emptyS, 0, emptyS, 0⟩
abbrev op0 : Op := ⟨0, 0, 0, 0, 0, ⟨⟨0, 0, 0⟩, 0, 0⟩⟩
abbrev rev0 : Rev := ⟨0, 0, fl0⟩
abbrev ev0 (k : Int) : Ev := ⟨k, 0, emptyS, ⟨0, 0, 0⟩, 0, 0, false, [], rev0, 0, op0, [], fl0⟩
/-- The parts: 0 time, 1 text, 2 bag, 3 node, 4 image, 5 clear, 6 reports, 7 revision, 8 device, 9 op, 10 ops, 11 leg. -/
def setP (p : Nat) (x y : Ev) : Ev := match p with
  | 0 => { y with time := x.time } | 1 => { y with text := x.text } | 2 => { y with plate := x.plate } | 3 => { y with node := x.node } | 4 => { y with image := x.image } | 5 => { y with clear := x.clear }
  | 6 => { y with reports := x.reports } | 7 => { y with rev := x.rev } | 8 => { y with device := x.device } | 9 => { y with op := x.op } | 10 => { y with ops := x.ops } | 11 => { y with fl := x.fl } | _ => y
def ePart (x : Ev) (p : Nat) : BL := match p with
  | 0 => b4 x.time | 1 => eWd x.text | 2 => ePl x.plate | 3 => b4 x.node | 4 => b4 x.image | 5 => eTr x.clear | 6 => eLs eRp x.reports | 7 => eRv x.rev | 8 => b4 x.device | 9 => eOp x.op | 10 => eLs eOp x.ops | 11 => eFl x.fl | _ => []
def okPart (x : Ev) (p : Nat) : Prop := match p with
  | 0 => okN x.time | 1 => okS x.text | 2 => okPl x.plate | 3 => okN x.node | 4 => okN x.image | 5 => True | 6 => okLs okRp x.reports | 7 => okRv x.rev | 8 => okN x.device | 9 => okOp x.op | 10 => okLs okOp x.ops | 11 => okFl x.fl | _ => True
def dPart (p : Nat) (y : Ev) : P Ev := match p with
  | 0 => pb pNum fun n => pp { y with time := n } | 1 => pb pWd fun n => pp { y with text := n } | 2 => pb pPl fun n => pp { y with plate := n } | 3 => pb pNum fun n => pp { y with node := n }
  | 4 => pb pNum fun n => pp { y with image := n } | 5 => pb pTr fun n => pp { y with clear := n } | 6 => pb (pLs pRp) fun n => pp { y with reports := n } | 7 => pb pRv fun n => pp { y with rev := n }
  | 8 => pb pNum fun n => pp { y with device := n } | 9 => pb pOp fun n => pp { y with op := n } | 10 => pb (pLs pOp) fun n => pp { y with ops := n } | 11 => pb pFl fun n => pp { y with fl := n } | _ => pp y
theorem cLsR : Cod (pLs pRp) (eLs eRp) (okLs okRp) := cLs cRp
theorem cLsO : Cod (pLs pOp) (eLs eOp) (okLs okOp) := cLs cOp
theorem cut_to {α : Type} {p : P α} {e : α → BL} {ok : α → Prop} (h : Cod p e ok) {f : α → Ev} {x : α} {r : BL} (hx : ok x) : pb p (fun n => pp (f n)) (e x ++ r) = some (f x, r) := by
  rw [pb_some (h.to _ _ hx)]; rfl
theorem dPart_to {p : Nat} {x y : Ev} {r : BL} (h : okPart x p) : dPart p y (ePart x p ++ r) = some (setP p x y, r) := by
  match p, h with
  | 0, h => exact cut_to (f := fun n => { y with time := n }) cNum h
  | 1, h => exact cut_to (f := fun n => { y with text := n }) cWd h
  | 2, h => exact cut_to (f := fun n => { y with plate := n }) cPl h
  | 3, h => exact cut_to (f := fun n => { y with node := n }) cNum h
  | 4, h => exact cut_to (f := fun n => { y with image := n }) cNum h
  | 5, h => exact cut_to (f := fun n => { y with clear := n }) cTr h
  | 6, h => exact cut_to (f := fun n => { y with reports := n }) cLsR h
  | 7, h => exact cut_to (f := fun n => { y with rev := n }) cRv h
  | 8, h => exact cut_to (f := fun n => { y with device := n }) cNum h
  | 9, h => exact cut_to (f := fun n => { y with op := n }) cOp h
  | 10, h => exact cut_to (f := fun n => { y with ops := n }) cLsO h
  | 11, h => exact cut_to (f := fun n => { y with fl := n }) cFl h
  | n + 12, h => rfl
theorem cut_of {α : Type} {p : P α} {e : α → BL} {ok : α → Prop} (h : Cod p e ok) {f : α → Ev} {b r : BL} {z : Ev} (hz : pb p (fun n => pp (f n)) b = some (z, r)) : ∃ n, z = f n ∧ b = e n ++ r ∧ ok n := by
  obtain ⟨n, r1, hp, hz⟩ := pb_inv hz
  cases hz
  exact ⟨n, rfl, h.of _ _ _ hp⟩
theorem dPart_of {p : Nat} {y z : Ev} {b r : BL} (h : dPart p y b = some (z, r)) : b = ePart z p ++ r ∧ okPart z p ∧ z = setP p z y := by
  match p, h with
  | 0, h => obtain ⟨n, rfl, h1, h2⟩ := cut_of cNum h; exact ⟨h1, h2, rfl⟩
  | 1, h => obtain ⟨n, rfl, h1, h2⟩ := cut_of cWd h; exact ⟨h1, h2, rfl⟩
  | 2, h => obtain ⟨n, rfl, h1, h2⟩ := cut_of cPl h; exact ⟨h1, h2, rfl⟩
  | 3, h => obtain ⟨n, rfl, h1, h2⟩ := cut_of cNum h; exact ⟨h1, h2, rfl⟩
  | 4, h => obtain ⟨n, rfl, h1, h2⟩ := cut_of cNum h; exact ⟨h1, h2, rfl⟩
  | 5, h => obtain ⟨n, rfl, h1, h2⟩ := cut_of cTr h; exact ⟨h1, h2, rfl⟩
  | 6, h => obtain ⟨n, rfl, h1, h2⟩ := cut_of cLsR h; exact ⟨h1, h2, rfl⟩
  | 7, h => obtain ⟨n, rfl, h1, h2⟩ := cut_of cRv h; exact ⟨h1, h2, rfl⟩
  | 8, h => obtain ⟨n, rfl, h1, h2⟩ := cut_of cNum h; exact ⟨h1, h2, rfl⟩
  | 9, h => obtain ⟨n, rfl, h1, h2⟩ := cut_of cOp h; exact ⟨h1, h2, rfl⟩
  | 10, h => obtain ⟨n, rfl, h1, h2⟩ := cut_of cLsO h; exact ⟨h1, h2, rfl⟩
  | 11, h => obtain ⟨n, rfl, h1, h2⟩ := cut_of cFl h; exact ⟨h1, h2, rfl⟩
  | n + 12, h => cases h; exact ⟨rfl, trivial, rfl⟩
def fieldsL (k : Int) : List Nat :=
  if k = 1 then [1] else if k = 2 then [2, 3] else if k = 3 then [0, 6] else if k = 4 then [4, 5] else if k = 5 then [7] else if k = 6 then [3] else if k = 7 then [3] else if k = 8 then [9, 3] else if k = 9 then [9]
  else if k = 10 then [2, 3] else if k = 11 then [8] else if k = 12 then [8, 10] else if k = 13 then [11] else []
theorem kind_cases {k : Int} (h : 1 ≤ k ∧ k ≤ 14) : k = 1 ∨ k = 2 ∨ k = 3 ∨ k = 4 ∨ k = 5 ∨ k = 6 ∨ k = 7 ∨ k = 8 ∨ k = 9 ∨ k = 10 ∨ k = 11 ∨ k = 12 ∨ k = 13 ∨ k = 14 := by omega
def decP : List Nat → Ev → P Ev
  | [], y => pp y
  | p :: l, y => pb (dPart p y) fun z => decP l z
def onlyP : List Nat → Ev → Ev → Ev
  | [], _, y => y
  | p :: l, x, y => onlyP l x (setP p x y)
theorem decP_to : ∀ {l : List Nat} {x y : Ev} {r : BL}, (∀ p ∈ l, okPart x p) → decP l y (l.flatMap (ePart x) ++ r) = some (onlyP l x y, r)
  | [], x, y, r, _ => rfl
  | p :: l, x, y, r, h => by
    show pb (dPart p y) (fun z => decP l z) _ = _
    rw [List.flatMap_cons, List.append_assoc, pb_some (dPart_to (h p (by simp)))]
    exact decP_to fun q hq => h q (by simp [hq])
theorem set_kind {p : Nat} {x y : Ev} : (setP p x y).kind = y.kind := by unfold setP; split <;> rfl
theorem ePart_set {p q : Nat} (h : p ≠ q) (x y : Ev) : ePart (setP q x y) p = ePart y p ∧ (okPart (setP q x y) p ↔ okPart y p) := by
  unfold setP
  split <;> (unfold ePart okPart; split <;> first | exact ⟨rfl, Iff.rfl⟩ | exact absurd rfl h)
theorem set_set {p q : Nat} (h : p ≠ q) (x y z : Ev) : setP p x (setP q y z) = setP q y (setP p x z) := by
  unfold setP
  split <;> split <;> first | rfl | exact absurd rfl h
theorem set_part {p q : Nat} (h : p ≠ q) (x y z : Ev) : setP p (setP q x y) z = setP p y z := by
  unfold setP
  split <;> (try rfl) <;> split <;> first | rfl | exact absurd rfl h
theorem dec1_of {p : Nat} {y z : Ev} {b r : BL} (h : decP [p] y b = some (z, r)) : b = ePart z p ++ r ∧ okPart z p ∧ z = setP p z y := by
  obtain ⟨w, r1, h1, h2⟩ := pb_inv (p := dPart p y) (f := fun z => decP [] z) h
  cases h2
  exact dPart_of h1
theorem dec2_of {p q : Nat} (hpq : p ≠ q) {y z : Ev} {b r : BL} (h : decP [p, q] y b = some (z, r)) : b = ePart z p ++ (ePart z q ++ r) ∧ okPart z p ∧ okPart z q ∧ z = setP q z (setP p z y) := by
  obtain ⟨w, r1, h1, h2⟩ := pb_inv (p := dPart p y) (f := fun z => decP [q] z) h
  obtain ⟨a1, a2, a3⟩ := dPart_of h1
  obtain ⟨b1, b2, b3⟩ := dec1_of h2
  have e := ePart_set hpq z w
  rw [← b3] at e
  refine ⟨by rw [e.1, ← b1]; exact a1, e.2.2 a2, b2, ?_⟩
  have hw : setP p z y = w := by rw [b3, set_part hpq]; exact a3.symm
  rw [hw]
  exact b3
def onlyV (x : Ev) : Ev := onlyP (fieldsL x.kind) x (ev0 x.kind)
def encB (x : Ev) : BL := byI x.kind :: (fieldsL x.kind).flatMap (ePart x)
theorem decP_of {k : Int} (hk : 1 ≤ k ∧ k ≤ 14) {z : Ev} {b r : BL} (h : decP (fieldsL k) (ev0 k) b = some (z, r)) : z.kind = k ∧ b = (fieldsL k).flatMap (ePart z) ++ r ∧ (∀ p ∈ fieldsL k, okPart z p) ∧ z = onlyV z := by
  have one : ∀ p, fieldsL k = [p] → z.kind = k ∧ b = (fieldsL k).flatMap (ePart z) ++ r ∧ (∀ p ∈ fieldsL k, okPart z p) ∧ z = onlyV z := fun p hp => by
    rw [hp] at h
    obtain ⟨h1, h2, h3⟩ := dec1_of h
    have hz : z.kind = k := by rw [h3, set_kind]
    refine ⟨hz, by rw [hp]; simpa using h1, by rw [hp]; simpa using h2, ?_⟩
    unfold onlyV
    rw [hz, hp]
    exact h3
  have two : ∀ p q, p ≠ q → fieldsL k = [p, q] → z.kind = k ∧ b = (fieldsL k).flatMap (ePart z) ++ r ∧ (∀ p ∈ fieldsL k, okPart z p) ∧ z = onlyV z := fun p q hpq hp => by
    rw [hp] at h
    obtain ⟨h1, h2, h2', h3⟩ := dec2_of hpq h
    have hz : z.kind = k := by rw [h3, set_kind, set_kind]
    refine ⟨hz, by rw [hp]; simpa using h1, by rw [hp]; simpa using ⟨h2, h2'⟩, ?_⟩
    unfold onlyV
    rw [hz, hp]
    exact h3
  rcases kind_cases hk with rfl | rfl | rfl | rfl | rfl | rfl | rfl | rfl | rfl | rfl | rfl | rfl | rfl | rfl
  · exact one 1 rfl
  · exact two 2 3 (by decide) rfl
  · exact two 0 6 (by decide) rfl
  · exact two 4 5 (by decide) rfl
  · exact one 7 rfl
  · exact one 3 rfl
  · exact one 3 rfl
  · exact two 9 3 (by decide) rfl
  · exact one 9 rfl
  · exact two 2 3 (by decide) rfl
  · exact one 8 rfl
  · exact two 8 10 (by decide) rfl
  · exact one 11 rfl
  cases h; exact ⟨rfl, rfl, fun p hp => by simp [fieldsL] at hp, rfl⟩
/-- What Decode finds, but for Validate. -/
def decB (b : BL) : Option Ev := match b with
  | [] => none
  | a :: r => match decP (fieldsL (a.toNat : Int)) (ev0 (a.toNat : Int)) r with | some (x, []) => some x | _ => none
theorem decB_to {x : Ev} (hk : 1 ≤ x.kind ∧ x.kind ≤ 14) (ho : x = onlyV x) (hp : ∀ p ∈ fieldsL x.kind, okPart x p) : decB (encB x) = some x := by
  have h := decP_to (l := fieldsL x.kind) (x := x) (y := ev0 x.kind) (r := []) hp
  have e : ((byI x.kind).toNat : Int) = x.kind := by rw [byI_nat]; omega
  unfold decB encB
  rw [List.append_nil] at h
  dsimp only
  rw [e, h]
  exact congrArg some ho.symm
theorem decB_of {b : BL} {x : Ev} (h : decB b = some x) (hk : 1 ≤ x.kind ∧ x.kind ≤ 14) : b = encB x ∧ x = onlyV x ∧ ∀ p ∈ fieldsL x.kind, okPart x p := by
  unfold decB at h
  match b, h with
  | a :: r, h =>
    dsimp only at h
    cases hd : decP (fieldsL (a.toNat : Int)) (ev0 (a.toNat : Int)) r with
    | none => rw [hd] at h; cases h
    | some xr =>
      obtain ⟨x', r1⟩ := xr
      rw [hd] at h
      cases r1 with
      | cons c r1 => cases h
      | nil =>
        cases h
        have hka : x.kind = (a.toNat : Int) := by
          by_cases hka : 1 ≤ (a.toNat : Int) ∧ (a.toNat : Int) ≤ 14
          · exact (decP_of hka hd).1
          rw [show fieldsL (a.toNat : Int) = [] by unfold fieldsL; repeat rw [if_neg (by omega)]] at hd
          cases hd
          rfl
        rw [hka] at hk
        obtain ⟨h1, h2, h3, h4⟩ := decP_of hk hd
        refine ⟨?_, h4, by rw [h1]; exact h3⟩
        unfold encB
        rw [h1, show byI (a.toNat : Int) = a from byI_of (by have := a.toNat_lt; omega)]
        rw [List.append_nil] at h2
        rw [← h2]
structure RS where
  b : BL
  bad : Bool
abbrev M (α : Type) := RS → α × RS
def mb {α β : Type} (m : M α) (f : α → M β) : M β := fun s => f (m s).1 (m s).2
def mp {α : Type} (a : α) : M α := fun s => (a, s)
def Sim {α : Type} (p : P α) (m : M α) : Prop := ∀ s : RS, (s.bad = true → (m s).2.bad = true) ∧ (s.bad = false → (∀ x r, p s.b = some (x, r) → m s = (x, ⟨r, false⟩)) ∧ (p s.b = none → (m s).2.bad = true))
theorem Sim.pure {α : Type} (a : α) : Sim (pp a) (mp a) := fun s => by
  refine ⟨fun h => h, fun h => ⟨fun x r hx => ?_, fun hx => by cases hx⟩⟩
  cases hx
  show (a, s) = (a, ⟨s.b, false⟩)
  rw [← h]
theorem Sim.bind {α β : Type} {p : P α} {m : M α} {q : α → P β} {f : α → M β} (h : Sim p m) (h2 : ∀ a, Sim (q a) (f a)) : Sim (pb p q) (mb m f) := fun s => by
  refine ⟨fun hb => ((h2 _) _).1 ((h s).1 hb), fun hb => ?_⟩
  cases hp : p s.b with
  | none =>
    have h1 := ((h s).2 hb).2 hp
    exact ⟨fun x r hx => by rw [pb_none hp] at hx; (cases hx), fun _ => ((h2 _) _).1 h1⟩
  | some xr =>
    obtain ⟨x, r⟩ := xr
    have h1 := ((h s).2 hb).1 _ _ hp
    have h3 := (h2 x ⟨r, false⟩).2 rfl
    rw [pb_some hp]
    show (∀ x_1 r_1, q x r = some (x_1, r_1) → f (m s).1 (m s).2 = _) ∧ (q x r = none → (f (m s).1 (m s).2).2.bad = true)
    rw [h1]
    exact h3
/-- The reader of numbers, bools and strings. -/
structure Rdr where
  num : M Int
  tr : M Bool
  wd : M ByteArray
structure Rdr.Ok (R : Rdr) : Prop where
  num : Sim pNum R.num
  tr : Sim pTr R.tr
  wd : Sim pWd R.wd
section
variable (R : Rdr)
def plM : M PL := mb R.num fun a => mb R.num fun b => mb R.num fun c => mp ⟨a, b, c⟩
def flM : M Flight := mb R.wd fun a => mb R.num fun b => mb R.wd fun c => mb R.num fun d => mp ⟨a, b, c, d⟩
def piM : M Piece := mb (plM R) fun a => mb R.num fun b => mb R.num fun c => mp ⟨a, b, c⟩
def opM : M Op := mb R.num fun a => mb R.num fun b => mb R.num fun c => mb R.num fun d => mb R.num fun e => mb (piM R) fun f => mp ⟨a, b, c, d, e, f⟩
def rpM : M Report := mb R.num fun a => mb R.tr fun b => mb R.wd fun c => mp ⟨a, b, c⟩
def rvM : M Rev := mb R.num fun a => mb R.num fun b => mb (flM R) fun c => mp ⟨a, b, c⟩
def repM {α : Type} (m : M α) : Nat → List α → M (List α)
  | 0, acc => mp acc
  | n + 1, acc => fun s => if s.bad = true then (acc, s) else repM m n (acc ++ [(m s).1]) (m s).2
def lsM {α : Type} (m : M α) (acc : List α) : M (List α) := mb R.num fun n => repM m n.toNat acc
def dM (p : Nat) (y : Ev) : M Ev := match p with
  | 0 => mb R.num fun n => mp { y with time := n } | 1 => mb R.wd fun n => mp { y with text := n } | 2 => mb (plM R) fun n => mp { y with plate := n } | 3 => mb R.num fun n => mp { y with node := n }
  | 4 => mb R.num fun n => mp { y with image := n } | 5 => mb R.tr fun n => mp { y with clear := n } | 6 => mb (lsM R (rpM R) y.reports) fun n => mp { y with reports := n } | 7 => mb (rvM R) fun n => mp { y with rev := n }
  | 8 => mb R.num fun n => mp { y with device := n } | 9 => mb (opM R) fun n => mp { y with op := n } | 10 => mb (lsM R (opM R) y.ops) fun n => mp { y with ops := n } | 11 => mb (flM R) fun n => mp { y with fl := n } | _ => mp y
def decM : List Nat → Ev → M Ev
  | [], y => mp y
  | p :: l, y => mb (dM R p y) fun z => decM l z
end
theorem pb_assoc {α β γ : Type} (p : P α) (f : α → P β) (g : β → P γ) : pb (pb p f) g = pb p fun x => pb (f x) g := by
  funext b
  cases hp : p b with
  | none => rw [pb_none hp, pb_none (pb_none hp)]
  | some xr =>
    obtain ⟨x, r⟩ := xr
    rw [pb_some hp]
    cases hf : f x r with
    | none => rw [pb_none hf, pb_none (by rw [pb_some hp]; exact hf)]
    | some yr =>
      obtain ⟨y, r2⟩ := yr
      rw [pb_some hf, pb_some (show pb p f b = some (y, r2) by rw [pb_some hp]; exact hf)]
theorem pp_bind {α β : Type} (a : α) (f : α → P β) : pb (pp a) f = f a := rfl
section
variable {R : Rdr}
theorem sPl (h : R.Ok) : Sim pPl (plM R) := by
  unfold pPl
  simp only [pb_assoc, pp_bind]
  exact h.num.bind fun _ => h.num.bind fun _ => h.num.bind fun _ => Sim.pure _
theorem sFl (h : R.Ok) : Sim pFl (flM R) := by
  unfold pFl
  simp only [pb_assoc, pp_bind]
  exact h.wd.bind fun _ => h.num.bind fun _ => h.wd.bind fun _ => h.num.bind fun _ => Sim.pure _
theorem sPi (h : R.Ok) : Sim pPi (piM R) := by
  unfold pPi
  simp only [pb_assoc, pp_bind]
  exact (sPl h).bind fun _ => h.num.bind fun _ => h.num.bind fun _ => Sim.pure _
theorem sOp (h : R.Ok) : Sim pOp (opM R) := by
  unfold pOp
  simp only [pb_assoc, pp_bind]
  exact h.num.bind fun _ => h.num.bind fun _ => h.num.bind fun _ => h.num.bind fun _ => h.num.bind fun _ => (sPi h).bind fun _ => Sim.pure _
theorem sRp (h : R.Ok) : Sim pRp (rpM R) := by
  unfold pRp
  simp only [pb_assoc, pp_bind]
  exact h.num.bind fun _ => h.tr.bind fun _ => h.wd.bind fun _ => Sim.pure _
theorem sRv (h : R.Ok) : Sim pRv (rvM R) := by
  unfold pRv
  simp only [pb_assoc, pp_bind]
  exact h.num.bind fun _ => h.num.bind fun _ => (sFl h).bind fun _ => Sim.pure _
theorem repM_bad {α : Type} {m : M α} : ∀ (n : Nat) (acc : List α) (s : RS), s.bad = true → (repM m n acc s).2.bad = true
  | 0, _, _, h => h
  | n + 1, acc, s, h => by
    show (if s.bad = true then (acc, s) else _).2.bad = true
    rw [if_pos h]
    exact h
theorem sRep {α : Type} {p : P α} {m : M α} (h : Sim p m) : ∀ (n : Nat) (acc : List α), Sim (pb (pRep p n) fun l => pp (acc ++ l)) (repM m n acc)
  | 0, acc => by
    show Sim (pp (acc ++ [])) (mp acc)
    rw [List.append_nil]
    exact Sim.pure acc
  | n + 1, acc => fun s => by
    refine ⟨fun hb => repM_bad _ _ _ hb, fun hb => ?_⟩
    have e : repM m (n + 1) acc s = repM m n (acc ++ [(m s).1]) (m s).2 := by
      show (if s.bad = true then (acc, s) else _) = _
      rw [if_neg (by rw [hb]; decide)]
    rw [e]
    have hq : (pb (pRep p (n + 1)) fun l => pp (acc ++ l)) = pb p fun x => pb (pRep p n) fun l => pp ((acc ++ [x]) ++ l) := by
      show (pb (pb p fun x => pb (pRep p n) fun xs => pp (x :: xs)) fun l => pp (acc ++ l)) = _
      simp only [pb_assoc, pp_bind, List.append_assoc, List.singleton_append]
    rw [hq]
    exact ((h.bind fun x => sRep h n (acc ++ [x])) s).2 hb
theorem sLs {α : Type} {p : P α} {m : M α} (h : R.Ok) (hp : Sim p m) : Sim (pLs p) (lsM R m []) := by
  have h2 : pLs p = pb pNum fun n => pb (pRep p n.toNat) fun l => pp ([] ++ l) := by
    show (pb pNum fun n => pRep p n.toNat) = _
    congr 1
    funext n b
    cases hb : pRep p n.toNat b with
    | none => rw [pb_none hb]
    | some xr => rw [pb_some (show pRep p n.toNat b = some (xr.1, xr.2) from hb)]; rfl
  rw [h2]
  exact h.num.bind fun n => sRep hp n.toNat []
theorem sD (h : R.Ok) {p : Nat} {y : Ev} (h6 : p = 6 → y.reports = []) (h10 : p = 10 → y.ops = []) : Sim (dPart p y) (dM R p y) := by
  match p, h6, h10 with
  | 0, _, _ => exact h.num.bind fun n => Sim.pure { y with time := n }
  | 1, _, _ => exact h.wd.bind fun n => Sim.pure { y with text := n }
  | 2, _, _ => exact (sPl h).bind fun n => Sim.pure { y with plate := n }
  | 3, _, _ => exact h.num.bind fun n => Sim.pure { y with node := n }
  | 4, _, _ => exact h.num.bind fun n => Sim.pure { y with image := n }
  | 5, _, _ => exact h.tr.bind fun n => Sim.pure { y with clear := n }
  | 6, h6, _ =>
    have h1 := (sLs h (sRp h)).bind fun n => Sim.pure { y with reports := n }
    rw [← h6 rfl] at h1
    exact h1
  | 7, _, _ => exact (sRv h).bind fun n => Sim.pure { y with rev := n }
  | 8, _, _ => exact h.num.bind fun n => Sim.pure { y with device := n }
  | 9, _, _ => exact (sOp h).bind fun n => Sim.pure { y with op := n }
  | 10, _, h10 =>
    have h1 := (sLs h (sOp h)).bind fun n => Sim.pure { y with ops := n }
    rw [← h10 rfl] at h1
    exact h1
  | 11, _, _ => exact (sFl h).bind fun n => Sim.pure { y with fl := n }
  | n + 12, _, _ => exact Sim.pure y
theorem dPart_lists {p : Nat} {y z : Ev} {b r : BL} (h : dPart p y b = some (z, r)) : (p ≠ 6 → z.reports = y.reports) ∧ (p ≠ 10 → z.ops = y.ops) := by
  have e := (dPart_of h).2.2
  rw [e]
  unfold setP
  split <;> first | exact ⟨fun _ => rfl, fun _ => rfl⟩ | exact ⟨fun h => absurd rfl h, fun _ => rfl⟩ | exact ⟨fun _ => rfl, fun h => absurd rfl h⟩
theorem Sim.bind' {α β : Type} {p : P α} {m : M α} {q : α → P β} {f : α → M β} (h : Sim p m) (hb : ∀ a s, s.bad = true → (f a s).2.bad = true) (h2 : ∀ a b r, p b = some (a, r) → Sim (q a) (f a)) : Sim (pb p q) (mb m f) := fun s => by
  refine ⟨fun hs => hb _ _ ((h s).1 hs), fun hs => ?_⟩
  cases hp : p s.b with
  | none =>
    have h1 := ((h s).2 hs).2 hp
    exact ⟨fun x r hx => by rw [pb_none hp] at hx; (cases hx), fun _ => hb _ _ h1⟩
  | some xr =>
    obtain ⟨x, r⟩ := xr
    have h1 := ((h s).2 hs).1 _ _ hp
    have h3 := (h2 x _ _ hp ⟨r, false⟩).2 rfl
    rw [pb_some hp]
    show (∀ x_1 r_1, q x r = some (x_1, r_1) → f (m s).1 (m s).2 = _) ∧ (q x r = none → (f (m s).1 (m s).2).2.bad = true)
    rw [h1]
    exact h3
theorem lsM_bad {α : Type} (h : R.Ok) {m : M α} (acc : List α) (s : RS) (hs : s.bad = true) : (lsM R m acc s).2.bad = true := repM_bad _ _ _ ((h.num s).1 hs)
theorem dM_bad (h : R.Ok) {p : Nat} {y : Ev} (s : RS) (hs : s.bad = true) : (dM R p y s).2.bad = true := by
  match p with
  | 0 => exact (h.num s).1 hs
  | 1 => exact (h.wd s).1 hs
  | 2 => exact (sPl h s).1 hs
  | 3 => exact (h.num s).1 hs
  | 4 => exact (h.num s).1 hs
  | 5 => exact (h.tr s).1 hs
  | 6 => exact lsM_bad h _ s hs
  | 7 => exact (sRv h s).1 hs
  | 8 => exact (h.num s).1 hs
  | 9 => exact (sOp h s).1 hs
  | 10 => exact lsM_bad h _ s hs
  | 11 => exact (sFl h s).1 hs
  | n + 12 => exact hs
theorem decM_bad (h : R.Ok) : ∀ (l : List Nat) (y : Ev) (s : RS), s.bad = true → (decM R l y s).2.bad = true
  | [], _, _, hs => hs
  | p :: l, y, s, hs => decM_bad h l _ _ (dM_bad h s hs)
theorem sDec (h : R.Ok) : ∀ {l : List Nat} {y : Ev}, l.Nodup → (6 ∈ l → y.reports = []) → (10 ∈ l → y.ops = []) → Sim (decP l y) (decM R l y)
  | [], y, _, _, _ => Sim.pure y
  | p :: l, y, hn, h6, h10 => by
    have hn' := List.nodup_cons.1 hn
    refine (sD h (fun e => h6 (by simp [e])) fun e => h10 (by simp [e])).bind' (fun z s hs => decM_bad h l z s hs) fun z b r hz => ?_
    have hl := dPart_lists hz
    refine sDec h hn'.2 (fun h' => ?_) fun h' => ?_
    · rw [hl.1 fun e => hn'.1 (e ▸ h')]; exact h6 (by simp [h'])
    rw [hl.2 fun e => hn'.1 (e ▸ h')]; exact h10 (by simp [h'])
theorem ite_nodup {c : Prop} [Decidable c] {a b : List Nat} (ha : a.Nodup) (hb : b.Nodup) : (if c then a else b).Nodup := by
  split
  · exact ha
  exact hb
theorem fields_nodup (k : Int) : (fieldsL k).Nodup := by
  unfold fieldsL
  repeat' apply ite_nodup
  all_goals decide
/-- What a reader's Decode finds, but for Validate: the event, if all went well and nothing is left. -/
def runD (R : Rdr) (b : BL) : Option Ev := match b with
  | [] => none
  | a :: r => if (decM R (fieldsL (a.toNat : Int)) (ev0 (a.toNat : Int)) ⟨r, false⟩).2.bad = true ∨ (decM R (fieldsL (a.toNat : Int)) (ev0 (a.toNat : Int)) ⟨r, false⟩).2.b ≠ [] then none else some (decM R (fieldsL (a.toNat : Int)) (ev0 (a.toNat : Int)) ⟨r, false⟩).1
theorem runD_eq (h : R.Ok) (b : BL) : runD R b = decB b := by
  match b with
  | [] => rfl
  | a :: r =>
    have hs := (sDec h (l := fieldsL (a.toNat : Int)) (y := ev0 (a.toNat : Int)) (fields_nodup _) (fun _ => rfl) (fun _ => rfl) ⟨r, false⟩).2 rfl
    unfold runD decB
    dsimp only at hs ⊢
    cases hd : decP (fieldsL (a.toNat : Int)) (ev0 (a.toNat : Int)) r with
    | none =>
      rw [if_pos (.inl (hs.2 hd))]
    | some xr =>
      obtain ⟨x, r1⟩ := xr
      rw [hs.1 _ _ hd]
      cases r1 with
      | nil => rw [if_neg (by simp)]
      | cons c r1 => rw [if_pos (.inr (by simp))]
def numE : M Int := fun s => match s.bad, s.b with | false, a :: b :: c :: d :: r => (n4 a b c d, ⟨r, false⟩) | _, _ => (0, ⟨s.b, true⟩)
def trE : M Bool := fun s => match s.bad, s.b with | false, a :: r => (decide (a = 1), ⟨r, decide (a.toNat > 1)⟩) | _, _ => (false, ⟨s.b, true⟩)
def tkE (n : Int) : M ByteArray := fun s => if s.bad = true ∨ n > (s.b.length : Nat) then (emptyS, ⟨s.b, true⟩) else (strB (s.b.take n.toNat), ⟨s.b.drop n.toNat, false⟩)
def wdE : M ByteArray := mb numE tkE
def rE : Rdr := ⟨numE, trE, wdE⟩
theorem sim_num : Sim pNum numE := by
  rintro ⟨b, bad⟩
  refine ⟨fun h => by simp only at h; subst h; rfl, fun h => ?_⟩
  simp only at h; subst h
  match b with
  | a :: b :: c :: d :: r => exact ⟨fun x r' hx => (by cases hx; rfl), fun hx => (by cases hx)⟩
  | [] => exact ⟨fun x r' hx => (by cases hx), fun _ => rfl⟩
  | [_] => exact ⟨fun x r' hx => (by cases hx), fun _ => rfl⟩
  | [_, _] => exact ⟨fun x r' hx => (by cases hx), fun _ => rfl⟩
  | [_, _, _] => exact ⟨fun x r' hx => (by cases hx), fun _ => rfl⟩
theorem pTr_0 (r : BL) : pTr (0 :: r) = some (false, r) := rfl
theorem pTr_1 (r : BL) : pTr (1 :: r) = some (true, r) := rfl
theorem pTr_no {a : UInt8} (r : BL) (h0 : a ≠ 0) (h1 : a ≠ 1) : pTr (a :: r) = none := by
  show (if a = 0 then _ else if a = 1 then _ else _) = _
  rw [if_neg h0, if_neg h1]
theorem sim_tr : Sim pTr trE := by
  rintro ⟨b, bad⟩
  refine ⟨fun h => by simp only at h; subst h; rfl, fun h => ?_⟩
  simp only at h; subst h
  match b with
  | [] => exact ⟨fun x r' hx => (by cases hx), fun _ => rfl⟩
  | a :: r =>
    by_cases h0 : a = 0
    · subst h0
      exact ⟨fun x r' hx => (by rw [pTr_0] at hx; cases hx; rfl), fun hx => (by rw [pTr_0] at hx; cases hx)⟩
    by_cases h1 : a = 1
    · subst h1
      exact ⟨fun x r' hx => (by rw [pTr_1] at hx; cases hx; rfl), fun hx => (by rw [pTr_1] at hx; cases hx)⟩
    rw [pTr_no r h0 h1]
    refine ⟨fun x r' hx => (by cases hx), fun _ => ?_⟩
    have e0 : a.toNat ≠ 0 := fun e => h0 (UInt8.toNat_inj.1 e)
    have e1 : a.toNat ≠ 1 := fun e => h1 (UInt8.toNat_inj.1 e)
    exact decide_eq_true (show a.toNat > 1 by omega)
theorem sim_tk (n : Int) : Sim (tkS n) (tkE n) := by
  rintro ⟨b, bad⟩
  unfold tkE
  dsimp only
  refine ⟨fun h => by rw [if_pos (.inl h)], fun h => ?_⟩
  subst h
  by_cases hn : n ≤ (b.length : Nat)
  · rw [tkS_yes hn, if_neg (fun h => h.elim (fun h => by cases h) (fun h => by omega))]
    exact ⟨fun x r' hx => (by cases hx; rfl), fun hx => (by cases hx)⟩
  rw [tkS_no hn, if_pos (.inr (by omega))]
  exact ⟨fun x r' hx => (by cases hx), fun _ => rfl⟩
theorem rE_ok : rE.Ok := ⟨sim_num, sim_tr, sim_num.bind sim_tk⟩
/-- The reference's reader. -/
def byR : M Int := fun s => match s.b with | [] => (0, ⟨[], true⟩) | a :: r => ((a.toNat : Int), ⟨r, s.bad⟩)
def numR : M Int := mb byR fun a => mb byR fun b => mb byR fun c => mb byR fun d => mp (((a * 256 + b) * 256 + c) * 256 + d)
def trR : M Bool := mb byR fun n s => (decide (n = 1), ⟨s.b, s.bad || decide (n > 1)⟩)
def tkR (n : Int) : M ByteArray := fun s => if s.bad = true ∨ n > (s.b.length : Nat) then (emptyS, ⟨s.b, true⟩) else (strB (s.b.take n.toNat), ⟨s.b.drop n.toNat, s.bad⟩)
def wdR : M ByteArray := mb numR tkR
def rR : Rdr := ⟨numR, trR, wdR⟩
def pBy : P Int := fun b => match b with | [] => none | a :: r => some ((a.toNat : Int), r)
end
def rdB (s : ByteArray) : Bool := s.data.toList.all (fun c => decide (c = 63) || dgB c) && (decide (s.size = 0) || decide (s.size = 10))
def rpB (r : Report) : Bool := inB r.device 0 23 && rdB r.read
def prB (x : Ev) (p : Nat) : Bool := match p with
  | 0 => inB x.time 0 1048576 | 1 => true | 2 => plB x.plate | 3 => inB x.node 0 23 | 4 => inB x.image 0 1048576 | 5 => true | 6 => x.reports.all rpB
  | 7 => (inB x.rev.kind 1 5 && inB x.rev.amount 0 1048576) && flB x.rev.fl | 8 => inB x.device 1 6 | 9 => opB x.op && (decide (x.op.kind = 1) == decide (x.kind = 8))
  | 10 => x.ops.all (fun o => opB o && decide (o.device = x.device)) | 11 => flB x.fl | _ => true
def ascR (l : List Report) : Bool := (List.range l.length).all fun i => decide (i = 0) || decide ((l.getD i ⟨0, false, emptyS⟩).device > (l.getD (i - 1) ⟨0, false, emptyS⟩).device)
def limB (x : Ev) : Bool := (decide ((x.text.size : Int) > 2048) || decide ((x.reports.length : Int) > 24)) || decide ((x.ops.length : Int) > 60)
open Classical in
noncomputable def sameB (x y : Ev) : Bool := decide (x = y)
open Classical in
noncomputable def valV (x : Ev) : Int :=
  if inB x.kind 1 14 = false then 4 else if x ≠ onlyV x then 7 else if limB x = true then 2 else if (fieldsL x.kind).all (prB x) = false then 1 else if ascR x.reports = false then 9 else 0
structure Good (x : Ev) : Prop where
  kind : 1 ≤ x.kind ∧ x.kind ≤ 14
  only : x = onlyV x
  lim : x.text.size ≤ 2048 ∧ x.reports.length ≤ 24 ∧ x.ops.length ≤ 60
  pr : ∀ p ∈ fieldsL x.kind, prB x p = true
  asc : ascR x.reports = true
theorem inB_iff {n lo hi : Int} : inB n lo hi = true ↔ lo ≤ n ∧ n ≤ hi := by
  unfold inB
  rw [Bool.and_eq_true, decide_eq_true_eq, decide_eq_true_eq]
theorem valV_0 {x : Ev} : valV x = 0 ↔ Good x := by
  unfold valV
  constructor
  · intro h
    by_cases h1 : inB x.kind 1 14 = false
    · rw [if_pos h1] at h; exact absurd h (by decide)
    rw [if_neg h1] at h
    by_cases h2 : x ≠ onlyV x
    · rw [if_pos h2] at h; exact absurd h (by decide)
    rw [if_neg h2] at h
    by_cases h3 : limB x = true
    · rw [if_pos h3] at h; exact absurd h (by decide)
    rw [if_neg h3] at h
    by_cases h4 : (fieldsL x.kind).all (prB x) = false
    · rw [if_pos h4] at h; exact absurd h (by decide)
    rw [if_neg h4] at h
    by_cases h5 : ascR x.reports = false
    · rw [if_pos h5] at h; exact absurd h (by decide)
    refine ⟨inB_iff.1 (by simpa using h1), Classical.not_not.1 h2, ?_, fun p hp => ?_, by simpa using h5⟩
    · unfold limB at h3
      simp only [Bool.or_eq_true, decide_eq_true_eq, not_or] at h3
      omega
    have := (Bool.not_eq_false _).mp h4
    exact List.all_eq_true.1 this p hp
  intro h
  rw [if_neg (by rw [inB_iff.2 h.kind]; decide), if_neg (fun h' => h' h.only), if_neg, if_neg, if_neg (by rw [h.asc]; decide)]
  · rw [List.all_eq_true.2 h.pr]; decide
  have := h.lim
  unfold limB
  simp only [Bool.or_eq_true, decide_eq_true_eq, not_or]
  omega
theorem car_size {s : ByteArray} (h : carB s = true) : s.size = 2 := by
  unfold carB at h
  simp only [Bool.and_eq_true, decide_eq_true_eq] at h
  exact h.1
theorem let_size {s : ByteArray} {a b : Int} (h : lettersB s a b = true) : (s.size : Int) ≤ b := by
  unfold lettersB at h
  simp only [Bool.and_eq_true, decide_eq_true_eq] at h
  omega
theorem fl_good {f : Flight} (h : flB f = true) : okFl f ∧ f.carrier.size ≤ 2 ∧ f.suffix.size ≤ 1 := by
  unfold flB at h
  simp only [Bool.and_eq_true, decide_eq_true_eq] at h
  obtain ⟨⟨⟨⟨⟨h1, h2⟩, h3⟩, h4⟩, h5⟩, h6⟩ := h
  have a := car_size h1
  have b := let_size h4
  refine ⟨⟨?_, ?_, ?_, ?_⟩, by omega, by omega⟩ <;> (first | unfold okS | unfold okN) <;> omega
theorem pl_good {p : Plate} (h : plB p = true) : okPl p := by
  unfold plB at h
  simp only [Bool.and_eq_true, decide_eq_true_eq] at h
  unfold okPl okN
  omega
theorem pi_good {p : Piece} (h : piB p = true) : okPi p := by
  unfold piB at h
  simp only [Bool.and_eq_true, inB_iff] at h
  refine ⟨pl_good h.1.1, ?_, ?_⟩ <;> unfold okN <;> omega
theorem op_good {o : Op} (h : opB o = true) : okOp o ∧ (o.kind = 1 ∨ o.kind = 2) := by
  unfold opB at h
  split at h
  · cases h
  rename_i h0
  simp only [Bool.or_eq_true, Bool.not_eq_true', not_or, Bool.not_eq_false, inB_iff] at h0
  simp only [Bool.and_eq_true, Bool.or_eq_true, decide_eq_true_eq, inB_iff] at h
  refine ⟨⟨?_, ?_, ?_, ?_, ?_, pi_good h.2⟩, h.1.1⟩ <;> unfold okN <;> omega
theorem rp_good {r : Report} (h : rpB r = true) : okRp r ∧ r.read.size ≤ 10 := by
  unfold rpB rdB at h
  simp only [Bool.and_eq_true, Bool.or_eq_true, decide_eq_true_eq, inB_iff] at h
  refine ⟨⟨?_, trivial, ?_⟩, by omega⟩ <;> (first | unfold okS | unfold okN) <;> omega
theorem Good.ok {x : Ev} (h : Good x) : ∀ p ∈ fieldsL x.kind, okPart x p := fun p hp => by
  have hl := h.lim
  have h1 := h.pr p hp
  unfold okPart
  split
  · have := inB_iff.1 h1; unfold okN; omega
  · unfold okS; omega
  · exact pl_good h1
  · have := inB_iff.1 h1; unfold okN; omega
  · have := inB_iff.1 h1; unfold okN; omega
  · trivial
  · exact ⟨by omega, fun r hr => (rp_good (List.all_eq_true.1 h1 r hr)).1⟩
  · unfold prB at h1
    simp only [Bool.and_eq_true, inB_iff] at h1
    refine ⟨?_, ?_, (fl_good h1.2).1⟩ <;> unfold okN <;> omega
  · have := inB_iff.1 h1; unfold okN; omega
  · unfold prB at h1
    exact (op_good (Bool.and_eq_true _ _ |>.mp h1).1).1
  · refine ⟨by omega, fun o ho => (op_good ?_).1⟩
    have := List.all_eq_true.1 h1 o ho
    exact (Bool.and_eq_true _ _ |>.mp this).1
  · exact (fl_good h1).1
  trivial
open Classical in
noncomputable def decV (b : BL) : Ev × Int := match b with
  | [] => (ev0 0, 4)
  | a :: _ => if inB (a.toNat : Int) 1 14 = false then (ev0 0, 4) else match decB b with | some x => if valV x = 0 then (x, 0) else (ev0 0, 3) | none => (ev0 0, 3)
open Classical in
noncomputable def encV (x : Ev) : BL × Int := if valV x = 0 then (encB x, 0) else ([], valV x)
theorem dec_enc {x : Ev} (h : Good x) : decV (encB x) = (x, 0) := by
  have e : ((byI x.kind).toNat : Int) = x.kind := by rw [byI_nat]; have := h.kind; omega
  have hd := decB_to h.kind h.only h.ok
  unfold decV
  rw [hd]
  show (if inB ((byI x.kind).toNat : Int) 1 14 = false then _ else if valV x = 0 then (x, (0 : Int)) else _) = _
  rw [e, if_neg (by rw [inB_iff.2 h.kind]; decide), if_pos (valV_0.2 h)]
theorem enc_ok {x : Ev} (h : Good x) : encV x = (encB x, 0) := if_pos (valV_0.2 h)
theorem enc_no {x : Ev} (h : ¬ Good x) : encV x = ([], valV x) := if_neg fun h' => h (valV_0.1 h')
theorem b4_len (n : Int) : (b4 n).length = 4 := rfl
theorem wd_len (s : ByteArray) : (eWd s).length = 4 + s.size := by
  show (b4 _ ++ s.data.toList).length = _
  rw [List.length_append, b4_len, size_data]
theorem pl_len (p : Plate) : (ePl p).length = 12 := rfl
theorem op_len (o : Op) : (eOp o).length = 40 := rfl
theorem fl_len {f : Flight} (h : flB f = true) : (eFl f).length ≤ 19 := by
  obtain ⟨_, h1, h2⟩ := fl_good h
  show (eWd f.carrier ++ (b4 f.number ++ (eWd f.suffix ++ b4 f.day))).length ≤ _
  simp only [List.length_append, b4_len, wd_len]
  omega
theorem rp_len {r : Report} (h : rpB r = true) : (eRp r).length ≤ 19 := by
  have h1 := (rp_good h).2
  show (b4 r.device ++ ([_] ++ eWd r.read)).length ≤ _
  simp only [List.length_append, b4_len, wd_len, List.length_cons, List.length_nil]
  omega
theorem flatB_len {α : Type} {e : α → BL} {k : Nat} : ∀ {l : List α}, (∀ x ∈ l, (e x).length ≤ k) → (l.flatMap e).length ≤ l.length * k
  | [], _ => by simp
  | x :: l, h => by
    have h1 := h x (by simp)
    have h2 := flatB_len (l := l) fun y hy => h y (by simp [hy])
    rw [List.flatMap_cons, List.length_append, List.length_cons, Nat.succ_mul]
    omega
theorem part_len {x : Ev} (h : Good x) : ∀ p ∈ fieldsL x.kind, (ePart x p).length ≤ 2404 := fun p hp => by
  have hl := h.lim
  have h1 := h.pr p hp
  unfold ePart
  split
  · rw [b4_len]; omega
  · rw [wd_len]; omega
  · rw [pl_len]; omega
  · rw [b4_len]; omega
  · rw [b4_len]; omega
  · show 1 ≤ _; omega
  · have := flatB_len (l := x.reports) (e := eRp) (k := 19) fun r hr => rp_len (List.all_eq_true.1 h1 r hr)
    show (b4 _ ++ x.reports.flatMap eRp).length ≤ _
    rw [List.length_append, b4_len]
    omega
  · unfold prB at h1
    simp only [Bool.and_eq_true] at h1
    have := fl_len h1.2
    show (b4 _ ++ (b4 _ ++ eFl x.rev.fl)).length ≤ _
    simp only [List.length_append, b4_len]
    omega
  · rw [b4_len]; omega
  · rw [op_len]; omega
  · have := flatB_len (l := x.ops) (e := eOp) (k := 40) fun r hr => by rw [op_len]; omega
    show (b4 _ ++ x.ops.flatMap eOp).length ≤ _
    rw [List.length_append, b4_len]
    omega
  · have := fl_len (f := x.fl) h1; omega
  simp
theorem fields_len (k : Int) : fieldsL k = [] ∨ (∃ p, fieldsL k = [p]) ∨ (k = 2 ∧ fieldsL k = [2, 3]) ∨ (k = 3 ∧ fieldsL k = [0, 6]) ∨ (k = 4 ∧ fieldsL k = [4, 5]) ∨ (k = 8 ∧ fieldsL k = [9, 3]) ∨ (k = 10 ∧ fieldsL k = [2, 3]) ∨ (k = 12 ∧ fieldsL k = [8, 10]) := by
  by_cases hk : 1 ≤ k ∧ k ≤ 14
  · rcases kind_cases hk with rfl | rfl | rfl | rfl | rfl | rfl | rfl | rfl | rfl | rfl | rfl | rfl | rfl | rfl <;> simp [fieldsL]
  left
  unfold fieldsL
  repeat rw [if_neg (by omega)]
theorem enc_len {x : Ev} (h : Good x) : (encB x).length ≤ 2500 := by
  have hp := part_len h
  show ((fieldsL x.kind).flatMap (ePart x)).length + 1 ≤ _
  rcases fields_len x.kind with e | ⟨p, e⟩ | ⟨hk, e⟩ | ⟨hk, e⟩ | ⟨hk, e⟩ | ⟨hk, e⟩ | ⟨hk, e⟩ | ⟨hk, e⟩ <;> rw [e] at hp ⊢
  · simp
  · have := hp p (by simp); simp; omega
  · simp only [List.flatMap_cons, List.flatMap_nil, List.length_append, List.length_nil]; have := pl_len x.plate; have := b4_len x.node; simp only [ePart]; omega
  · simp only [List.flatMap_cons, List.flatMap_nil, List.length_append, List.length_nil]; have := hp 6 (by simp); have := b4_len x.time; simp only [ePart] at *; omega
  · simp only [List.flatMap_cons, List.flatMap_nil, List.length_append, List.length_nil]; have := b4_len x.image; simp only [ePart, eTr, List.length_cons, List.length_nil]; omega
  · simp only [List.flatMap_cons, List.flatMap_nil, List.length_append, List.length_nil]; have := op_len x.op; have := b4_len x.node; simp only [ePart]; omega
  · simp only [List.flatMap_cons, List.flatMap_nil, List.length_append, List.length_nil]; have := pl_len x.plate; have := b4_len x.node; simp only [ePart]; omega
  simp only [List.flatMap_cons, List.flatMap_nil, List.length_append, List.length_nil]; have := hp 10 (by simp); have := b4_len x.device; simp only [ePart] at *; omega
end Go.Proofs.YtfmnaigedgmhoaaDoor
namespace Go.Proofs.YtfmnaigedgmhoaaDoor
open Go.RowKit
set_option linter.unusedSimpArgs false
set_option linter.unusedVariables false
section
variable {C : Cx} {o : Oper} {ev : Operand → AV} {T : Sl}
theorem op_b2sR {src dst e2 : TypeId} {y : Operand} {l : List UInt8} {s : ByteArray} (ho : o.op = .convert src dst y) (hy : ev y = .ro (l.map fun b => [.v (.int .u8 (b.toNat : Nat))])) (hs : C.P.underlying src = some (.slice e2)) (he : C.P.underlying e2 = some (.int .u8)) (hd : C.P.underlying dst = some .string) (hsl : (⟨l.toArray⟩ : ByteArray) = s) : OpR C o ev T (.v (.string s)) := by
  subst hsl
  intro a w S vals bss hm h
  have h1 := h y (by simp [ho, Op.operands])
  rw [hy] at h1
  obtain ⟨-, A, c, sz, us, hv, h2, h3, h4, h5, h6, h7⟩ := Rep.ro_inv h1
  have hfl : ∀ l : List UInt8, (l.map fun b => [AV.v (.int .u8 (b.toNat : Nat))]).flatten = l.map fun b => AV.v (.int .u8 (b.toNat : Nat)) := fun l => by
    induction l with
    | nil => rfl
    | cons b l ih => simp [ih]
  rw [hfl, List.length_map] at h6
  rw [hfl] at h7
  rw [List.length_map] at hv h2
  refine ⟨.string ⟨l.toArray⟩, fun w' hk => ?_, TmpOK.v_ rfl⟩
  cases A with
  | none =>
    have hl : l = [] := by
      cases l with
      | nil => rfl
      | cons b l =>
        obtain ⟨g, o', e, _⟩ := h5 (by rw [h6]; simp)
        cases e
    subst hl
    have hrun := run_convert_bytes_nil (P := C.P) (w := w') src e2 hs he 0 c dst hd
    have hv' : a.eval y = .slice none 0 c := hv
    simp [execOp, ho, hv', hrun]
    rfl
  | some A =>
    have hrun := run_convert_bytes_back (P := C.P) w' src dst e2 A c l hs he hd (fun j hj => by
      obtain ⟨g, o', e, hg, hc⟩ := h5 (by omega)
      cases e
      have hu := List.getElem?_eq_getElem (l := us) (i := j) (by omega)
      have hx := (h7 j _ (.v (.int .u8 (l[j].toNat : Nat))) hu (by simp [hj])).v_inv.1
      have h8 := hc j _ hu
      rw [hx] at h8
      have := hk.cell h8 trivial
      simpa [add_off] using this)
    simp [execOp, ho, hv, hrun]
end
end Go.Proofs.YtfmnaigedgmhoaaDoor
namespace Go.Proofs.YtfmnaigedgmhoaaDoor
open Go.RowKit
set_option linter.unusedSimpArgs false
set_option linter.unusedVariables false
theorem op_ia_glob {C : Cx} {o : Oper} {ev : Operand → AV} {T : Sl} {t e : TypeId} {q : Operand} {kk : IntKind} {n : Int} (m : Nat) {l : List Int} (ho : o.op = .indexAddr t (.global 0) q) (hi : ev q = .v (.int kk n)) (ht : C.P.underlying t = some (.array 15 e)) (hn : n = (m : Int)) (hm : gRows[m]? = some l) (hs : sizeIs C.P e 1) :
    OpP C o ev T (.rop [.ro (l.map fun n => [.v (.int .i64 n)])]) := by
  intro a w S vals bss hme h
  have h2 := h q (by simp [ho, Op.operands])
  rw [hi] at h2
  have hee := elem_eqA ht
  have hml : m < 15 := (List.getElem?_eq_some_iff.1 hm).1
  subst hn
  have hlt : (m : Int) < (15 : Int) := by omega
  refine ⟨.pointer (some ⟨0, m, none⟩), fun w => ?_, hme.glob m l hm⟩
  have e0 : a.eval (.global 0) = .pointer (some ⟨0, 0, none⟩) := rfl
  simp [execOp, ho, e0, h2.v, run_indexAt_array w t _ _ _ (by rw [hee.1, hee.2]; exact ht), hlt, hee.1, hee.2, run_sizeOf hs, add_off]
section
variable {C : Cx} {T : Sl} {S S2 : Nat → Prop} {vals : List Value} {bss : List (List Nat)} {w w' : World}
variable {o : Oper} {ev : Operand → AV}
theorem op_val1 {f : FuncId} {p : Operand} {args : Array Operand} {ts : Array TypeId} {r k : Nat} {x0 x1 : AV} {xs ys : List AV} (ho : o.op = .call { callee := .value p, args := args, argTypes := ts }) (hp : ev p = .v (.func (.func f) #[] #[])) (hf : Enters C.P f) (hsp : Fn C.P f [x0] xs ys [x1]) (hs : T.slots[r]? = some (k, x0)) (hv : RL (View1 T r k) (args.toList.map ev) xs)
    (hx1 : ∃ e es es', x0 = .own e es ∧ x1 = .own e es' ∧ es.length = es'.length) (hn : ys.all (cloA 1) = true) {x : AV} {T' : Sl} (hx : packR (unp (ys.map (renA r k)) ⟨T.slots.set r (k, x1), T.ep⟩).1 = x) (hT : (unp (ys.map (renA r k)) ⟨T.slots.set r (k, x1), T.ep⟩).2 = T') : OpJ C o ev T x T' := by
  intro a w S vals bss hm h K hK Q
  have hfv : a.eval p = .func (.func f) #[] #[] := by
    have := h p (by simp [ho, Op.operands, Call.operands])
    rw [hp] at this
    exact (show Rep C.P S w [] _ _ from this).v_inv.1
  have hrl : r < T.slots.length := (List.getElem?_eq_some_iff.1 hs).1
  have hargs : ∀ y ∈ args, TmpOK C.P S w T vals (a.eval y) (ev y) := fun y hy => h y (by simp [ho, Op.operands, Call.operands]; exact .inr hy)
  obtain ⟨v, bs, hvr, hbr, hrep⟩ := hm.slot hs
  have hcame : Came C.P [x0] xs w S [v] [bs] (args.toList.map a.eval) := by
    refine ⟨hm.glob, hm.lt, rfl, rfl, fun q x u b h1 h2 h3 => ?_, ⟨fun q b h1 => ?_, fun q q' b b' hne h1 h2 => ?_⟩, fun b ⟨q, b1, h1, h2⟩ => ?_, by have := hv.1; simpa using this, fun i u x h1 h2 => ?_⟩
    · cases q with
      | zero => simp at h1 h2 h3; subst h1; subst h2; subst h3; exact hrep
      | succ q => simp at h1
    · cases q with
      | zero => simp at h1; subst h1; exact hm.nodup r _ hbr
      | succ q => simp at h1
    · cases q with
      | zero => cases q' with
        | zero => exact absurd rfl hne
        | succ q' => simp at h2
      | succ q => simp at h1
    · cases q with
      | zero => simp at h1; subst h1; exact hm.apart r _ hbr b h2
      | succ q => simp at h1
    rw [List.getElem?_map] at h1
    cases hq : args.toList[i]? with
    | none => rw [hq] at h1; cases h1
    | some y =>
      rw [hq] at h1
      simp only [Option.map_some, Option.some.injEq] at h1
      subst h1
      exact view1_ok hm hs hvr (hv.2 i (ev y) x (by rw [List.getElem?_map, hq]; rfl) h2) (hargs y (Array.mem_toList_iff.1 (List.mem_of_getElem? hq)))
  have hc := hsp w S [v] [bs] _ hcame
  have hrun : (execOp a.eval o).run C.P w = .ok (.enter f (args.toList.map a.eval).toArray) w := by
    have e1 : (args.map a.eval) = (args.toList.map a.eval).toArray := by apply Array.toList_inj.1; simp
    simp only [execOp, ho, resolve, hfv, Deferred.ofValue, Sem.run_bind, Sem.run_pure, Result.andThen_ok, invoke]
    rw [← e1]
    simpa using hf _ w
  unfold Oper.wp
  rw [hrun, Oper.upon_enter]
  refine hc.mono ?_
  rintro e w' ⟨us, ys', outs, bsr, bss', rfl, went, rfl, rfl⟩
  simp only
  obtain ⟨bs', rfl⟩ : ∃ b, bss' = [b] := by
    match bss', went.nb with
    | [b], _ => exact ⟨b, rfl⟩
  have hin1 : ∀ (b : List Nat) (q : Nat), InL [b] q ↔ q ∈ b := fun b q => by
    constructor
    · rintro ⟨i, b1, h1, h2⟩
      cases i with
      | zero => simp at h1; subst h1; exact h2
      | succ i => simp at h1
    intro h; exact ⟨0, b, rfl, h⟩
  have hk : Kept (fun q => q ∉ bs) w w' := went.kept.mono fun q _ h h' => h ((hin1 _ _).1 h')
  have hinR : ∀ q, InL bsr q → InL (bsr ++ [bs']) q := fun q ⟨i, b, h1, h2⟩ => ⟨i, b, by rw [List.getElem?_append_left (List.getElem?_eq_some_iff.1 h1).1]; exact h1, h2⟩
  have hinS : ∀ q, q ∈ bs' → InL (bsr ++ [bs']) q := fun q h => ⟨bsr.length, bs', by simp, h⟩
  have hown' := went.own
  have hownR : Own2 bsr := ⟨fun i b h => hown'.nodup i b (by rw [List.getElem?_append_left (List.getElem?_eq_some_iff.1 h).1]; exact h), fun i j b b' hne h1 h2 => hown'.disj i j b b' hne (by rw [List.getElem?_append_left (List.getElem?_eq_some_iff.1 h1).1]; exact h1) (by rw [List.getElem?_append_left (List.getElem?_eq_some_iff.1 h2).1]; exact h2)⟩
  have hmine : ∀ q, InL (bsr ++ [bs']) q → w.heap.size ≤ q ∨ q ∈ bs := fun q h => (went.mine q h).imp id (hin1 _ _).1
  obtain ⟨e0, es, es', rfl, rfl, hle⟩ := hx1
  obtain ⟨hm2, hf2⟩ := hm.set2 (S2 := After S w w' [bs] (bsr ++ [bs'])) (x' := .own e0 es') (bs' := bs') hs hvr hbr hk (fun q h => .inl h) (fun q h => h.imp id fun ⟨h1, h2, h3⟩ => ⟨h1.imp id (hin1 _ _).1, h2, fun h => h3 (hinS q h)⟩)
    (went.rep 0 _ v bs' rfl rfl rfl) (hown'.nodup bsr.length bs' (by simp)) (fun q h => (hmine q (hinS q h)).symm) (fun e es2 h => by injection h with h1 h2; subst h1; subst h2; exact ⟨es, rfl, hle⟩) (fun b ks h => by cases h)
  have hs2 : (T.slots.set r (k, AV.own e0 es'))[r]? = some (k, .own e0 es') := by simp [hrl]
  have hcl : ∀ (i : Nat) (y : AV), ys'[i]? = some y → cloA 1 y = true := fun i y h => List.all_eq_true.1 hn y (List.mem_of_getElem? h)
  obtain ⟨vals', bss'', g1, g2, g3⟩ := unp_ok2 (ys'.map (renA r k)) us bsr _ vals _ hm2 (by simp [went.nu]) (by simp [went.nr]) (fun i u y b q1 q2 q3 => by
    rw [List.getElem?_map] at q2
    cases hq : ys'[i]? with
    | none => rw [hq] at q2; cases q2
    | some y0 =>
      rw [hq] at q2
      simp only [Option.map_some, Option.some.injEq] at q2
      subst q2
      rcases went.res i u y0 b q1 hq q3 with h | ⟨h1, h2⟩
      · exact .inl (h.ren r k)
      · exact .inr ⟨h1, renA_ok (T' := ⟨T.slots.set r (k, .own e0 es'), T.ep⟩) hs2 hvr (hm.ver r k _ hs) h2 (hcl i y0 hq)⟩) hownR (fun q hq => by
      refine ⟨fun ⟨i, b, h1, h2⟩ => ?_, fun h => ?_, ?_⟩
      · rw [getElem?_set_ _ _ _ _ (by rw [hm.nb]; exact hrl)] at h1
        obtain ⟨j, bj, h3, h4⟩ := hq
        split at h1
        · injection h1 with h1; subst h1
          refine hown'.disj j bsr.length bj bs' ?_ (by rw [List.getElem?_append_left (List.getElem?_eq_some_iff.1 h3).1]; exact h3) (by simp) q h4 h2
          have := (List.getElem?_eq_some_iff.1 h3).1; omega
        rename_i hne
        rcases hmine q (hinR q ⟨j, bj, h3, h4⟩) with h | h
        · have := hm.blt h1 q h2; omega
        exact hm.disj r i bs b hne hbr h1 q h h2
      · rcases h with h | ⟨_, _, h⟩
        · rcases hmine q (hinR q hq) with h' | h'
          · have := hm.lt q h; omega
          exact hm.apart r bs hbr q h' h
        exact h (hinR q hq)
      rcases hmine q (hinR q hq) with h | h
      · have := hm.kept.size; exact .inr (by omega)
      exact hm.mine r bs hbr q h)
  subst hT
  refine hK _ _ _ _ _ g1 (fun u x h => g2 u x (hf2 u x h)) ?_
  subst hx
  match us, hz : (unp (ys'.map (renA r k)) ⟨T.slots.set r (k, .own e0 es'), T.ep⟩).1, g3 with
  | [], zs, rl =>
    have : zs = [] := List.eq_nil_of_length_eq_zero rl.1.symm
    subst this
    exact ⟨#[], rfl, RL.nil⟩
  | [u], zs, rl =>
    obtain ⟨z, rfl⟩ : ∃ z, zs = [z] := by
      match zs, rl.1 with
      | [z], _ => exact ⟨z, rfl⟩
    have := rl.2 0 u z rfl rfl
    cases z with
    | tup cs => exact absurd rfl (Rep.plain (show Rep _ _ _ _ _ (.tup cs) from this) cs).2
    | _ => exact this
  | u :: u2 :: us, zs, rl =>
    obtain ⟨z1, z2, zs', rfl⟩ : ∃ z1 z2 zs', zs = z1 :: z2 :: zs' := by
      match zs, rl.1 with
      | z1 :: z2 :: zs', _ => exact ⟨z1, z2, zs', rfl⟩
    exact ⟨_, rfl, by simpa using rl⟩
end
end Go.Proofs.YtfmnaigedgmhoaaDoor
namespace Go.Proofs.YtfmnaigedgmhoaaDoor
open Go.RowKit
set_option linter.unusedSimpArgs false
set_option linter.unusedVariables false
theorem op_buildArr {C : Cx} {o : Oper} {ev : Operand → AV} {T : Sl} {t e : TypeId} {m n sz b : Nat} {z : Value} {ps : Array (Nat × Operand)} (ho : o.op = .build t ps) (rows : List (Nat × List AV)) (ht : C.P.underlying t = some (.array m e)) (hs : sizeIs C.P e sz) (hz : zeroIs C.P t z n b)
    (hp : ps.toList.map (fun p => (p.1, rowR (ev p.2))) = rows.map (fun p => (p.1, some p.2))) (hr : rows.all (fun p => p.2.length == sz && p.1 * sz + sz ≤ n) = true) {xs : List AV} (hx : rows.foldl (fun cs p => splice cs (p.1 * sz) p.2) (z.cells.toList.map .v) = xs) :
    OpP C o ev T (.agg xs) := by
  intro a w S vals bss hm h
  have hrl : RL (fun (u : Nat × Value) (x : Nat × List AV) => u.1 = x.1 ∧ RL (RefOK C.P S w T vals) u.2.cells.toList x.2) (evP a ps).toList rows := by
    refine ⟨by have := congrArg List.length hp; simpa [evP] using this, fun i u x hu hx => ?_⟩
    simp only [evP, Array.toList_map, List.getElem?_map] at hu
    cases hq : ps.toList[i]? with
    | none => rw [hq] at hu; cases hu
    | some q =>
      rw [hq] at hu
      simp at hu
      have h1 := congrArg (·[i]?) hp
      simp only [List.getElem?_map, hq, hx, Option.map_some, Option.some.injEq] at h1
      injection h1 with h1 h2
      rw [← hu]
      exact ⟨h1, (h q.2 (by simp [ho, Op.operands]; exact ⟨q.1, Array.mem_toList_iff.1 (List.mem_of_getElem? hq)⟩)).rowR h2⟩
  have hfill := fill_run (fun i => some (i * sz, sz)) (evP a ps).toList z.cells fun p hp => by
    obtain ⟨i, hi', rfl⟩ := List.getElem_of_mem hp
    have hi2 : i < rows.length := by rw [← hrl.1]; exact hi'
    obtain ⟨e1, e2⟩ := hrl.2 i _ _ (List.getElem?_eq_getElem hi') (List.getElem?_eq_getElem hi2)
    have h3 := List.all_eq_true.1 hr rows[i] (List.getElem_mem hi2)
    rw [e1]
    simp only [Bool.and_eq_true, beq_iff_eq, decide_eq_true_eq] at h3
    have e5 : (evP a ps).toList[i].2.cells.size = sz := by rw [← h3.1, ← e2.1]; simp
    refine ⟨rows[i].1 * sz, by rw [e5], ?_⟩
    rw [e5, hz.2.1]; exact h3.2
  have hf2 := rl_foldl_ref (T := T) (P := C.P) (S := S) (w := w) (vals := vals) (fun i => i * sz) _ _ _ _ hrl (hz.rl.mono fun u x h => Rep.ref (T := T) (vals := vals) h)
  rw [hx] at hf2
  refine ⟨.agg ((evP a ps).toList.foldl (fun cs p => splice cs (p.1 * sz) p.2.cells.toList) z.cells.toList).toArray, fun w => ?_, ⟨_, rfl, hf2⟩⟩
  have he : execOp a.eval o = (do let v ← Instr.build t (evP a ps); pure (Next.value v) : Sem Next) := by simp only [execOp, ho]; rfl
  rw [he]
  have hfill' : Instr.fill (fun i => some (i * sz, sz)) z.cells (evP a ps).toList = _ := hfill
  simp only [Instr.build, Sem.run_bind, hz.run, run_underlying ht, Result.andThen_ok, run_sizeOf hs, hfill', Sem.run_pure]
  simp
end Go.Proofs.YtfmnaigedgmhoaaDoor
namespace Go.Proofs.YtfmnaigedgmhoaaDoor
open Go.RowKit
set_option linter.unusedSimpArgs false
set_option linter.unusedVariables false
theorem own_app_str {P : Program} {w : World} {t u ty e : TypeId} {i : TypeInfo} (ht : P.underlying t = some (.slice e)) (hu : P.underlying u = some .string) (hi : P.info? e = some i) (hz : i.zero = some (.int .u8 0)) (hsize : i.size = 1) (hby : i.bytes = 1)
    {v : Value} {n : Nat} {xs : List Value} (hown : w.ownsRow 0 e 1 v n xs) (s : ByteArray) (hb : n + s.size ≤ 140737488355328) :
    ∃ v' w', (Builtin.append_ #[t, u] ty #[v, .string s]).run P w = .ok v' w' ∧ w'.ownsRow 0 e 1 v' (n + s.size) (xs ++ Lib.strCells s) ∧ w.grownBy w' v.ownBlock ∧ (v'.ownBlock = v.ownBlock ∨ v'.ownBlock = some w.heap.size) := by
  have hmax : n + s.size ≤ maxLen := by unfold maxLen; omega
  obtain ⟨v', w', hr, ho, hg, hn⟩ := Lib.run_append_own_string (P := P) w 0 t u ty e i ht hu hi hz hsize hby v n xs hown s hmax hb (Nat.zero_le _)
  refine ⟨v', w', hr, ho, hg, ?_⟩
  rcases hown.2 with ⟨rfl, rfl⟩ | ⟨g, cap, cur, rfl, -, hgg, hnc, hcm, hcs, htake⟩
  · by_cases hm : s.size = 0
    · left; rw [hn.2 ⟨rfl, hm⟩]
    have h1 := run_append_nil_string (P := P) w t u ty e i (.int .u8 0) ht hu hi hz s (by omega) (by omega) (by rw [hby]; omega)
    rw [hr] at h1
    injection h1 with h1 _
    right; rw [h1]; rfl
  by_cases hroom : n + s.size ≤ cap
  · have hcs2 : cur.size = cap := by simpa using hcs
    have h1 := Lib.run_append_room_string (P := P) w t u ty e i ht hu hi hsize g n cap cur hgg s hroom (by omega)
    rw [hr] at h1
    injection h1 with h1 _
    left; rw [h1]; rfl
  have holds : ∀ j u, xs[j]? = some u → w.cell? ((⟨g, 0, none⟩ : Addr).add j) = some u := hown.cells (g := g) rfl
  have h1 := Lib.run_append_grow_string (P := P) w t u ty e i (.int .u8 0) ht hu hi hz ⟨g, 0, none⟩ n cap xs (by rw [hsize]; simpa using hown.1) holds s (by omega) (by omega) (by rw [hby]; exact growslice_fits (by omega) (by omega))
  rw [hr] at h1
  injection h1 with h1 _
  right; rw [h1]; rfl
abbrev strRows (s : ByteArray) : List (List AV) := s.data.toList.map fun b => [.v (.int .u8 (b.toNat : Nat))]
theorem strRows_len (s : ByteArray) : (strRows s).length = s.size := by
  rw [List.length_map, Array.length_toList]; rfl
theorem flat_one {α : Type} (f : UInt8 → α) : ∀ l : List UInt8, (l.map fun b => [f b]).flatten = l.map f
  | [] => rfl
  | x :: l => by rw [List.map_cons, List.flatten_cons, flat_one f l]; rfl
theorem run_app_str {P : Program} {S : Nat → Prop} {w : World} {t u e ty : TypeId} (ht : P.underlying t = some (.slice e)) (hu : P.underlying u = some .string) (hz : zeroIs P e (.int .u8 0) 1 1) {bs : List Nat} {v : Value} {es : List (List AV)} {s : ByteArray}
    (h : Rep P S w bs v (.own e es)) (hnd : bs.Nodup) (hap : ∀ q ∈ bs, ¬ S q) (hlen : es.length + s.size ≤ 140737488355328) :
    ∃ v' w' bs', (Builtin.append_ #[t, u] ty #[v, .string s]).run P w = .ok v' w' ∧ Rep P S w' bs' v' (.own e (es ++ strRows s)) ∧ bs'.Nodup ∧ (∀ q ∈ bs', q ∈ bs ∨ w.heap.size ≤ q) ∧ Kept (fun q => q ∉ bs) w w' := by
  obtain ⟨us0, sz0, bss, rfl, hi, hsz, hown, hul, hbl, hcc⟩ := h.own_inv
  obtain rfl := hi.inj hz.size
  obtain ⟨hzi, hz2, hz3⟩ := hz
  obtain ⟨i, hii, hz0, hz1, hz4⟩ := info_parts hzi
  obtain ⟨v', w', hrun, ho, hg, hb'⟩ := own_app_str (ty := ty) ht hu hii hz0 hz1 hz4 hown s hlen
  have hsl : (Lib.strCells s).length = s.size := Lib.strCells_length s
  have hfl : (strRows s).flatten = s.data.toList.map fun b => AV.v (.int .u8 (b.toNat : Nat)) := flat_one _ _
  have hk : Kept (fun q => some q ≠ v.ownBlock) w w' := (Kept.refl _ _).grown hg fun k hk => .inl fun h => h hk.symm
  rw [List.nodup_append] at hnd
  obtain ⟨nd1, nd2, nd3⟩ := hnd
  have hvS : ∀ k, k < w.heap.size → S k → some k ≠ v.ownBlock := fun k _ hk he => hap k (List.mem_append_left _ (by rw [← he]; simp)) hk
  refine ⟨v', w', v'.ownBlock.toList ++ (bss ++ List.replicate s.size []).flatten, hrun, ?_, ?_, ?_, ?_⟩
  · refine Rep.own (us := us0 ++ Lib.strCells s) hi ?_ (by rw [List.length_append, strRows_len]; exact ho) (by rw [List.flatten_append, List.length_append, List.length_append, hul, hfl, List.length_map, hsl, Array.length_toList]; rfl) (by simp [hbl, hsl]) fun q u x bq h1 h2 h3 => ?_
    · intro x hx
      rcases List.mem_append.1 hx with h | h
      · exact hsz x h
      obtain ⟨b, _, rfl⟩ := List.mem_map.1 h; rfl
    rw [List.flatten_append] at h2
    by_cases hq : q < us0.length
    · rw [List.getElem?_append_left hq] at h1
      rw [List.getElem?_append_left (by rw [← hul]; exact hq)] at h2
      rw [List.getElem?_append_left (by rw [hbl]; exact hq)] at h3
      refine (hcc q u x bq h1 h2 h3).kept hk hvS fun b' hb' he => ?_
      exact nd3 b' (by rw [← he]; simp) b' (List.mem_flatten.2 ⟨bq, List.mem_of_getElem? h3, hb'⟩) rfl
    rw [List.getElem?_append_right (by omega)] at h1
    rw [List.getElem?_append_right (by rw [← hul]; omega), ← hul, hfl] at h2
    rw [List.getElem?_append_right (by rw [hbl]; omega), hbl] at h3
    have : bq = [] := by rw [List.getElem?_replicate] at h3; split at h3 <;> simp_all
    subst this
    unfold Lib.strCells at h1
    rw [List.getElem?_map] at h1 h2
    cases hc : s.data.toList[q - us0.length]? with
    | none => rw [hc] at h1; cases h1
    | some c =>
      rw [hc] at h1 h2
      simp only [Option.map_some, Option.some.injEq] at h1 h2
      subst h1; subst h2
      exact .v rfl
  · rw [List.flatten_append, List.flatten_replicate_nil, List.append_nil, List.nodup_append]
    refine ⟨by cases v'.ownBlock <;> simp, nd2, fun a ha b hb he => ?_⟩
    subst he
    rcases hb' with h1 | h1
    · rw [h1] at ha; exact nd3 a ha a hb rfl
    rw [h1] at ha
    simp at ha
    subst ha
    have := h.lt _ (List.mem_append_right _ hb)
    omega
  · intro q hq
    rw [List.flatten_append, List.flatten_replicate_nil, List.append_nil] at hq
    rcases List.mem_append.1 hq with h2 | h2
    · rcases hb' with h1 | h1
      · rw [h1] at h2; exact .inl (List.mem_append_left _ h2)
      rw [h1] at h2; simp at h2; right; omega
    exact .inl (List.mem_append_right _ h2)
  exact hk.mono fun k _ hk' he => hk' (List.mem_append_left _ (by rw [← he]; simp))
section
variable {C : Cx} {o : Oper} {ev : Operand → AV} {T : Sl}
theorem op_app_str {t u e : TypeId} {y q : Operand} {r k : Nat} {es : List (List AV)} {s : ByteArray} (ho : o.op = .call { callee := .builtin .append, args := #[y, q], argTypes := #[t, u] }) {len : Nat} (hy : ev y = .sl r k 0 len) (hs : ev q = .v (.string s)) (hT : T.slots[r]? = some (k, .own e es)) (hl : len = es.length)
    (ht : C.P.underlying t = some (.slice e)) (hu : C.P.underlying u = some .string) (hz : zeroIs C.P e (.int .u8 0) 1 1) (hb : es.length + s.size ≤ 140737488355328) {es' : List (List AV)} (he : es ++ strRows s = es') {n : Nat} (hn : es.length + s.size = n) :
    OpJ C o ev T (.sl r T.ep 0 n) ⟨T.slots.set r (T.ep, .own e es'), T.ep + 1⟩ := by
  intro a w S vals bss hm h K hK Q
  have h1 := h y (by simp [ho, Op.operands, Call.operands])
  have h2 := h q (by simp [ho, Op.operands, Call.operands])
  rw [hy] at h1
  rw [hs] at h2
  have e1 : a.eval q = .string s := h2.v
  obtain ⟨v, bs, hv, hbb, hrep⟩ := hm.slot hT
  have hmax : es.length + s.size ≤ maxLen := by
    unfold maxLen
    omega
  obtain ⟨v', w', bs', hrun, hrep', hnd, hsub, hk⟩ := run_app_str (P := C.P) (ty := o.type) ht hu hz hrep (hm.nodup r bs hbb) (hm.apart r bs hbb) hb
  obtain ⟨us0, sz0, bss0, -, hi0, hsz0, hown, -⟩ := hrep.own_inv
  obtain ⟨hol, A0, nn, cap, hve, g3, g4, g5, g6⟩ := h1.2.2 e es v sz0 hT hv hi0
  have hyv : a.eval y = v := by
    rcases g6 with ⟨-, h8⟩ | ⟨A', h8, _⟩
    · rw [h8, hve, hl]
      rcases hown.2 with ⟨hnil, h0'⟩ | ⟨g, cap', cur, hcap, -⟩
      · rw [hve] at hnil; injection hnil with q1 q2 q3; rw [q2, h0']
      rw [hve] at hcap; injection hcap with q1 q2 q3; rw [q2]
    omega
  rw [he] at hrep'
  obtain ⟨hm', hf⟩ := hm.set (k' := T.ep) (ep' := T.ep + 1) hT hv hbb hk hrep' hnd hsub (.inr ⟨rfl, rfl⟩)
  unfold Oper.wp execOp
  simp only [ho, resolve, invoke, builtin, Sem.run_bind, Sem.run_pure, Result.andThen_ok, List.map_toArray, List.map_cons, List.map_nil, hyv, e1, hrun]
  refine hK v' _ _ _ _ hm' hf ⟨by simp, hrep'.one, fun e2 es2 v2 sz2 q1 q2 q3 => ?_⟩
  have hrl : r < T.slots.length := (List.getElem?_eq_some_iff.1 hT).1
  have q1 : (T.slots.set r _)[r]? = _ := q1
  rw [getElem?_set_ _ _ _ _ hrl, if_pos rfl] at q1
  rw [getElem?_set_ _ _ _ _ (by rw [hm.nv]; exact hrl), if_pos rfl] at q2
  injection q1 with q1; injection q1 with _ q1; injection q1 with q1 q4
  injection q2 with q2
  subst q1; subst q2; subst q4
  obtain ⟨us1, sz1, bss1, -, hi1, hsz1, hown1, -⟩ := hrep'.own_inv
  have hel : es'.length = n := by rw [← he, List.length_append, strRows_len, hn]
  refine ⟨by omega, ?_⟩
  rcases hown1.2 with ⟨hnil, h0'⟩ | ⟨g, cap', cur, hcap, -, -, p1, p2, -⟩
  · exact ⟨none, 0, 0, hnil, by omega, Nat.le_refl _, by unfold maxLen; omega, .inl ⟨rfl, by rw [hnil, show n = 0 by omega]⟩⟩
  exact ⟨_, _, _, hcap, by omega, p1, p2, .inl ⟨rfl, by rw [hcap, hel]⟩⟩
end
end Go.Proofs.YtfmnaigedgmhoaaDoor
namespace Go.Proofs.YtfmnaigedgmhoaaDoor
open Go.RowKit
set_option linter.unusedSimpArgs false
set_option linter.unusedVariables false
def vCell (es : List (List AV)) : Prop := ∀ x ∈ es, ∀ c ∈ x, ∃ u, c = .v u
section
variable {C : Cx} {T : Sl} {S S2 : Nat → Prop} {vals : List Value} {bss : List (List Nat)} {w w' : World} {o : Oper} {ev : Operand → AV}
variable {Q : Exit → Sta → Prop} {σ : Sta}
end
end Go.Proofs.YtfmnaigedgmhoaaDoor
namespace Go.Proofs.YtfmnaigedgmhoaaDoor
open Go.RowKit
set_option linter.unusedSimpArgs false
set_option linter.unusedVariables false
end Go.Proofs.YtfmnaigedgmhoaaDoor
namespace Go.Proofs.YtfmnaigedgmhoaaDoor
open Go.RowKit
set_option linter.unusedSimpArgs false
set_option linter.unusedVariables false
end Go.Proofs.YtfmnaigedgmhoaaDoor
namespace Go.Proofs.YtfmnaigedgmhoaaDoor
open Go.RowKit
set_option linter.unusedSimpArgs false
set_option linter.unusedVariables false
set_option maxRecDepth 100000
def sh1 (r : UInt32) : UInt32 := if r % 2 = 1 then (r >>> 1) ^^^ 0xEDB88320 else r >>> 1
def shN : Nat → UInt32 → UInt32
  | 0, r => r
  | k+1, r => sh1 (shN k r)
def stp (r : UInt32) (x : UInt8) : UInt32 := shN 8 (r ^^^ x.toUInt32)
def crc (r : UInt32) (l : List UInt8) : UInt32 := l.foldl stp r
def fourL (n : UInt32) : List UInt8 := [(n >>> 24).toUInt8, (n >>> 16).toUInt8, (n >>> 8).toUInt8, n.toUInt8]
def u32 (i : Int) : UInt32 := UInt32.ofNat (i % 4294967296).toNat
def chk (i : Int) (l : List UInt8) : UInt32 := ~~~ (crc (crc 0xFFFFFFFF (fourL (u32 i))) l)
theorem u32_mod (i : Int) : i % 4294967296 = ((u32 i).toNat : Int) := by
  unfold u32
  have h1 := Int.emod_nonneg i (show (4294967296 : Int) ≠ 0 by omega)
  have h2 := Int.emod_lt_of_pos i (show (0 : Int) < 4294967296 by omega)
  rw [UInt32.toNat_ofNat_of_lt' (by show _ < 4294967296; omega)]
  omega
theorem sh1_bv (a : UInt32) : (sh1 a).toBitVec = (a.toBitVec >>> 1) ^^^ (if a.toBitVec.getLsbD 0 then 0xEDB88320#32 else 0#32) := by
  unfold sh1
  by_cases h : a % 2 = 1
  · rw [if_pos h]
    have : a.toBitVec.getLsbD 0 = true := by
      have := congrArg UInt32.toNat h
      simp at this
      rw [BitVec.getLsbD, Nat.testBit_zero]
      simpa using this
    rw [if_pos this]
    simp [UInt32.toBitVec_shiftRight]
  rw [if_neg h]
  have : a.toBitVec.getLsbD 0 = false := by
    rw [BitVec.getLsbD, Nat.testBit_zero]
    simp
    have h1 : ¬ a.toNat % 2 = 1 := fun e => h (UInt32.toNat_inj.1 (by simpa using e))
    omega
  rw [this, if_neg (by simp)]
  simp [UInt32.toBitVec_shiftRight]
theorem sh1_xor (a b : UInt32) : sh1 (a ^^^ b) = sh1 a ^^^ sh1 b := by
  apply UInt32.toBitVec_inj.1
  rw [UInt32.toBitVec_xor, sh1_bv, sh1_bv, sh1_bv, UInt32.toBitVec_xor, BitVec.getLsbD_xor]
  have e : (a.toBitVec ^^^ b.toBitVec) >>> 1 = a.toBitVec >>> 1 ^^^ b.toBitVec >>> 1 := by
    ext i hi; simp
  rw [e]
  generalize a.toBitVec >>> 1 = p
  generalize b.toBitVec >>> 1 = q
  have hx : ∀ u v c : BitVec 32, (u ^^^ c) ^^^ (v ^^^ c) = u ^^^ v := fun u v c => by
    rw [BitVec.xor_assoc, ← BitVec.xor_assoc c, BitVec.xor_comm c, BitVec.xor_assoc v, BitVec.xor_self, BitVec.xor_zero]
  cases a.toBitVec.getLsbD 0 <;> cases b.toBitVec.getLsbD 0
  · simp
  · simp [BitVec.xor_assoc]
  · simp only [Bool.true_bne, Bool.not_false, if_true, Bool.true_xor, Bool.bne_false, Bool.false_eq_true, if_false, BitVec.xor_zero]
    rw [BitVec.xor_assoc, BitVec.xor_assoc, BitVec.xor_comm q]
  simp [hx]
theorem shN_xor (n : Nat) (a b : UInt32) : shN n (a ^^^ b) = shN n a ^^^ shN n b := by
  induction n with
  | zero => rfl
  | succ n ih => simp only [shN]; rw [ih, sh1_xor]
theorem crc_append (r : UInt32) (l m : List UInt8) : crc r (l ++ m) = crc (crc r l) m := by simp [crc]
theorem sh1_even_nat (m : Nat) (h : 2 * m < 4294967296) : sh1 (UInt32.ofNat (2 * m)) = UInt32.ofNat m := by
  have hn : (UInt32.ofNat (2 * m)).toNat = 2 * m := UInt32.toNat_ofNat_of_lt' h
  unfold sh1
  rw [if_neg]
  · apply UInt32.toNat_inj.1
    rw [UInt32.toNat_shiftRight, hn, UInt32.toNat_ofNat_of_lt' (by show m < 4294967296; omega)]
    simp [Nat.shiftRight_eq_div_pow]
  intro he
  have := UInt32.toNat_inj.2 he
  simp [hn] at this
theorem shN_shift (j : Nat) : ∀ m, m * 2 ^ j < 4294967296 → shN j (UInt32.ofNat (m * 2 ^ j)) = UInt32.ofNat m := by
  induction j with
  | zero => intro m _; simp [shN]
  | succ j ih =>
    intro m h
    have e : m * 2 ^ (j + 1) = (2 * m) * 2 ^ j := by rw [Nat.pow_succ, Nat.mul_comm 2 m, Nat.mul_assoc, Nat.mul_comm 2]
    rw [e] at h ⊢
    have h2 : 2 * m < 4294967296 := Nat.lt_of_le_of_lt (Nat.le_mul_of_pos_right _ (Nat.two_pow_pos j)) h
    show sh1 (shN j _) = _
    rw [ih _ h, sh1_even_nat m h2]
theorem split8 (r : UInt32) : r = r.toUInt8.toUInt32 ^^^ UInt32.ofNat (r.toNat / 256 * 2 ^ 8) := by
  have hr := r.toNat_lt
  apply UInt32.toNat_inj.1
  rw [UInt32.toNat_xor, UInt32.toNat_ofNat_of_lt' (by show _ < 4294967296; omega)]
  have h1 : r.toUInt8.toUInt32.toNat = r.toNat % 256 := by simp
  rw [h1]
  apply Nat.eq_of_testBit_eq
  intro i
  have hm := Nat.testBit_mod_two_pow r.toNat 8 i
  have hd : (r.toNat / 256 * 2 ^ 8).testBit i = (decide (8 ≤ i) && r.toNat.testBit i) := by
    rw [show r.toNat / 256 = r.toNat / 2 ^ 8 from rfl, ← Nat.shiftLeft_eq, Nat.testBit_shiftLeft]
    by_cases h : 8 ≤ i
    · rw [Nat.testBit_div_two_pow]; simp [h]
    simp [h]
  rw [Nat.testBit_xor, hd, show (256 : Nat) = 2 ^ 8 from rfl, hm]
  by_cases h : i < 8
  · have : ¬ 8 ≤ i := by omega
    simp [h, this]
  have : 8 ≤ i := by omega
  simp [h, this]
theorem shr8_nat (r : UInt32) : r >>> 8 = UInt32.ofNat (r.toNat / 256) := by
  have hr := r.toNat_lt
  apply UInt32.toNat_inj.1
  rw [UInt32.toNat_shiftRight, UInt32.toNat_ofNat_of_lt' (by show _ < 4294967296; omega)]
  simp [Nat.shiftRight_eq_div_pow]
theorem stp_tab (r : UInt32) (x : UInt8) : stp r x = shN 8 (UInt32.ofNat (r.toUInt8 ^^^ x).toNat) ^^^ (r >>> 8) := by
  have e : r ^^^ x.toUInt32 = UInt32.ofNat (r.toUInt8 ^^^ x).toNat ^^^ UInt32.ofNat (r.toNat / 256 * 2 ^ 8) := by
    have h1 : UInt32.ofNat (r.toUInt8 ^^^ x).toNat = r.toUInt8.toUInt32 ^^^ x.toUInt32 := by
      apply UInt32.toNat_inj.1
      have := (r.toUInt8 ^^^ x).toNat_lt
      rw [UInt32.toNat_ofNat_of_lt' (by show _ < 4294967296; omega)]
      simp
    rw [h1, UInt32.xor_assoc, UInt32.xor_comm x.toUInt32, ← UInt32.xor_assoc, ← split8]
  rw [stp, e, shN_xor, shN_shift 8 _ (by have := r.toNat_lt; omega), shr8_nat]
def tailL (b : List UInt8) (n : Nat) : List UInt8 := (b.drop (4 + n)).take 4
def recL (b : List UInt8) (n : Nat) : List UInt8 := (b.drop 4).take n
def lenL (b : List UInt8) : Nat := (b.getD 0 0).toNat * 256 + (b.getD 1 0).toNat
def firstL (i : Int) (b : List UInt8) : Option (List UInt8) :=
  if b.length < 8 then none
  else if b.getD 0 0 ≠ ~~~ b.getD 2 0 then none
  else if b.getD 1 0 ≠ ~~~ b.getD 3 0 then none
  else if 4096 < lenL b then none
  else if b.length < lenL b + 8 then none
  else if tailL b (lenL b) = fourL (chk i (recL b (lenL b))) then some (recL b (lenL b)) else none
def frameL (i : Int) (l : List UInt8) : List UInt8 :=
  [UInt8.ofNat (l.length / 256), UInt8.ofNat l.length, ~~~ UInt8.ofNat (l.length / 256), ~~~ UInt8.ofNat l.length] ++ l ++ fourL (chk i l)
theorem frameL_len (i : Int) (l : List UInt8) : (frameL i l).length = l.length + 8 := by simp [frameL, fourL]
def hdrL (n : Nat) : List UInt8 := [UInt8.ofNat (n / 256), UInt8.ofNat n, ~~~ UInt8.ofNat (n / 256), ~~~ UInt8.ofNat n]
def recsF : Nat → List (List UInt8) → Nat → List UInt8 → List (List UInt8) × Nat
  | 0, done, p, _ => (done, p)
  | f + 1, done, p, b =>
    match firstL done.length (b.drop p) with
    | none => (done, p)
    | some r => if 4194304 < p + (r.length + 8) then (done, p) else recsF f (done ++ [r]) (p + (r.length + 8)) b
def recs (b : List UInt8) : List (List UInt8) × Nat := recsF (b.length + 1) [] 0 b
theorem firstL_len {i : Int} {b r : List UInt8} (h : firstL i b = some r) : r.length + 8 ≤ b.length ∧ r.length ≤ 4096 := by
  unfold firstL at h
  split at h; · cases h
  split at h; · cases h
  split at h; · cases h
  split at h; · cases h
  split at h; · cases h
  split at h
  · injection h with h
    subst h
    rw [recL, List.length_take, List.length_drop]
    omega
  cases h
def posL (l : List (List UInt8)) (j : Nat) : Nat := ((l.take j).map (fun r => r.length + 8)).sum
theorem posL_zero (l : List (List UInt8)) : posL l 0 = 0 := by simp [posL]
theorem posL_succ (l : List (List UInt8)) (j : Nat) (h : j < l.length) : posL l (j + 1) = posL l j + l[j].length + 8 := by
  unfold posL
  rw [List.take_succ_eq_append_getElem h, List.map_append, List.sum_append, List.map_singleton, List.sum_singleton]; omega
theorem posL_mono (l : List (List UInt8)) {i j : Nat} (h : i ≤ j) : posL l i ≤ posL l j := by
  induction j with
  | zero => have : i = 0 := by omega
            subst this; exact Nat.le_refl _
  | succ j ih =>
    by_cases he : i = j + 1
    · subst he; exact Nat.le_refl _
    refine Nat.le_trans (ih (by omega)) ?_
    by_cases hj : j < l.length
    · rw [posL_succ l j hj]; omega
    have h1 : l.take (j + 1) = l := List.take_of_length_le (by omega)
    have h2 : l.take j = l := List.take_of_length_le (by omega)
    simp [posL, h1, h2]
def appR (b r : List UInt8) : List UInt8 × Int :=
  if (recs b).2 ≠ b.length then ([], 13)
  else if 4096 < r.length ∨ 4194304 < b.length + r.length + 8 then ([], 2)
  else (b ++ frameL (recs b).1.length r, 0)
theorem firstL_cons (i : Int) (h0 h1 h2 h3 : UInt8) (t : List UInt8) (n : Nat) (hn : h0.toNat * 256 + h1.toNat = n) : firstL i (h0 :: h1 :: h2 :: h3 :: t) =
    if t.length < 4 then none else if h0 ≠ ~~~ h2 then none else if h1 ≠ ~~~ h3 then none
    else if 4096 < n then none else if t.length < n + 4 then none
    else if (t.drop n).take 4 = fourL (chk i (t.take n)) then some (t.take n) else none := by
  have e1 : ((h0 :: h1 :: h2 :: h3 :: t).length < 8) = (t.length < 4) := by simp; omega
  have e2 : lenL (h0 :: h1 :: h2 :: h3 :: t) = n := hn
  have e3 : ((h0 :: h1 :: h2 :: h3 :: t).length < n + 8) = (t.length < n + 4) := by simp
  have e4 : tailL (h0 :: h1 :: h2 :: h3 :: t) n = (t.drop n).take 4 := by rw [tailL, Nat.add_comm 4 n]; rfl
  have e5 : recL (h0 :: h1 :: h2 :: h3 :: t) n = t.take n := rfl
  clear hn
  unfold firstL
  rw [e2]
  simp only [e1, e3, e4, e5]
  rfl
theorem frameL_eq (i : Int) (r : List UInt8) (t : List UInt8) : frameL i r ++ t = UInt8.ofNat (r.length / 256) :: UInt8.ofNat r.length :: ~~~ UInt8.ofNat (r.length / 256) :: ~~~ UInt8.ofNat r.length :: (r ++ (fourL (chk i r) ++ t)) := by
  simp [frameL]
theorem len_hdr (n : Nat) (h : n ≤ 4096) : (UInt8.ofNat (n / 256)).toNat * 256 + (UInt8.ofNat n).toNat = n := by
  simp; omega
theorem fourL_len (c : UInt32) : (fourL c).length = 4 := rfl
theorem firstL_head (i : Int) (r t : List UInt8) (n : Nat) (hn : n ≤ 4096) : firstL i (UInt8.ofNat (n / 256) :: UInt8.ofNat n :: ~~~ UInt8.ofNat (n / 256) :: ~~~ UInt8.ofNat n :: t) =
    if t.length < n + 4 then none else if (t.drop n).take 4 = fourL (chk i (t.take n)) then some (t.take n) else none := by
  rw [firstL_cons _ _ _ _ _ _ n (len_hdr n hn)]
  by_cases h1 : t.length < 4
  · rw [if_pos h1, if_pos (by omega)]
  rw [if_neg h1, if_neg (by simp), if_neg (by simp), if_neg (by omega)]
theorem firstL_frame (i : Int) (r t : List UInt8) (hr : r.length ≤ 4096) : firstL i (frameL i r ++ t) = some r := by
  rw [frameL_eq, firstL_head i r _ _ hr, if_neg (by simp [fourL_len]), List.take_left', List.drop_left', List.take_left' (fourL_len _), if_pos rfl] <;> rfl
theorem firstL_nil (i : Int) : firstL i [] = none := by rw [firstL, if_pos (by simp)]
theorem firstL_cut (i : Int) (r : List UInt8) (k : Nat) (hr : r.length ≤ 4096) (hk : k < r.length + 8) : firstL i ((frameL i r).take k) = none := by
  have hl : ((frameL i r).take k).length = k := by rw [List.length_take, frameL_len]; omega
  by_cases h : k < 4
  · rw [firstL, if_pos (by omega)]
  have e := frameL_eq i r []
  rw [List.append_nil, List.append_nil] at e
  obtain ⟨m, rfl⟩ : ∃ m, k = m + 4 := ⟨k - 4, by omega⟩
  rw [e]
  show firstL i (_ :: _ :: _ :: _ :: (r ++ fourL (chk i r)).take m) = none
  rw [firstL_head i r _ _ hr, if_pos]
  rw [List.length_take, List.length_append, fourL_len]
  omega
def joinF : Nat → List (List UInt8) → List UInt8
  | _, [] => []
  | i, r :: l => frameL i r ++ joinF (i + 1) l
theorem joinF_len (l : List (List UInt8)) : ∀ i, (joinF i l).length = posL l l.length := by
  induction l with
  | nil => intro i; rfl
  | cons r l ih =>
    intro i
    rw [joinF, List.length_append, frameL_len, ih]
    simp [posL]
theorem joinF_append (l m : List (List UInt8)) : ∀ i, joinF i (l ++ m) = joinF i l ++ joinF (i + l.length) m := by
  induction l with
  | nil => intro i; simp [joinF]
  | cons r l ih =>
    intro i
    rw [List.cons_append, joinF, joinF, ih, List.append_assoc]
    simp [Nat.add_assoc, Nat.add_comm 1]
theorem recsF_join (l : List (List UInt8)) : ∀ (f : Nat) (done : List (List UInt8)) (p : Nat) (b t : List UInt8), l.length < f → b.drop p = joinF done.length l ++ t → (∀ r ∈ l, r.length ≤ 4096) →
    p + (joinF done.length l).length ≤ 4194304 → firstL (done.length + l.length : Nat) t = none → recsF f done p b = (done ++ l, p + (joinF done.length l).length) := by
  induction l with
  | nil =>
    intro f done p b t hf hb _ _ ht
    cases f with
    | zero => simp at hf
    | succ f =>
      rw [recsF, hb]
      simp only [joinF, List.nil_append, List.append_nil, List.length_nil, Nat.add_zero] at ht ⊢
      rw [ht]
  | cons r l ih =>
    intro f done p b t hf hb hr hp ht
    cases f with
    | zero => simp at hf
    | succ f =>
      have hj : joinF done.length (r :: l) = frameL done.length r ++ joinF (done.length + 1) l := rfl
      have hrl := hr r (by simp)
      have hfl := firstL_frame done.length r (joinF (done.length + 1) l ++ t) hrl
      rw [hj, List.append_assoc] at hb
      rw [hj, List.length_append, frameL_len] at hp
      rw [recsF, hb, hfl]
      have hle : ¬ 4194304 < p + (r.length + 8) := by omega
      simp only [hle, if_false]
      have hd : b.drop (p + (r.length + 8)) = joinF (done ++ [r]).length l ++ t := by
        rw [← List.drop_drop, hb, List.drop_left' (frameL_len _ _)]
        simp
      rw [ih f (done ++ [r]) (p + (r.length + 8)) b t (by simp at hf; omega) hd (fun q hq => hr q (by simp [hq])) (by simp; omega) (by
        rw [List.length_append]; simp only [List.length_cons, List.length_nil] at ht ⊢
        rw [← ht]; congr 1; omega)]
      have e1 : (frameL done.length r ++ joinF (done.length + 1) l).length = r.length + 8 + (joinF (done.length + 1) l).length := by rw [List.length_append, frameL_len]
      have e2 : (done ++ [r]).length = done.length + 1 := by simp
      rw [hj, e1, e2, List.append_assoc, List.singleton_append, Nat.add_assoc]
theorem many_len (l : List (List UInt8)) (i : Nat) : l.length * 8 ≤ (joinF i l).length := by
  induction l generalizing i with
  | nil => simp
  | cons r l ih =>
    rw [joinF, List.length_append, frameL_len]
    have := ih (i + 1)
    simp; omega
theorem recs_join (l : List (List UInt8)) (t : List UInt8) (hr : ∀ r ∈ l, r.length ≤ 4096) (hp : (joinF 0 l).length ≤ 4194304) (ht : firstL (l.length : Nat) t = none) :
    recs (joinF 0 l ++ t) = (l, (joinF 0 l).length) := by
  have := many_len l 0
  have h := recsF_join l ((joinF 0 l ++ t).length + 1) [] 0 (joinF 0 l ++ t) t (by rw [List.length_append]; omega) rfl hr (by simpa using hp) (by simpa using ht)
  rw [recs, h]
  simp
theorem posL_le (l : List (List UInt8)) (m : Nat) (h : ∀ r ∈ l, r.length ≤ m) : posL l l.length ≤ l.length * (m + 8) := by
  unfold posL
  rw [List.take_length]
  induction l with
  | nil => simp
  | cons r l ih =>
    have h1 := h r (by simp)
    have h2 := ih (fun q hq => h q (by simp [hq]))
    rw [List.map_cons, List.sum_cons, List.length_cons, Nat.succ_mul]
    omega
theorem posL_take (l : List (List UInt8)) (i : Nat) (h : i ≤ l.length) : posL (l.take i) (l.take i).length = posL l i := by
  unfold posL
  rw [List.take_length]
theorem joinF_take_split (l : List (List UInt8)) (i : Nat) (h : i ≤ l.length) : joinF 0 l = joinF 0 (l.take i) ++ joinF i (l.drop i) := by
  conv => lhs; rw [← List.take_append_drop i l]
  rw [joinF_append]
  have : (l.take i).length = i := by rw [List.length_take]; omega
  rw [this, Nat.zero_add]
theorem joinF_take_len (l : List (List UInt8)) (i : Nat) (h : i ≤ l.length) : (joinF 0 (l.take i)).length = posL l i := by
  rw [joinF_len, posL_take l i h]
theorem recs_torn (l : List (List UInt8)) (i n : Nat) (hr : ∀ r ∈ l, r.length ≤ 4096) (hp : posL l l.length ≤ 4194304) (hi : i ≤ l.length) (h1 : posL l i ≤ n) (h2 : i < l.length → n < posL l (i + 1)) :
    recs ((joinF 0 l).take n) = (l.take i, posL l i) := by
  have hlen := joinF_take_len l i hi
  have hti : (l.take i).length = i := by rw [List.length_take]; omega
  have hm := posL_mono l hi
  have e : (joinF 0 l).take n = joinF 0 (l.take i) ++ (joinF i (l.drop i)).take (n - posL l i) := by
    rw [joinF_take_split l i hi, List.take_append, List.take_of_length_le (by omega), hlen]
  have hf : firstL ((l.take i).length : Nat) ((joinF i (l.drop i)).take (n - posL l i)) = none := by
    rw [hti]
    by_cases h : i = l.length
    · rw [h, List.drop_length]
      show firstL _ (List.take _ []) = none
      rw [List.take_nil]
      exact firstL_nil _
    have hlt : i < l.length := by omega
    have h3 := h2 hlt
    have h4 := posL_succ l i hlt
    rw [List.drop_eq_getElem_cons hlt]
    show firstL _ ((frameL i l[i] ++ _).take _) = none
    rw [List.take_append_of_le_length (by rw [frameL_len]; omega)]
    exact firstL_cut _ _ _ (hr _ (List.getElem_mem hlt)) (by omega)
  have hrec := recs_join (l.take i) _ (fun r h => hr r (List.mem_of_mem_take h)) (by omega) hf
  rw [hlen] at hrec
  rw [e, hrec]
end Go.Proofs.YtfmnaigedgmhoaaDoor
namespace Go.Proofs.YtfmnaigedgmhoaaDoor
open Go.RowKit
set_option linter.unusedSimpArgs false
set_option linter.unusedVariables false
section
variable {C : Cx} {o : Oper} {ev : Operand → AV} {T : Sl} {t yt : TypeId} {p q : Operand} {k k' : IntKind} {x y z : Int}
theorem op_bxor (ho : o.op = .binOp .xor t p q yt) (hp : ev p = .v (.int k x)) (hq : ev q = .v (.int k y)) (hz : bits .xor k x y = z) : OpP C o ev T (.v (.int k z)) :=
  op_bin ho hp hq (eqGuard_int _ _ _ _ _ _ _) (fun w => by simp only [binOp, Op.intBits, ← hz, ne_eq, not_true_eq_false, if_false]; rfl) rfl
theorem op_xor32 {a b : UInt32} (ho : o.op = .binOp .xor t p q yt) (hp : ev p = .v (.int .u32 (a.toNat : Int))) (hq : ev q = .v (.int .u32 (b.toNat : Int))) : OpP C o ev T (.v (.int .u32 ((a ^^^ b).toNat : Int))) :=
  op_bxor ho hp hq (by rw [u32_xor_nat _ _ a.toNat_lt b.toNat_lt]; simp)
theorem op_xor8 {a b : UInt8} (ho : o.op = .binOp .xor t p q yt) (hp : ev p = .v (.int .u8 (a.toNat : Int))) (hq : ev q = .v (.int .u8 (b.toNat : Int))) : OpP C o ev T (.v (.int .u8 ((a ^^^ b).toNat : Int))) :=
  op_bxor ho hp hq (by rw [u8_xor_nat _ _ a.toNat_lt b.toNat_lt]; simp)
theorem op_uxor (ho : o.op = .unOp .xor t p) (hp : ev p = .v (.int k x)) (hs : k.signed = false) (hz : bits .xor k k.max x = z) : OpP C o ev T (.v (.int k z)) :=
  op_un ho hp (fun w => by simp only [Op.unary, hs, Op.intBits, ← hz, if_false, Bool.false_eq_true]; rfl) rfl
theorem op_not32 {a : UInt32} (ho : o.op = .unOp .xor t p) (hp : ev p = .v (.int .u32 (a.toNat : Int))) : OpP C o ev T (.v (.int .u32 ((~~~ a).toNat : Int))) :=
  op_uxor ho hp rfl (by
    have h := u32_xor_nat 4294967295 a.toNat (by omega) a.toNat_lt
    have e : (4294967295 : Nat) ^^^ a.toNat = (~~~ a).toNat := by
      have h2 : (~~~ a) = 4294967295 ^^^ a := by
        rw [← UInt32.neg_one_xor]; rfl
      rw [h2, UInt32.toNat_xor]; rfl
    rw [e] at h
    exact h)
theorem op_not8 {a : UInt8} (ho : o.op = .unOp .xor t p) (hp : ev p = .v (.int .u8 (a.toNat : Int))) : OpP C o ev T (.v (.int .u8 ((~~~ a).toNat : Int))) :=
  op_uxor ho hp rfl (by
    have h := u8_xor_nat 255 a.toNat (by omega) a.toNat_lt
    have e : (255 : Nat) ^^^ a.toNat = (~~~ a).toNat := by
      have h2 : (~~~ a) = 255 ^^^ a := by
        rw [← UInt8.neg_one_xor]; rfl
      rw [h2, UInt8.toNat_xor]; rfl
    rw [e] at h
    exact h)
theorem op_shrN {n : Nat} {a : Nat} (ho : o.op = .binOp .shr t p q yt) (hp : ev p = .v (.int k (a : Int))) (hq : ev q = .v (.int k' (n : Int))) (hn : n ≤ k.bits) : OpP C o ev T (.v (.int k ((a / 2 ^ n : Nat) : Int))) :=
  op_shr ho hp hq (by omega) (by
    rw [Int.toNat_natCast, Nat.min_eq_left hn, Int.fdiv_eq_ediv_of_nonneg _ (by exact_mod_cast Nat.zero_le _)]
    exact_mod_cast rfl)
theorem op_shr32 {a b : UInt32} {n : Int} (m : Nat) (ho : o.op = .binOp .shr t p q yt) (hp : ev p = .v (.int .u32 (a.toNat : Int))) (hq : ev q = .v (.int k' n)) (hn : n = (m : Int)) (hm : m ≤ 32) (hb : b.toNat = a.toNat / 2 ^ m) : OpP C o ev T (.v (.int .u32 (b.toNat : Int))) := by
  rw [hb]; subst hn; exact op_shrN ho hp hq hm
theorem op_and1 {a : UInt32} (ho : o.op = .binOp .and t p q yt) (hp : ev p = .v (.int .u32 (a.toNat : Int))) (hq : ev q = .v (.int .u32 1)) : OpP C o ev T (.v (.int .u32 ((a.toNat % 2 : Nat) : Int))) :=
  op_and ho hp hq (by
    have := u32_and_nat a.toNat 1 a.toNat_lt (by omega)
    rw [show ((1 : Nat) : Int) = 1 from rfl] at this
    rw [nat_mask1] at this
    exact this)
theorem op_c328 {s d : TypeId} {a : UInt32} {sd : TypeDesc} (ho : o.op = .convert s d p) (hp : ev p = .v (.int .u32 (a.toNat : Int))) (hs : C.P.underlying s = some sd) (hd : C.P.underlying d = some (.int .u8)) : OpP C o ev T (.v (.int .u8 (a.toUInt8.toNat : Int))) :=
  op_conv ho hp hs hd (by
    show IntKind.wrap .u8 _ = _
    unfold IntKind.wrap
    simp [IntKind.bits, IntKind.signed])
/-- The address of an element (of one cell) of an array that is only read. -/
theorem op_ia_rarr {e : TypeId} {y : Operand} {kk : IntKind} {n : Int} {len : Nat} {cs : List AV} {v : AV} (m : Nat) (ho : o.op = .indexAddr t y q) (hy : ev y = .rop cs) (hi : ev q = .v (.int kk n)) (ht : C.P.underlying t = some (.array len e)) (hn : n = (m : Int)) (hm : m < len) (hs : sizeIs C.P e 1) (hx : cs[m]? = some v) : OpP C o ev T (.rop [v]) := by
  intro a w S vals bss hme h
  have h1 := h y (by simp [ho, Op.operands])
  have h2 := h q (by simp [ho, Op.operands])
  rw [hi] at h2
  rw [hy] at h1
  obtain ⟨-, A, us, e', hr, hl, hc⟩ := (show Rep C.P S w [] _ (.rop cs) from h1).rop_inv
  have hml := (List.getElem?_eq_some_iff.1 hx).1
  obtain ⟨g, o', hA, hS, hcell⟩ := hr (by omega)
  injection hA with hA; subst hA
  have hee := elem_eqA ht
  subst hn
  have hlt : (m : Int) < (len : Int) := by omega
  have hu : us[m]? = some (us[m]'(by omega)) := List.getElem?_eq_getElem _
  refine ⟨.pointer (some ⟨g, o' + m, none⟩), fun w => ?_, ?_⟩
  · simp [execOp, ho, e', h2.v, run_indexAt_array w t _ _ _ (by rw [hee.1, hee.2]; exact ht), hlt, hee.1, hee.2, run_sizeOf hs, add_off]
  refine Rep.rop (us := [us[m]'(by omega)]) (fun _ => ⟨g, o' + m, rfl, hS, fun j u hj => ?_⟩) rfl fun i u x' hj hx' => ?_
  · cases j with
    | zero => simp at hj; subst hj; exact hcell m _ hu
    | succ j => simp at hj
  cases i with
  | zero => simp at hj hx'; subst hj; subst hx'; exact hc m _ _ hu hx
  | succ i => simp at hj
end
end Go.Proofs.YtfmnaigedgmhoaaDoor
namespace Go.Proofs.YtfmnaigedgmhoaaDoor
open Go.RowKit
set_option linter.unusedSimpArgs false
set_option linter.unusedVariables false
set_option maxRecDepth 100000
abbrev bv (b : UInt8) : List AV := [.v (.int .u8 (b.toNat : Nat))]
theorem bv_len (l : BL) : ∀ x ∈ l.map bv, x.length = 1 := fun x hx => by obtain ⟨g, _, rfl⟩ := List.mem_map.1 hx; rfl
theorem bv_flat (l : BL) : ∀ r ∈ l.map bv, ∀ c ∈ r, flatA c = true := fun r hr c hc => by
  obtain ⟨p, _, rfl⟩ := List.mem_map.1 hr
  obtain rfl : c = _ := by simpa using hc
  rfl
abbrev Report.av (r : Report) : List AV := [.v (.int .i64 r.device), .v (.bool r.seen), .v (.string r.read)]
abbrev Rev.av (r : Rev) : List AV := [.v (.int .i64 r.kind), .v (.int .i64 r.amount), .v (.string r.fl.carrier), .v (.int .i64 r.fl.number), .v (.string r.fl.suffix), .v (.int .i64 r.fl.day)]
abbrev evC (x : Ev) (rs os : AV) : List AV := [.v (.int .i64 x.kind), .v (.int .i64 x.time), .v (.string x.text), .v (.int .i64 x.plate.lead), .v (.int .i64 x.plate.airline), .v (.int .i64 x.plate.serial), .v (.int .i64 x.node), .v (.int .i64 x.image), .v (.bool x.clear), rs,
  .v (.int .i64 x.rev.kind), .v (.int .i64 x.rev.amount), .v (.string x.rev.fl.carrier), .v (.int .i64 x.rev.fl.number), .v (.string x.rev.fl.suffix), .v (.int .i64 x.rev.fl.day), .v (.int .i64 x.device),
  .v (.int .i64 x.op.time), .v (.int .i64 x.op.device), .v (.int .i64 x.op.seq), .v (.int .i64 x.op.kind), .v (.int .i64 x.op.cont), .v (.int .i64 x.op.piece.plate.lead), .v (.int .i64 x.op.piece.plate.airline), .v (.int .i64 x.op.piece.plate.serial), .v (.int .i64 x.op.piece.weight), .v (.int .i64 x.op.piece.category),
  os, .v (.string x.fl.carrier), .v (.int .i64 x.fl.number), .v (.string x.fl.suffix), .v (.int .i64 x.fl.day)]
abbrev Ev.av (x : Ev) : List AV := evC x (.ro (x.reports.map Report.av)) (.ro (x.ops.map Op.av))
abbrev rdC (x : Ev) (rs os : AV) (s : RS) : List AV := .ro (s.b.map bv) :: (evC x rs os ++ [.v (.bool s.bad)])
def takE (n : Int) (s : RS) : (BL × Bool) × RS := if s.bad = true ∨ n > (s.b.length : Nat) then (([], false), ⟨s.b, true⟩) else ((s.b.take n.toNat, true), ⟨s.b.drop n.toNat, false⟩)
theorem takE_no {n : Int} {s : RS} (h : s.bad = true ∨ n > (s.b.length : Nat)) : takE n s = (([], false), ⟨s.b, true⟩) := if_pos h
theorem takE_yes {n : Int} {s : RS} (h : ¬ (s.bad = true ∨ n > (s.b.length : Nat))) : takE n s = ((s.b.take n.toNat, true), ⟨s.b.drop n.toNat, false⟩) := if_neg h
set_option maxHeartbeats 8000000 in
theorem C111 {x : Ev} {rs os : AV} {s : RS} {n : Int} (h0 : 0 ≤ n) (hl : s.b.length ≤ 1000000) : Fn Tryd.prog 111 [.own 94 [rdC x rs os s]] [.ptr 0 0 0 0, .v (.int .i64 n)] [.ro ((takE n s).1.1.map bv), .v (.bool (takE n s).1.2)] [.own 94 [rdC x rs os (takE n s).2]] := by
  obtain ⟨b, bad⟩ := s
  dsimp only at hl
  refine Spec.body Tryd.func111 rfl Tryd.ntmps111 (by simp) rfl ?_; intro S0 own0 v0 w0 gl
  (refine AW.seq_k ?_; intro K hK)
  refine AW.region ?_
  refine awP (op_assign rfl rfl) ?_; (try simp only [nA, Nat.reduceBEq, Nat.reduceEqDiff, ↓reduceIte, Nat.reduceAdd, Nat.reduceSub])
  refine awP (op_assign rfl rfl) ?_; (try simp only [nA, Nat.reduceBEq, Nat.reduceEqDiff, ↓reduceIte, Nat.reduceAdd, Nat.reduceSub])
  refine AWL.nil ?_
  (refine hK _ ?_; clear hK K; (try simp only [nA, Nat.reduceBEq, Nat.reduceEqDiff, ↓reduceIte, Nat.reduceAdd, Nat.reduceSub]))
  (refine AW.seq_k ?_; intro K hK)
  (refine AW.seq_k ?_; intro K hK)
  refine AW.region (AWL.quiet ?_)
  refine aqP (op_move rfl rfl) ?_; (simp only [nA, ↓reduceIte])
  (refine aqP (op_nil_slot rfl rfl rfl) ?_); (try simp only [nA, Nat.reduceBEq, Nat.reduceEqDiff, ↓reduceIte, Nat.reduceAdd, Nat.reduceSub])
  (refine aqP (op_fa_ptr rfl rfl rfl fl94_2 (by exact sz4) (by decide) rfl) ?_); (try simp only [nA, Nat.reduceBEq, Nat.reduceEqDiff, ↓reduceIte, Nat.reduceAdd, Nat.reduceSub])
  (refine aqR (op_load_ptr1 rfl rfl rfl rfl ag4 rfl rfl) ?_); (try simp only [nA, Nat.reduceBEq, Nat.reduceEqDiff, ↓reduceIte, Nat.reduceAdd, Nat.reduceSub])
  refine aqP (op_move rfl rfl) ?_; (simp only [nA])
  refine' aqOr' [_, _, _, _, _, _, _] [12,13,14,15,16,17,18] rfl rfl rfl rfl rfl rfl rfl rfl rfl rfl rfl rfl (fun hb => ?_) ?_; rotate_left
  ·
   (try simp only [hcS] at hb)
   refine aqP (op_move rfl rfl) ?_; (simp only [nA, ↓reduceIte])
   refine aqP (op_move rfl rfl) ?_; (simp only [nA, ↓reduceIte])
   (refine aqP (op_nil_slot rfl rfl rfl) ?_); (try simp only [nA, Nat.reduceBEq, Nat.reduceEqDiff, ↓reduceIte, Nat.reduceAdd, Nat.reduceSub])
   (refine aqP (op_fa_ptr rfl rfl rfl fl94_0 (by exact sz43) (by decide) rfl) ?_); (try simp only [nA, Nat.reduceBEq, Nat.reduceEqDiff, ↓reduceIte, Nat.reduceAdd, Nat.reduceSub])
   (refine aqR (op_load_ptr1 rfl rfl rfl rfl ag43 rfl rfl) ?_); (try simp only [nA, Nat.reduceBEq, Nat.reduceEqDiff, ↓reduceIte, Nat.reduceAdd, Nat.reduceSub])
   refine aqQ (OpP.q (op_len_ro (n := b.length) rfl rfl Tryd.underlying43 (.inr (.inl ⟨_, rfl, by simp⟩)))) ?_; (try simp only [nA, Nat.reduceBEq, Nat.reduceEqDiff, ↓reduceIte, Nat.reduceAdd, Nat.reduceSub])
   refine aqP (op_gtr rfl rfl rfl) ?_; (try simp only [nA, Nat.reduceBEq, Nat.reduceEqDiff, ↓reduceIte, Nat.reduceAdd, Nat.reduceSub])
   (refine aqSeg rfl rfl rfl ?_; repeat (first | exact fun _ _ => rfl | refine upd_out rfl ?_))
  refine AQ.nil ?_
  (refine hK _ ?_; clear hK K; (skip))
  refine AW.cond rfl rfl rfl (fun hc => ?_) (fun hc => ?_)
  ·
   (try simp only [hcS] at hc); have hc1 := hc; have hT : bad = true ∨ n > (b.length : Nat) := (by simpa using hc1)
   (refine AW.seq_k ?_; intro K hK)
   refine AW.region ?_
   refine awP (op_move rfl rfl) ?_; (simp only [nA, Nat.reduceEqDiff, ↓reduceIte])
   (refine awP (op_nil_slot rfl rfl rfl) ?_); (try simp only [nA, Nat.reduceBEq, Nat.reduceEqDiff, ↓reduceIte, Nat.reduceAdd, Nat.reduceSub])
   (refine awP (op_fa_ptr rfl rfl rfl fl94_2 (by exact sz4) (by decide) rfl) ?_); (try simp only [nA, Nat.reduceBEq, Nat.reduceEqDiff, ↓reduceIte, Nat.reduceAdd, Nat.reduceSub])
   refine awJ (op_store rfl rfl rfl rfl rfl rfl sz4 rfl (bl rfl) rfl) ?_; (try simp only [nA, Nat.reduceBEq, Nat.reduceEqDiff, ↓reduceIte, Nat.reduceAdd, Nat.reduceSub])
   refine AWL.nil ?_
   (refine hK _ ?_; clear hK K; (skip))
   (refine AW.seq_k ?_; intro K hK)
   refine AW.region ?_
   refine awP (op_assign rfl rfl) ?_; (try simp only [nA, Nat.reduceBEq, Nat.reduceEqDiff, ↓reduceIte, Nat.reduceAdd, Nat.reduceSub])
   refine awP (op_assign rfl rfl) ?_; (try simp only [nA, Nat.reduceBEq, Nat.reduceEqDiff, ↓reduceIte, Nat.reduceAdd, Nat.reduceSub])
   refine AWL.nil ?_
   (refine hK _ ?_; clear hK K; (skip))
   refine AW.gh (Gh.nil (e := 5) 4 (bl rfl) rfl sz5) ?_; (simp only [nA, Nat.reduceBEq, Nat.reduceEqDiff, ↓reduceIte]); refine AW.gh (Gh.freeze 4 (bl rfl) rfl rfl (by simp) (es' := ([] : BL).map bv) rfl) ?_; (try simp only [nA, Nat.reduceBEq, Nat.reduceEqDiff, ↓reduceIte, Nat.reduceAdd, Nat.reduceSub])
   refine AW.ret ?_; (try simp only [thenE, inBlk, Nat.reduceEqDiff, ↓reduceIte]); rw [takE_no (s := ⟨b, bad⟩) hT]; exact RQ.of (.inl rfl) rfl (.tmp (bl rfl) rfl rfl (.tmp (bl rfl) rfl rfl .nil)) (by simp) rfl (one_out rfl)
  (try simp only [hcS] at hc); have hc1 := hc; have hF : ¬ (bad = true ∨ n > (b.length : Nat)) := (by simpa using hc1); obtain rfl : bad = false := (by simpa using fun h => hF (.inl h)); have hnl : n.toNat ≤ b.length := (by have := fun h => hF (.inr h); omega)
  refine AW.skip ?_
  (refine hK _ ?_; clear hK K; (try simp only [nA, Nat.reduceBEq, Nat.reduceEqDiff, ↓reduceIte, Nat.reduceAdd, Nat.reduceSub]))
  (refine AW.seq_k ?_; intro K hK)
  refine AW.region ?_
  refine awP (op_move rfl rfl) ?_; (simp only [nA, Nat.reduceEqDiff, ↓reduceIte])
  (refine awP (op_nil_slot rfl rfl rfl) ?_); (try simp only [nA, Nat.reduceBEq, Nat.reduceEqDiff, ↓reduceIte, Nat.reduceAdd, Nat.reduceSub])
  (refine awP (op_fa_ptr rfl rfl rfl fl94_0 (by exact sz43) (by decide) rfl) ?_); (try simp only [nA, Nat.reduceBEq, Nat.reduceEqDiff, ↓reduceIte, Nat.reduceAdd, Nat.reduceSub])
  (refine awR (op_load_ptr1 rfl rfl rfl rfl ag43 rfl rfl) ?_); (try simp only [nA, Nat.reduceBEq, Nat.reduceEqDiff, ↓reduceIte, Nat.reduceAdd, Nat.reduceSub])
  refine awP (op_move rfl rfl) ?_; (simp only [nA, Nat.reduceEqDiff, ↓reduceIte])
  refine awP (op_slice_ro 0 n.toNat rfl (.inl rfl) (by exact rfl) (by exact ⟨_, by rw [Int.toNat_of_nonneg h0]; rfl⟩) (Nat.zero_le _) (by simpa using hnl) Tryd.underlying43 sz5 (bv_len b) (es' := (b.take n.toNat).map bv) (by simp [List.map_take])) ?_; (try simp only [nA, Nat.reduceBEq, Nat.reduceEqDiff, ↓reduceIte, Nat.reduceAdd, Nat.reduceSub])
  refine awP (op_assign rfl rfl) ?_; (simp only [nA])
  refine AWL.nil ?_
  (refine hK _ ?_; clear hK K; (skip))
  (refine AW.seq_k ?_; intro K hK)
  refine AW.region ?_
  refine awP (op_move rfl rfl) ?_; (simp only [nA, Nat.reduceEqDiff, ↓reduceIte])
  refine awP (op_move rfl rfl) ?_; (simp only [nA, Nat.reduceEqDiff, ↓reduceIte])
  (refine awP (op_nil_slot rfl rfl rfl) ?_); (try simp only [nA, Nat.reduceBEq, Nat.reduceEqDiff, ↓reduceIte, Nat.reduceAdd, Nat.reduceSub])
  (refine awP (op_fa_ptr rfl rfl rfl fl94_0 (by exact sz43) (by decide) rfl) ?_); (try simp only [nA, Nat.reduceBEq, Nat.reduceEqDiff, ↓reduceIte, Nat.reduceAdd, Nat.reduceSub])
  (refine awR (op_load_ptr1 rfl rfl rfl rfl ag43 rfl rfl) ?_); (try simp only [nA, Nat.reduceBEq, Nat.reduceEqDiff, ↓reduceIte, Nat.reduceAdd, Nat.reduceSub])
  refine awP (op_move rfl rfl) ?_; (simp only [nA, Nat.reduceEqDiff, ↓reduceIte])
  refine awP (op_slice_ro n.toNat b.length rfl (.inl rfl) (by exact ⟨_, by rw [Int.toNat_of_nonneg h0]; rfl⟩) (by simp [bndIs]) hnl (by simp) Tryd.underlying43 sz5 (bv_len b) (es' := (b.drop n.toNat).map bv) (by rw [List.take_of_length_le (by simp), List.map_drop])) ?_; (try simp only [nA, Nat.reduceBEq, Nat.reduceEqDiff, ↓reduceIte, Nat.reduceAdd, Nat.reduceSub])
  (refine awP (op_nil_slot rfl rfl rfl) ?_); (try simp only [nA, Nat.reduceBEq, Nat.reduceEqDiff, ↓reduceIte, Nat.reduceAdd, Nat.reduceSub])
  (refine awP (op_fa_ptr rfl rfl rfl fl94_0 (by exact sz43) (by decide) rfl) ?_); (try simp only [nA, Nat.reduceBEq, Nat.reduceEqDiff, ↓reduceIte, Nat.reduceAdd, Nat.reduceSub])
  refine awJ (op_store rfl rfl rfl rfl rfl rfl sz43 rfl (bl rfl) rfl) ?_; (simp only [nA, ↓reduceIte])
  refine AWL.nil ?_
  (refine hK _ ?_; clear hK K; (skip))
  (refine AW.seq_k ?_; intro K hK)
  refine AW.region ?_
  refine awP (op_move rfl rfl) ?_; (simp only [nA, ↓reduceIte])
  refine awP (op_assign rfl rfl) ?_; (simp only [nA])
  refine awP (op_assign rfl rfl) ?_; (try simp only [nA, Nat.reduceBEq, Nat.reduceEqDiff, ↓reduceIte, Nat.reduceAdd, Nat.reduceSub])
  refine AWL.nil ?_
  (refine hK _ ?_; clear hK K; (skip))
  skip
  refine AW.ret ?_; (try simp only [thenE, inBlk, Nat.reduceEqDiff, ↓reduceIte]); rw [takE_yes (s := ⟨b, false⟩) hF]; exact RQ.of (.inl rfl) rfl (.tmp (bl rfl) rfl rfl (.tmp (bl rfl) rfl rfl .nil)) (by simp) rfl (one_out rfl)
end Go.Proofs.YtfmnaigedgmhoaaDoor
namespace Go.Proofs.YtfmnaigedgmhoaaDoor
open Go.RowKit
set_option linter.unusedSimpArgs false
set_option linter.unusedVariables false
set_option maxRecDepth 100000
theorem takE_fail {n : Int} {s : RS} (h : (takE n s).1.2 = false) : s.bad = true ∨ n > (s.b.length : Nat) := by
  refine Classical.byContradiction fun h' => ?_
  rw [takE_yes h'] at h
  cases h
theorem takE_fine {n : Int} {s : RS} (h : (takE n s).1.2 = true) : s.bad = false ∧ n ≤ (s.b.length : Nat) := by
  have h' : ¬ (s.bad = true ∨ n > (s.b.length : Nat)) := fun h' => by rw [takE_no h'] at h; cases h
  refine ⟨?_, by have := fun h => h' (.inr h); omega⟩
  cases hb : s.bad with
  | false => rfl
  | true => exact absurd (.inl hb) h'
theorem takE4_no {s : RS} (h : (takE 4 s).1.2 = false) : numE s = (0, (takE 4 s).2) := by
  have h1 := takE_fail h
  rw [takE_no h1]
  obtain ⟨b, bad⟩ := s
  cases bad with
  | true => rfl
  | false =>
    have h2 : (4 : Int) > (b.length : Nat) := h1.elim (fun h => by cases h) id
    match b, h2 with
    | [], _ => rfl
    | [_], _ => rfl
    | [_, _], _ => rfl
    | [_, _, _], _ => rfl
    | _ :: _ :: _ :: _ :: r, h2 => simp at h2; omega
theorem takE4_yes {s : RS} (h : (takE 4 s).1.2 = true) : ∃ a b c d r, s = ⟨a :: b :: c :: d :: r, false⟩ ∧ takE 4 s = (([a, b, c, d], true), ⟨r, false⟩) := by
  obtain ⟨h1, h2⟩ := takE_fine h
  obtain ⟨b, bad⟩ := s
  dsimp only at h1 h2
  subst h1
  match b, h2 with
  | [], h2 => simp at h2
  | [_], h2 => simp at h2
  | [_, _], h2 => simp at h2
  | [_, _, _], h2 => simp at h2
  | a :: b :: c :: d :: r, _ => exact ⟨a, b, c, d, r, rfl, by rw [takE_yes (by simp; omega)]; rfl⟩
theorem takE1_no {s : RS} (h : (takE 1 s).1.2 = false) : trE s = (false, (takE 1 s).2) := by
  have h1 := takE_fail h
  rw [takE_no h1]
  obtain ⟨b, bad⟩ := s
  cases bad with
  | true => rfl
  | false =>
    have h2 : (1 : Int) > (b.length : Nat) := h1.elim (fun h => by cases h) id
    match b, h2 with
    | [], _ => rfl
    | _ :: r, h2 => simp at h2; omega
theorem takE1_yes {s : RS} (h : (takE 1 s).1.2 = true) : ∃ a r, s = ⟨a :: r, false⟩ ∧ takE 1 s = (([a], true), ⟨r, false⟩) := by
  obtain ⟨h1, h2⟩ := takE_fine h
  obtain ⟨b, bad⟩ := s
  dsimp only at h1 h2
  subst h1
  match b, h2 with
  | [], h2 => simp at h2
  | a :: r, _ => exact ⟨a, r, rfl, by rw [takE_yes (by simp; omega)]; rfl⟩
theorem wrapB (a : UInt8) : IntKind.i64.wrap (a.toNat : Int) = (a.toNat : Int) := by
  have := a.toNat_lt
  rw [IntKind.wrap_i64]; omega
theorem shlB (a : UInt8) (k : Nat) (hk : k ≤ 24) : IntKind.i64.wrap ((a.toNat : Int) * 2 ^ k) = ((a.toNat * 2 ^ k : Nat) : Int) := by
  have h := a.toNat_lt
  have h2 : 2 ^ k ≤ 2 ^ 24 := Nat.pow_le_pow_right (by decide) hk
  have h3 : a.toNat * 2 ^ k ≤ 255 * 2 ^ 24 := Nat.mul_le_mul (by omega) h2
  have e : (a.toNat : Int) * 2 ^ k = ((a.toNat * 2 ^ k : Nat) : Int) := by simp
  rw [e, IntKind.wrap_i64]
  omega
set_option maxHeartbeats 8000000 in
theorem C99 {x : Ev} {rs os : AV} {s : RS} (hl : s.b.length ≤ 1000000) : Fn Tryd.prog 99 [.own 94 [rdC x rs os s]] [.ptr 0 0 0 0] [.v (.int .i64 (numE s).1)] [.own 94 [rdC x rs os (numE s).2]] := by
  refine Spec.body Tryd.func99 rfl Tryd.ntmps99 (by simp) rfl ?_; intro S0 own0 v0 w0 gl
  (refine AW.seq_k ?_; intro K hK)
  refine AW.region ?_
  refine awP (op_assign rfl rfl) ?_; (try simp only [nA, Nat.reduceBEq, Nat.reduceEqDiff, ↓reduceIte, Nat.reduceAdd, Nat.reduceSub])
  refine AWL.nil ?_
  (refine hK _ ?_; clear hK K; (try simp only [nA, Nat.reduceBEq, Nat.reduceEqDiff, ↓reduceIte, Nat.reduceAdd, Nat.reduceSub]))
  (refine AW.seq_k ?_; intro K hK)
  refine AW.region ?_
  refine awP (op_move rfl rfl) ?_; (simp only [nA, ↓reduceIte])
  refine awJ (op_call1 rfl en111 (C111 (x := x) (rs := rs) (os := os) (s := s) (n := 4) (by decide) hl) (by exact rfl) (RL.cons .ptr (RL.cons (.base (by exact View.same rfl)) (RL.nil))) (by exact ⟨_, _, _, rfl, rfl, rfl⟩) (by exact rfl) (by exact rfl) (by exact rfl)) ?_; (try simp only [nA, Nat.reduceBEq, Nat.reduceEqDiff, ↓reduceIte, Nat.reduceAdd, Nat.reduceSub])
  refine awP (op_move rfl rfl) ?_; (simp only [nA])
  refine awP (op_extract rfl rfl rfl) ?_; (try simp only [nA, Nat.reduceBEq, Nat.reduceEqDiff, ↓reduceIte, Nat.reduceAdd, Nat.reduceSub])
  refine awP (op_extract rfl rfl rfl) ?_; (try simp only [nA, Nat.reduceBEq, Nat.reduceEqDiff, ↓reduceIte, Nat.reduceAdd, Nat.reduceSub])
  refine awP (op_assign rfl rfl) ?_; (simp only [nA, ↓reduceIte])
  refine awP (op_assign rfl rfl) ?_; (simp only [nA, ↓reduceIte])
  refine AWL.nil ?_
  (refine hK _ ?_; clear hK K; (skip))
  (refine AW.seq_k ?_; intro K hK)
  (refine AW.seq_k ?_; intro K hK)
  refine AW.region ?_
  refine awP (op_move rfl rfl) ?_; (simp only [nA])
  refine awP (op_not rfl rfl rfl) ?_; (try simp only [nA, Nat.reduceBEq, Nat.reduceEqDiff, ↓reduceIte, Nat.reduceAdd, Nat.reduceSub])
  refine AWL.nil ?_
  (refine hK _ ?_; clear hK K; (skip))
  refine AW.cond rfl rfl rfl (fun hc => ?_) (fun hc => ?_)
  ·
   (try simp only [hcS] at hc); have hc1 := hc; have hT : (takE 4 s).1.2 = false := (by simpa using hc1)
   (refine AW.seq_k ?_; intro K hK)
   refine AW.region ?_
   refine awP (op_assign rfl rfl) ?_; (try simp only [nA, Nat.reduceBEq, Nat.reduceEqDiff, ↓reduceIte, Nat.reduceAdd, Nat.reduceSub])
   refine AWL.nil ?_
   (refine hK _ ?_; clear hK K; (skip))
   skip
   refine AW.ret ?_; (try simp only [thenE, inBlk, Nat.reduceEqDiff, ↓reduceIte]); rw [takE4_no hT]; exact RQ.of (.inl rfl) rfl (.tmp (bl rfl) rfl rfl .nil) (by simp) rfl (one_out rfl)
  (try simp only [hcS] at hc); have hc1 := hc; obtain ⟨a, b, c, d, r, rfl, htk⟩ := takE4_yes (s := s) (by simpa using hc1); simp only [htk, List.map_cons, List.map_nil]; have la := a.toNat_lt; have lb := b.toNat_lt; have lc := c.toNat_lt; have ld := d.toNat_lt
  refine AW.skip ?_
  (refine hK _ ?_; clear hK K; (skip))
  (refine AW.seq_k ?_; intro K hK)
  refine AW.quiet mix (by kernel_rfl) ?_
  refine aqP (op_move rfl rfl) ?_; (simp only [nA, ↓reduceIte])
  refine aqP (op_ia_ro 0 rfl (.inl rfl) rfl Tryd.underlying43 rfl rfl (by exact sz5) (bl rfl)) ?_; (try simp only [nA, Nat.reduceBEq, Nat.reduceEqDiff, ↓reduceIte, Nat.reduceAdd, Nat.reduceSub])
  (refine aqR (op_load_rop1 rfl rfl ag5) ?_); (try simp only [nA, Nat.reduceBEq, Nat.reduceEqDiff, ↓reduceIte, Nat.reduceAdd, Nat.reduceSub])
  refine aqP (op_conv rfl rfl Tryd.underlying5 Tryd.underlying3 (wrapB _)) ?_; (try simp only [nA, Nat.reduceBEq, Nat.reduceEqDiff, ↓reduceIte, Nat.reduceAdd, Nat.reduceSub])
  refine aqP (op_shl (z := ((a.toNat * 2 ^ 24 : Nat) : Int)) rfl rfl rfl (by decide) (shlB a 24 (by decide))) ?_; (try simp only [nA, Nat.reduceBEq, Nat.reduceEqDiff, ↓reduceIte, Nat.reduceAdd, Nat.reduceSub])
  refine aqP (op_move rfl rfl) ?_; (simp only [nA, ↓reduceIte])
  refine aqP (op_ia_ro 1 rfl (.inl rfl) rfl Tryd.underlying43 rfl rfl (by exact sz5) (bl rfl)) ?_; (try simp only [nA, Nat.reduceBEq, Nat.reduceEqDiff, ↓reduceIte, Nat.reduceAdd, Nat.reduceSub])
  (refine aqR (op_load_rop1 rfl rfl ag5) ?_); (try simp only [nA, Nat.reduceBEq, Nat.reduceEqDiff, ↓reduceIte, Nat.reduceAdd, Nat.reduceSub])
  refine aqP (op_conv rfl rfl Tryd.underlying5 Tryd.underlying3 (wrapB _)) ?_; (try simp only [nA, Nat.reduceBEq, Nat.reduceEqDiff, ↓reduceIte, Nat.reduceAdd, Nat.reduceSub])
  refine aqP (op_shl (z := ((b.toNat * 2 ^ 16 : Nat) : Int)) rfl rfl rfl (by decide) (shlB b 16 (by decide))) ?_; (try simp only [nA, Nat.reduceBEq, Nat.reduceEqDiff, ↓reduceIte, Nat.reduceAdd, Nat.reduceSub])
  refine aqP (op_or rfl rfl rfl (or_add 24 _ _ (by omega) (by omega) (by omega))) ?_; (try simp only [nA, Nat.reduceBEq, Nat.reduceEqDiff, ↓reduceIte, Nat.reduceAdd, Nat.reduceSub])
  refine aqP (op_move rfl rfl) ?_; (simp only [nA, ↓reduceIte])
  refine aqP (op_ia_ro 2 rfl (.inl rfl) rfl Tryd.underlying43 rfl rfl (by exact sz5) (bl rfl)) ?_; (try simp only [nA, Nat.reduceBEq, Nat.reduceEqDiff, ↓reduceIte, Nat.reduceAdd, Nat.reduceSub])
  (refine aqR (op_load_rop1 rfl rfl ag5) ?_); (try simp only [nA, Nat.reduceBEq, Nat.reduceEqDiff, ↓reduceIte, Nat.reduceAdd, Nat.reduceSub])
  refine aqP (op_conv rfl rfl Tryd.underlying5 Tryd.underlying3 (wrapB _)) ?_; (try simp only [nA, Nat.reduceBEq, Nat.reduceEqDiff, ↓reduceIte, Nat.reduceAdd, Nat.reduceSub])
  refine aqP (op_shl (z := ((c.toNat * 2 ^ 8 : Nat) : Int)) rfl rfl rfl (by decide) (shlB c 8 (by decide))) ?_; (try simp only [nA, Nat.reduceBEq, Nat.reduceEqDiff, ↓reduceIte, Nat.reduceAdd, Nat.reduceSub])
  refine aqP (op_or rfl rfl rfl (or_add 16 _ _ (by omega) (by omega) (by omega))) ?_; (try simp only [nA, Nat.reduceBEq, Nat.reduceEqDiff, ↓reduceIte, Nat.reduceAdd, Nat.reduceSub])
  refine aqP (op_move rfl rfl) ?_; (simp only [nA, ↓reduceIte])
  refine aqP (op_ia_ro 3 rfl (.inl rfl) rfl Tryd.underlying43 rfl rfl (by exact sz5) (bl rfl)) ?_; (try simp only [nA, Nat.reduceBEq, Nat.reduceEqDiff, ↓reduceIte, Nat.reduceAdd, Nat.reduceSub])
  (refine aqR (op_load_rop1 rfl rfl ag5) ?_); (try simp only [nA, Nat.reduceBEq, Nat.reduceEqDiff, ↓reduceIte, Nat.reduceAdd, Nat.reduceSub])
  refine aqP (op_conv rfl rfl Tryd.underlying5 Tryd.underlying3 (wrapB _)) ?_; (try simp only [nA, Nat.reduceBEq, Nat.reduceEqDiff, ↓reduceIte, Nat.reduceAdd, Nat.reduceSub])
  refine aqP (op_or rfl rfl rfl (or_add 8 _ _ (by omega) (by omega) (by omega))) ?_; (try simp only [nA, Nat.reduceBEq, Nat.reduceEqDiff, ↓reduceIte, Nat.reduceAdd, Nat.reduceSub])
  refine aqP (op_assign rfl rfl) ?_; (simp only [nA])
  refine AQ.nil ?_
  (refine hK _ ?_; clear hK K; (skip))
  skip
  refine AW.ret ?_; (try simp only [thenE, inBlk, Nat.reduceEqDiff, ↓reduceIte]); rw [show numE ⟨a :: b :: c :: d :: r, false⟩ = (n4 a b c d, ⟨r, false⟩) from rfl]; exact RQ.of (.inl rfl) rfl (.tmp (bl rfl) rfl rfl .nil) (by simp) rfl (one_out rfl)
theorem trE_at (a : UInt8) (r : BL) : trE ⟨a :: r, false⟩ = (decide (((a.toNat : Nat) : Int) = 1), ⟨r, decide (((a.toNat : Nat) : Int) > 1)⟩) := by
  show (decide (a = 1), (⟨r, decide (a.toNat > 1)⟩ : RS)) = _
  have e : decide (a = 1) = decide (((a.toNat : Nat) : Int) = 1) := decide_eq_decide.2 ⟨fun h => by subst h; rfl, fun h => UInt8.toNat_inj.1 (by show a.toNat = 1; omega)⟩
  have e2 : decide (a.toNat > 1) = decide (((a.toNat : Nat) : Int) > 1) := decide_eq_decide.2 (by omega)
  rw [e, e2]
set_option maxHeartbeats 8000000 in
theorem C102 {x : Ev} {rs os : AV} {s : RS} (hl : s.b.length ≤ 1000000) : Fn Tryd.prog 102 [.own 94 [rdC x rs os s]] [.ptr 0 0 0 0] [.v (.bool (trE s).1)] [.own 94 [rdC x rs os (trE s).2]] := by
  refine Spec.body Tryd.func102 rfl Tryd.ntmps102 (by simp) rfl ?_; intro S0 own0 v0 w0 gl
  (refine AW.seq_k ?_; intro K hK)
  refine AW.region ?_
  refine awP (op_assign rfl rfl) ?_; (try simp only [nA, Nat.reduceBEq, Nat.reduceEqDiff, ↓reduceIte, Nat.reduceAdd, Nat.reduceSub])
  refine AWL.nil ?_
  (refine hK _ ?_; clear hK K; (try simp only [nA, Nat.reduceBEq, Nat.reduceEqDiff, ↓reduceIte, Nat.reduceAdd, Nat.reduceSub]))
  (refine AW.seq_k ?_; intro K hK)
  refine AW.region ?_
  refine awP (op_move rfl rfl) ?_; (simp only [nA, ↓reduceIte])
  refine awJ (op_call1 rfl en111 (C111 (x := x) (rs := rs) (os := os) (s := s) (n := 1) (by decide) hl) (by exact rfl) (RL.cons .ptr (RL.cons (.base (by exact View.same rfl)) (RL.nil))) (by exact ⟨_, _, _, rfl, rfl, rfl⟩) (by exact rfl) (by exact rfl) (by exact rfl)) ?_; (try simp only [nA, Nat.reduceBEq, Nat.reduceEqDiff, ↓reduceIte, Nat.reduceAdd, Nat.reduceSub])
  refine awP (op_move rfl rfl) ?_; (simp only [nA])
  refine awP (op_extract rfl rfl rfl) ?_; (try simp only [nA, Nat.reduceBEq, Nat.reduceEqDiff, ↓reduceIte, Nat.reduceAdd, Nat.reduceSub])
  refine awP (op_extract rfl rfl rfl) ?_; (try simp only [nA, Nat.reduceBEq, Nat.reduceEqDiff, ↓reduceIte, Nat.reduceAdd, Nat.reduceSub])
  refine awP (op_assign rfl rfl) ?_; (simp only [nA, ↓reduceIte])
  refine awP (op_assign rfl rfl) ?_; (simp only [nA, ↓reduceIte])
  refine AWL.nil ?_
  (refine hK _ ?_; clear hK K; (skip))
  (refine AW.seq_k ?_; intro K hK)
  (refine AW.seq_k ?_; intro K hK)
  refine AW.region ?_
  refine awP (op_move rfl rfl) ?_; (simp only [nA])
  refine awP (op_not rfl rfl rfl) ?_; (try simp only [nA, Nat.reduceBEq, Nat.reduceEqDiff, ↓reduceIte, Nat.reduceAdd, Nat.reduceSub])
  refine AWL.nil ?_
  (refine hK _ ?_; clear hK K; (skip))
  refine AW.cond rfl rfl rfl (fun hc => ?_) (fun hc => ?_)
  ·
   (try simp only [hcS] at hc); have hc1 := hc; have hT : (takE 1 s).1.2 = false := (by simpa using hc1)
   (refine AW.seq_k ?_; intro K hK)
   refine AW.region ?_
   refine awP (op_assign rfl rfl) ?_; (try simp only [nA, Nat.reduceBEq, Nat.reduceEqDiff, ↓reduceIte, Nat.reduceAdd, Nat.reduceSub])
   refine AWL.nil ?_
   (refine hK _ ?_; clear hK K; (skip))
   skip
   refine AW.ret ?_; (try simp only [thenE, inBlk, Nat.reduceEqDiff, ↓reduceIte]); rw [takE1_no hT]; exact RQ.of (.inl rfl) rfl (.tmp (bl rfl) rfl rfl .nil) (by simp) rfl (one_out rfl)
  (try simp only [hcS] at hc); have hc1 := hc; obtain ⟨a, r, rfl, htk⟩ := takE1_yes (s := s) (by simpa using hc1); simp only [htk, List.map_cons, List.map_nil]; have la := a.toNat_lt
  refine AW.skip ?_
  (refine hK _ ?_; clear hK K; (skip))
  (refine AW.seq_k ?_; intro K hK)
  refine AW.region ?_
  refine awP (op_move rfl rfl) ?_; (simp only [nA, ↓reduceIte])
  refine awP (op_move rfl rfl) ?_; (simp only [nA, ↓reduceIte])
  refine awP (op_ia_ro 0 rfl (.inl rfl) rfl Tryd.underlying43 rfl rfl (by exact sz5) (bl rfl)) ?_; (try simp only [nA, Nat.reduceBEq, Nat.reduceEqDiff, ↓reduceIte, Nat.reduceAdd, Nat.reduceSub])
  (refine awR (op_load_rop1 rfl rfl ag5) ?_); (try simp only [nA, Nat.reduceBEq, Nat.reduceEqDiff, ↓reduceIte, Nat.reduceAdd, Nat.reduceSub])
  refine awP (op_gtr rfl rfl rfl) ?_; (try simp only [nA, Nat.reduceBEq, Nat.reduceEqDiff, ↓reduceIte, Nat.reduceAdd, Nat.reduceSub])
  (refine awP (op_nil_slot rfl rfl rfl) ?_); (try simp only [nA, Nat.reduceBEq, Nat.reduceEqDiff, ↓reduceIte, Nat.reduceAdd, Nat.reduceSub])
  (refine awP (op_fa_ptr rfl rfl rfl fl94_2 (by exact sz4) (by decide) rfl) ?_); (try simp only [nA, Nat.reduceBEq, Nat.reduceEqDiff, ↓reduceIte, Nat.reduceAdd, Nat.reduceSub])
  refine awJ (op_store rfl rfl rfl rfl rfl rfl sz4 rfl (bl rfl) rfl) ?_; (simp only [nA, ↓reduceIte])
  refine AWL.nil ?_
  (refine hK _ ?_; clear hK K; (skip))
  (refine AW.seq_k ?_; intro K hK)
  refine AW.region ?_
  refine awP (op_move rfl rfl) ?_; (simp only [nA, ↓reduceIte])
  refine awP (op_ia_ro 0 rfl (.inl rfl) rfl Tryd.underlying43 rfl rfl (by exact sz5) (bl rfl)) ?_; (try simp only [nA, Nat.reduceBEq, Nat.reduceEqDiff, ↓reduceIte, Nat.reduceAdd, Nat.reduceSub])
  (refine awR (op_load_rop1 rfl rfl ag5) ?_); (try simp only [nA, Nat.reduceBEq, Nat.reduceEqDiff, ↓reduceIte, Nat.reduceAdd, Nat.reduceSub])
  (refine awP (op_eql rfl rfl rfl) ?_); (try simp only [nA, Nat.reduceBEq, Nat.reduceEqDiff, ↓reduceIte, Nat.reduceAdd, Nat.reduceSub])
  refine awP (op_assign rfl rfl) ?_; (simp only [nA])
  refine AWL.nil ?_
  (refine hK _ ?_; clear hK K; (skip))
  skip
  refine AW.ret ?_; (try simp only [thenE, inBlk, Nat.reduceEqDiff, ↓reduceIte]); rw [show trE ⟨a :: r, false⟩ = (decide (((a.toNat : Nat) : Int) = 1), ⟨r, decide (((a.toNat : Nat) : Int) > 1)⟩) from trE_at a r]; exact RQ.of (.inl rfl) rfl (.tmp (bl rfl) rfl rfl .nil) (by simp) rfl (one_out rfl)
end Go.Proofs.YtfmnaigedgmhoaaDoor
