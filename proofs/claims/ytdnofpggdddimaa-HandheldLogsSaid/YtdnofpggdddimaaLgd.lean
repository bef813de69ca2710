import Derived.Test.YtdnofpggdddimaaLgc
namespace Go.Proofs.Ytdnofpggdddimaa
open Go.RowKit
set_option linter.unusedSimpArgs false
set_option linter.unusedVariables false
set_option maxRecDepth 100000
theorem C102 {c : UInt8} : Fn Try.prog 102 [] [.v (.int .u8 c.toNat)] [.v (.bool (upB c))] [] := by
  refine Spec.body Try.func102 rfl Try.ntmps102 (by simp) rfl ?_; intro S0 own0 v0 w0
  (refine AW.seq_k ?_; intro K hK)
  refine AW.region ?_
  refine awP (op_assign rfl rfl) ?_
  refine AWL.nil ?_
  (refine hK _ ?_; clear hK K; (try simp only [nA, Nat.reduceBEq, Nat.reduceEqDiff, ↓reduceIte, Nat.reduceAdd, Nat.reduceSub]))
  (refine AW.seq_k ?_; intro K hK)
  refine AW.region (AWL.quiet ?_)
  refine aqP (op_move rfl rfl) ?_
  refine aqP (op_geq rfl rfl rfl) ?_
  refine aqP (op_move rfl rfl) ?_
  refine' aqAnd' [_, _] [6,7] rfl rfl rfl rfl rfl rfl rfl rfl rfl rfl rfl rfl (fun hb => ?_) ?_; rotate_left
  ·
   (try simp only [hcS] at hb)
   refine aqP (op_move rfl rfl) ?_
   refine aqP (op_leq rfl rfl rfl) ?_
   (refine aqSeg rfl rfl rfl ?_; repeat (first | exact fun _ _ => rfl | refine upd_out rfl ?_ | refine era_out rfl ?_))
  (try simp only [nA, Nat.reduceBEq, Nat.reduceEqDiff, ↓reduceIte, Nat.reduceAdd, Nat.reduceSub])
  refine aqP (op_assign rfl rfl) ?_
  refine AQ.nil ?_
  (refine hK _ ?_; clear hK K; (try simp only [nA, Nat.reduceBEq, Nat.reduceEqDiff, ↓reduceIte, Nat.reduceAdd, Nat.reduceSub]))
  skip
  refine AW.ret ?_; (try simp only [thenE, inBlk, Nat.reduceEqDiff, ↓reduceIte]); exact RQ.of0 rfl (.tmp (Nat.le_of_ble_eq_true rfl) rfl rfl .nil)
theorem C103 {c : UInt8} : Fn Try.prog 103 [] [.v (.int .u8 c.toNat)] [.v (.bool (dgB c))] [] := by
  refine Spec.body Try.func103 rfl Try.ntmps103 (by simp) rfl ?_; intro S0 own0 v0 w0
  (refine AW.seq_k ?_; intro K hK)
  refine AW.region ?_
  refine awP (op_assign rfl rfl) ?_
  refine AWL.nil ?_
  (refine hK _ ?_; clear hK K; (try simp only [nA, Nat.reduceBEq, Nat.reduceEqDiff, ↓reduceIte, Nat.reduceAdd, Nat.reduceSub]))
  (refine AW.seq_k ?_; intro K hK)
  refine AW.region (AWL.quiet ?_)
  refine aqP (op_move rfl rfl) ?_
  refine aqP (op_geq rfl rfl rfl) ?_
  refine aqP (op_move rfl rfl) ?_
  refine' aqAnd' [_, _] [6,7] rfl rfl rfl rfl rfl rfl rfl rfl rfl rfl rfl rfl (fun hb => ?_) ?_; rotate_left
  ·
   (try simp only [hcS] at hb)
   refine aqP (op_move rfl rfl) ?_
   refine aqP (op_leq rfl rfl rfl) ?_
   (refine aqSeg rfl rfl rfl ?_; repeat (first | exact fun _ _ => rfl | refine upd_out rfl ?_ | refine era_out rfl ?_))
  (try simp only [nA, Nat.reduceBEq, Nat.reduceEqDiff, ↓reduceIte, Nat.reduceAdd, Nat.reduceSub])
  refine aqP (op_assign rfl rfl) ?_
  refine AQ.nil ?_
  (refine hK _ ?_; clear hK K; (try simp only [nA, Nat.reduceBEq, Nat.reduceEqDiff, ↓reduceIte, Nat.reduceAdd, Nat.reduceSub]))
  skip
  refine AW.ret ?_; (try simp only [thenE, inBlk, Nat.reduceEqDiff, ↓reduceIte]); exact RQ.of0 rfl (.tmp (Nat.le_of_ble_eq_true rfl) rfl rfl .nil)
def sufR (s : ByteArray) : Bool := (s.toList == (⟨#[]⟩ : ByteArray).toList) || (decide ((s.size : Int) = 1) && upB (chr s 0))
theorem C97r {s : ByteArray} : Fn Try.prog 97 [] [.v (.string s)] [.v (.bool (sufR s))] [] := by
  refine Spec.body Try.func97 rfl Try.ntmps97 (by simp) rfl ?_; intro S0 own0 v0 w0
  (refine AW.seq_k ?_; intro K hK)
  refine AW.region ?_
  refine awP (op_assign rfl rfl) ?_
  refine AWL.nil ?_
  (refine hK _ ?_; clear hK K; (try simp only [nA, Nat.reduceBEq, Nat.reduceEqDiff, ↓reduceIte, Nat.reduceAdd, Nat.reduceSub]))
  (refine AW.seq_k ?_; intro K hK)
  refine AW.region (AWL.quiet ?_)
  refine aqP (op_move rfl rfl) ?_
  (first | refine aqP (op_eql rfl rfl rfl) ?_ | refine aqP (op_seql rfl rfl rfl) ?_)
  refine aqP (op_move rfl rfl) ?_
  refine' aqOrN' [_, _, _, _, _, _, _, _] [6,7,8,9,10,11,12,13] rfl rfl rfl rfl rfl rfl rfl rfl rfl rfl rfl rfl (fun hb => ?_) ?_; rotate_left
  ·
   (try simp only [hcS] at hb)
   refine aqP (op_move rfl rfl) ?_
   (first | refine aqP (op_len_ro rfl rfl Try.underlying9 (by first | exact .inr (.inl ⟨_, rfl, rfl⟩) | exact .inl rfl | exact .inr (.inr (.inl ⟨_, rfl, rfl⟩)) | exact .inr (.inr (.inr ⟨rfl, rfl⟩)))) ?_ | refine aqP (op_len_sl rfl rfl rfl Try.underlying9) ?_ | refine aqP (op_len_str rfl rfl Try.underlying9) ?_)
   (first | refine aqP (op_eql rfl rfl rfl) ?_ | refine aqP (op_seql rfl rfl rfl) ?_)
   refine aqP (op_move rfl rfl) ?_
   refine' aqAnd' [_, _, _] [10,11,12] rfl rfl rfl rfl rfl rfl rfl rfl rfl rfl rfl rfl (fun hb => ?_) ?_; rotate_left
   ·
    (try simp only [hcS] at hb)
    refine aqP (op_move rfl rfl) ?_
    refine aqP (op_ix_str 0 rfl rfl rfl Try.underlying9 rfl (get_chr (s := s) (i := 0) (by omega))) ?_
    refine aqQ (op_callQ (b := true) rfl en102 (C102) (RL.cons (by first | exact View.same rfl | exact View.nil | exact View.rof | exact View.src .ro | exact View.src .rof | exact View.src (.sl rfl rfl) | exact View.ptr rfl rfl rfl) (RL.nil)) rfl) ?_; (try simp only [nA, Nat.reduceBEq, Nat.reduceEqDiff, ↓reduceIte, Nat.reduceAdd, Nat.reduceSub])
    (refine aqSeg rfl rfl rfl ?_; repeat (first | exact fun _ _ => rfl | refine upd_out rfl ?_ | refine era_out rfl ?_))
   (try simp only [nA, Nat.reduceBEq, Nat.reduceEqDiff, ↓reduceIte, Nat.reduceAdd, Nat.reduceSub])
   (refine aqSeg rfl rfl rfl ?_; repeat (first | exact fun _ _ => rfl | refine upd_out rfl ?_ | refine era_out rfl ?_))
  (try simp only [nA, Nat.reduceBEq, Nat.reduceEqDiff, ↓reduceIte, Nat.reduceAdd, Nat.reduceSub])
  refine aqP (op_assign rfl rfl) ?_
  refine AQ.nil ?_
  (refine hK _ ?_; clear hK K; (try simp only [nA, Nat.reduceBEq, Nat.reduceEqDiff, ↓reduceIte, Nat.reduceAdd, Nat.reduceSub]))
  skip
  refine AW.ret ?_; (try simp only [thenE, inBlk, Nat.reduceEqDiff, ↓reduceIte]); exact RQ.of0 rfl (.tmp (Nat.le_of_ble_eq_true rfl) rfl rfl .nil)
def carR (s : ByteArray) : Bool := ((upB (chr s 0) || dgB (chr s 0)) && (upB (chr s 1) || dgB (chr s 1))) && (upB (chr s 0) || upB (chr s 1))
def car0 (s : ByteArray) : Bool := if (s.size : Int) ≠ 2 then false else carR s
theorem C96r {s : ByteArray} : Fn Try.prog 96 [] [.v (.string s)] [.v (.bool (car0 s))] [] := by
  refine Spec.body Try.func96 rfl Try.ntmps96 (by simp) rfl ?_; intro S0 own0 v0 w0
  (refine AW.seq_k ?_; intro K hK)
  refine AW.region ?_
  refine awP (op_assign rfl rfl) ?_
  refine AWL.nil ?_
  (refine hK _ ?_; clear hK K; (try simp only [nA, Nat.reduceBEq, Nat.reduceEqDiff, ↓reduceIte, Nat.reduceAdd, Nat.reduceSub]))
  (refine AW.seq_k ?_; intro K hK)
  (refine AW.seq_k ?_; intro K hK)
  refine AW.region ?_
  refine awP (op_move rfl rfl) ?_
  (first | refine awP (op_len_ro rfl rfl Try.underlying9 (by first | exact .inr (.inl ⟨_, rfl, rfl⟩) | exact .inl rfl | exact .inr (.inr (.inl ⟨_, rfl, rfl⟩)) | exact .inr (.inr (.inr ⟨rfl, rfl⟩)))) ?_ | refine awP (op_len_sl rfl rfl rfl Try.underlying9) ?_ | refine awP (op_len_str rfl rfl Try.underlying9) ?_)
  (first | refine awP (op_neq rfl rfl rfl) ?_ | refine awP (op_sneq rfl rfl rfl) ?_)
  refine AWL.nil ?_
  (refine hK _ ?_; clear hK K; (try simp only [nA, Nat.reduceBEq, Nat.reduceEqDiff, ↓reduceIte, Nat.reduceAdd, Nat.reduceSub]))
  refine AW.cond rfl rfl rfl (fun hc => ?_) (fun hc => ?_)
  ·
   (try simp only [hcS] at hc); have hc1 := hc; skip
   (refine AW.seq_k ?_; intro K hK)
   refine AW.region ?_
   refine awP (op_assign rfl rfl) ?_
   refine AWL.nil ?_
   (refine hK _ ?_; clear hK K; (try simp only [nA, Nat.reduceBEq, Nat.reduceEqDiff, ↓reduceIte, Nat.reduceAdd, Nat.reduceSub]))
   skip
   refine AW.ret ?_; (try simp only [thenE, inBlk, Nat.reduceEqDiff, ↓reduceIte]); rw [show car0 s = false by unfold car0; rw [if_pos (by omega)]]; exact RQ.of0 rfl (.tmp (Nat.le_of_ble_eq_true rfl) rfl rfl .nil)
  ·
   (try simp only [hcS] at hc); have hc1 := hc; skip
   refine AW.skip ?_
   (refine hK _ ?_; clear hK K; (try simp only [nA, Nat.reduceBEq, Nat.reduceEqDiff, ↓reduceIte, Nat.reduceAdd, Nat.reduceSub]))
   (refine AW.seq_k ?_; intro K hK)
   refine AW.quiet mix (by kernel_rfl) ?_
   refine aqP (op_move rfl rfl) ?_
   refine aqP (op_ix_str 0 rfl rfl rfl Try.underlying9 rfl (get_chr (s := s) (i := 0) (by omega))) ?_
   refine aqQ (op_callQ (b := true) rfl en102 (C102) (RL.cons (by first | exact View.same rfl | exact View.nil | exact View.rof | exact View.src .ro | exact View.src .rof | exact View.src (.sl rfl rfl) | exact View.ptr rfl rfl rfl) (RL.nil)) rfl) ?_; (try simp only [nA, Nat.reduceBEq, Nat.reduceEqDiff, ↓reduceIte, Nat.reduceAdd, Nat.reduceSub])
   refine aqP (op_move rfl rfl) ?_
   refine aqP (op_ix_str 1 rfl rfl rfl Try.underlying9 rfl (get_chr (s := s) (i := 1) (by omega))) ?_
   refine aqQ (op_callQ (b := true) rfl en102 (C102) (RL.cons (by first | exact View.same rfl | exact View.nil | exact View.rof | exact View.src .ro | exact View.src .rof | exact View.src (.sl rfl rfl) | exact View.ptr rfl rfl rfl) (RL.nil)) rfl) ?_; (try simp only [nA, Nat.reduceBEq, Nat.reduceEqDiff, ↓reduceIte, Nat.reduceAdd, Nat.reduceSub])
   refine aqP (op_assign rfl rfl) ?_
   refine aqP (op_assign rfl rfl) ?_
   refine AQ.nil ?_
   (refine hK _ ?_; clear hK K; (try simp only [nA, Nat.reduceBEq, Nat.reduceEqDiff, ↓reduceIte, Nat.reduceAdd, Nat.reduceSub]))
   (refine AW.seq_k ?_; intro K hK)
   refine AW.region (AWL.quiet ?_)
   refine aqP (op_move rfl rfl) ?_
   refine aqP (op_move rfl rfl) ?_
   refine' aqOr' [_, _, _] [16,17,18] rfl rfl rfl rfl rfl rfl rfl rfl rfl rfl rfl rfl (fun hb => ?_) ?_; rotate_left
   ·
    (try simp only [hcS] at hb)
    refine aqP (op_move rfl rfl) ?_
    refine aqP (op_ix_str 0 rfl rfl rfl Try.underlying9 rfl (get_chr (s := s) (i := 0) (by omega))) ?_
    refine aqQ (op_callQ (b := true) rfl en103 (C103) (RL.cons (by first | exact View.same rfl | exact View.nil | exact View.rof | exact View.src .ro | exact View.src .rof | exact View.src (.sl rfl rfl) | exact View.ptr rfl rfl rfl) (RL.nil)) rfl) ?_; (try simp only [nA, Nat.reduceBEq, Nat.reduceEqDiff, ↓reduceIte, Nat.reduceAdd, Nat.reduceSub])
    (refine aqSeg rfl rfl rfl ?_; repeat (first | exact fun _ _ => rfl | refine upd_out rfl ?_ | refine era_out rfl ?_))
   (try simp only [nA, Nat.reduceBEq, Nat.reduceEqDiff, ↓reduceIte, Nat.reduceAdd, Nat.reduceSub])
   refine aqP (op_move rfl rfl) ?_
   refine' aqAndN' [_, _, _, _, _, _] [21,22,23,24,25,26] rfl rfl rfl rfl rfl rfl rfl rfl rfl rfl rfl rfl (fun hb => ?_) ?_; rotate_left
   ·
    (try simp only [hcS] at hb)
    refine aqP (op_move rfl rfl) ?_
    refine aqP (op_move rfl rfl) ?_
    refine' aqOr' [_, _, _] [23,24,25] rfl rfl rfl rfl rfl rfl rfl rfl rfl rfl rfl rfl (fun hb => ?_) ?_; rotate_left
    ·
     (try simp only [hcS] at hb)
     refine aqP (op_move rfl rfl) ?_
     refine aqP (op_ix_str 1 rfl rfl rfl Try.underlying9 rfl (get_chr (s := s) (i := 1) (by omega))) ?_
     refine aqQ (op_callQ (b := true) rfl en103 (C103) (RL.cons (by first | exact View.same rfl | exact View.nil | exact View.rof | exact View.src .ro | exact View.src .rof | exact View.src (.sl rfl rfl) | exact View.ptr rfl rfl rfl) (RL.nil)) rfl) ?_; (try simp only [nA, Nat.reduceBEq, Nat.reduceEqDiff, ↓reduceIte, Nat.reduceAdd, Nat.reduceSub])
     (refine aqSeg rfl rfl rfl ?_; repeat (first | exact fun _ _ => rfl | refine upd_out rfl ?_ | refine era_out rfl ?_))
    (try simp only [nA, Nat.reduceBEq, Nat.reduceEqDiff, ↓reduceIte, Nat.reduceAdd, Nat.reduceSub])
    (refine aqSeg rfl rfl rfl ?_; repeat (first | exact fun _ _ => rfl | refine upd_out rfl ?_ | refine era_out rfl ?_))
   (try simp only [nA, Nat.reduceBEq, Nat.reduceEqDiff, ↓reduceIte, Nat.reduceAdd, Nat.reduceSub])
   refine aqP (op_move rfl rfl) ?_
   refine' aqAndN' [_, _, _, _] [29,30,31,32] rfl rfl rfl rfl rfl rfl rfl rfl rfl rfl rfl rfl (fun hb => ?_) ?_; rotate_left
   ·
    (try simp only [hcS] at hb)
    refine aqP (op_move rfl rfl) ?_
    refine aqP (op_move rfl rfl) ?_
    refine' aqOr' [_] [31] rfl rfl rfl rfl rfl rfl rfl rfl rfl rfl rfl rfl (fun hb => ?_) ?_; rotate_left
    ·
     (try simp only [hcS] at hb)
     refine aqP (op_move rfl rfl) ?_
     (refine aqSeg rfl rfl rfl ?_; repeat (first | exact fun _ _ => rfl | refine upd_out rfl ?_ | refine era_out rfl ?_))
    (try simp only [nA, Nat.reduceBEq, Nat.reduceEqDiff, ↓reduceIte, Nat.reduceAdd, Nat.reduceSub])
    (refine aqSeg rfl rfl rfl ?_; repeat (first | exact fun _ _ => rfl | refine upd_out rfl ?_ | refine era_out rfl ?_))
   (try simp only [nA, Nat.reduceBEq, Nat.reduceEqDiff, ↓reduceIte, Nat.reduceAdd, Nat.reduceSub])
   refine aqP (op_assign rfl rfl) ?_
   refine AQ.nil ?_
   (refine hK _ ?_; clear hK K; (try simp only [nA, Nat.reduceBEq, Nat.reduceEqDiff, ↓reduceIte, Nat.reduceAdd, Nat.reduceSub]))
   skip
   refine AW.ret ?_; (try simp only [thenE, inBlk, Nat.reduceEqDiff, ↓reduceIte]); rw [show car0 s = carR s by unfold car0; rw [if_neg (by omega)]]; exact RQ.of0 rfl (.tmp (Nat.le_of_ble_eq_true rfl) rfl rfl .nil)
theorem bytes_eq (s : ByteArray) : s.toList = s.data.toList := by
  exact ByteArray.toList_eq s
theorem suf_eq (s : ByteArray) : sufR s = lettersB s 0 1 := by
  unfold sufR lettersB
  rw [bytes_eq, bytes_eq]
  have hs := size_len s
  rcases hd : s.data.toList with _ | ⟨a, _ | ⟨b, t⟩⟩
  · rw [hd] at hs
    simp at hs
    simp [← hs]
  · rw [hd] at hs
    simp at hs
    simp [← hs, chr, hd]
  · rw [hd] at hs
    simp at hs
    have h1 : ¬ (s.size : Int) = 1 := by omega
    have h2 : ¬ (s.size : Int) ≤ 1 := by omega
    simp [h1, h2]
theorem car_eq (s : ByteArray) : car0 s = carB s := by
  unfold car0 carB
  have hs := size_len s
  by_cases h2 : s.size = 2
  · rw [if_neg (by omega)]
    rcases hd : s.data.toList with _ | ⟨a, _ | ⟨b, _ | ⟨d, t⟩⟩⟩ <;> rw [hd] at hs <;> simp at hs <;> try omega
    unfold carR chr
    rw [hd]
    simp [h2]
  · rw [if_pos (by omega)]
    simp [h2]
theorem C97 {s : ByteArray} : Fn Try.prog 97 [] [.v (.string s)] [.v (.bool (lettersB s 0 1))] [] := by
  rw [← suf_eq]; exact C97r
theorem C96 {s : ByteArray} : Fn Try.prog 96 [] [.v (.string s)] [.v (.bool (carB s))] [] := by
  rw [← car_eq]; exact C96r
theorem C85 {f : Flight} : Fn Try.prog 85 [] [.agg f.av] [.v (.bool (flB f))] [] := by
  refine Spec.body Try.func85 rfl Try.ntmps85 (by simp) rfl ?_; intro S0 own0 v0 w0
  (refine AW.seq_k ?_; intro K hK)
  refine AW.region ?_
  refine awJ (op_box rfl rfl rfl sz73 rfl) ?_; (try simp only [nA, Nat.reduceBEq, Nat.reduceEqDiff, ↓reduceIte, Nat.reduceAdd, Nat.reduceSub])
  refine awP (op_assign rfl rfl) ?_
  refine AWL.nil ?_
  (refine hK _ ?_; clear hK K; (try simp only [nA, Nat.reduceBEq, Nat.reduceEqDiff, ↓reduceIte, Nat.reduceAdd, Nat.reduceSub]))
  (refine AW.seq_k ?_; intro K hK)
  refine AW.region (AWL.quiet ?_)
  (first | refine aqP (op_fa_ptr rfl rfl rfl fl73_0 (by exact sz9) (by decide) rfl) ?_ | refine aqP (op_fa_rop rfl rfl fl73_0 (by exact sz9) (by decide) (Nat.le_of_ble_eq_true rfl) rfl) ?_)
  (first | refine aqR (op_load_ptr1 rfl rfl rfl rfl ag9 rfl rfl) ?_ | refine aqR (op_load_rop1 rfl rfl ag9) ?_)
  refine aqQ (op_callQ (b := true) rfl en96 (C96) (RL.cons (by first | exact View.same rfl | exact View.nil | exact View.rof | exact View.src .ro | exact View.src .rof | exact View.src (.sl rfl rfl) | exact View.ptr rfl rfl rfl) (RL.nil)) rfl) ?_; (try simp only [nA, Nat.reduceBEq, Nat.reduceEqDiff, ↓reduceIte, Nat.reduceAdd, Nat.reduceSub])
  refine aqP (op_move rfl rfl) ?_
  refine' aqAnd' [_, _, _] [7,8,9] rfl rfl rfl rfl rfl rfl rfl rfl rfl rfl rfl rfl (fun hb => ?_) ?_; rotate_left
  ·
   (try simp only [hcS] at hb)
   (first | refine aqP (op_fa_ptr rfl rfl rfl fl73_1 (by exact sz3) (by decide) rfl) ?_ | refine aqP (op_fa_rop rfl rfl fl73_1 (by exact sz3) (by decide) (Nat.le_of_ble_eq_true rfl) rfl) ?_)
   (first | refine aqR (op_load_ptr1 rfl rfl rfl rfl ag3 rfl rfl) ?_ | refine aqR (op_load_rop1 rfl rfl ag3) ?_)
   refine aqP (op_geq rfl rfl rfl) ?_
   (refine aqSeg rfl rfl rfl ?_; repeat (first | exact fun _ _ => rfl | refine upd_out rfl ?_ | refine era_out rfl ?_))
  (try simp only [nA, Nat.reduceBEq, Nat.reduceEqDiff, ↓reduceIte, Nat.reduceAdd, Nat.reduceSub])
  refine aqP (op_move rfl rfl) ?_
  refine' aqAnd' [_, _, _] [12,13,14] rfl rfl rfl rfl rfl rfl rfl rfl rfl rfl rfl rfl (fun hb => ?_) ?_; rotate_left
  ·
   (try simp only [hcS] at hb)
   (first | refine aqP (op_fa_ptr rfl rfl rfl fl73_1 (by exact sz3) (by decide) rfl) ?_ | refine aqP (op_fa_rop rfl rfl fl73_1 (by exact sz3) (by decide) (Nat.le_of_ble_eq_true rfl) rfl) ?_)
   (first | refine aqR (op_load_ptr1 rfl rfl rfl rfl ag3 rfl rfl) ?_ | refine aqR (op_load_rop1 rfl rfl ag3) ?_)
   refine aqP (op_leq rfl rfl rfl) ?_
   (refine aqSeg rfl rfl rfl ?_; repeat (first | exact fun _ _ => rfl | refine upd_out rfl ?_ | refine era_out rfl ?_))
  (try simp only [nA, Nat.reduceBEq, Nat.reduceEqDiff, ↓reduceIte, Nat.reduceAdd, Nat.reduceSub])
  refine aqP (op_move rfl rfl) ?_
  refine' aqAnd' [_, _, _] [17,18,19] rfl rfl rfl rfl rfl rfl rfl rfl rfl rfl rfl rfl (fun hb => ?_) ?_; rotate_left
  ·
   (try simp only [hcS] at hb)
   (first | refine aqP (op_fa_ptr rfl rfl rfl fl73_2 (by exact sz9) (by decide) rfl) ?_ | refine aqP (op_fa_rop rfl rfl fl73_2 (by exact sz9) (by decide) (Nat.le_of_ble_eq_true rfl) rfl) ?_)
   (first | refine aqR (op_load_ptr1 rfl rfl rfl rfl ag9 rfl rfl) ?_ | refine aqR (op_load_rop1 rfl rfl ag9) ?_)
   refine aqQ (op_callQ (b := true) rfl en97 (C97) (RL.cons (by first | exact View.same rfl | exact View.nil | exact View.rof | exact View.src .ro | exact View.src .rof | exact View.src (.sl rfl rfl) | exact View.ptr rfl rfl rfl) (RL.nil)) rfl) ?_; (try simp only [nA, Nat.reduceBEq, Nat.reduceEqDiff, ↓reduceIte, Nat.reduceAdd, Nat.reduceSub])
   (refine aqSeg rfl rfl rfl ?_; repeat (first | exact fun _ _ => rfl | refine upd_out rfl ?_ | refine era_out rfl ?_))
  (try simp only [nA, Nat.reduceBEq, Nat.reduceEqDiff, ↓reduceIte, Nat.reduceAdd, Nat.reduceSub])
  refine aqP (op_move rfl rfl) ?_
  refine' aqAnd' [_, _, _] [22,23,24] rfl rfl rfl rfl rfl rfl rfl rfl rfl rfl rfl rfl (fun hb => ?_) ?_; rotate_left
  ·
   (try simp only [hcS] at hb)
   (first | refine aqP (op_fa_ptr rfl rfl rfl fl73_3 (by exact sz3) (by decide) rfl) ?_ | refine aqP (op_fa_rop rfl rfl fl73_3 (by exact sz3) (by decide) (Nat.le_of_ble_eq_true rfl) rfl) ?_)
   (first | refine aqR (op_load_ptr1 rfl rfl rfl rfl ag3 rfl rfl) ?_ | refine aqR (op_load_rop1 rfl rfl ag3) ?_)
   refine aqP (op_geq rfl rfl rfl) ?_
   (refine aqSeg rfl rfl rfl ?_; repeat (first | exact fun _ _ => rfl | refine upd_out rfl ?_ | refine era_out rfl ?_))
  (try simp only [nA, Nat.reduceBEq, Nat.reduceEqDiff, ↓reduceIte, Nat.reduceAdd, Nat.reduceSub])
  refine aqP (op_move rfl rfl) ?_
  refine' aqAnd' [_, _, _] [27,28,29] rfl rfl rfl rfl rfl rfl rfl rfl rfl rfl rfl rfl (fun hb => ?_) ?_; rotate_left
  ·
   (try simp only [hcS] at hb)
   (first | refine aqP (op_fa_ptr rfl rfl rfl fl73_3 (by exact sz3) (by decide) rfl) ?_ | refine aqP (op_fa_rop rfl rfl fl73_3 (by exact sz3) (by decide) (Nat.le_of_ble_eq_true rfl) rfl) ?_)
   (first | refine aqR (op_load_ptr1 rfl rfl rfl rfl ag3 rfl rfl) ?_ | refine aqR (op_load_rop1 rfl rfl ag3) ?_)
   refine aqP (op_leq rfl rfl rfl) ?_
   (refine aqSeg rfl rfl rfl ?_; repeat (first | exact fun _ _ => rfl | refine upd_out rfl ?_ | refine era_out rfl ?_))
  (try simp only [nA, Nat.reduceBEq, Nat.reduceEqDiff, ↓reduceIte, Nat.reduceAdd, Nat.reduceSub])
  refine aqP (op_assign rfl rfl) ?_
  refine AQ.nil ?_
  (refine hK _ ?_; clear hK K; (try simp only [nA, Nat.reduceBEq, Nat.reduceEqDiff, ↓reduceIte, Nat.reduceAdd, Nat.reduceSub]))
  skip
  refine AW.ret ?_; (try simp only [thenE, inBlk, Nat.reduceEqDiff, ↓reduceIte]); exact RQ.of0 rfl (.tmp (Nat.le_of_ble_eq_true rfl) rfl rfl .nil)
theorem C86 {a b : Int} : Fn Try.prog 86 [] [.v (.int .i64 a), .v (.int .i64 b)] [.v (.int .i64 (cmpI a b))] [] := by
  refine Spec.body Try.func86 rfl Try.ntmps86 (by simp) rfl ?_; intro S0 own0 v0 w0
  (refine AW.seq_k ?_; intro K hK)
  refine AW.region ?_
  refine awP (op_assign rfl rfl) ?_
  refine AWL.nil ?_
  (refine hK _ ?_; clear hK K; (try simp only [nA, Nat.reduceBEq, Nat.reduceEqDiff, ↓reduceIte, Nat.reduceAdd, Nat.reduceSub]))
  (refine AW.seq_k ?_; intro K hK)
  (refine AW.seq_k ?_; intro K hK)
  refine AW.region ?_
  refine awP (op_move rfl rfl) ?_
  refine awP (op_move rfl rfl) ?_
  refine awP (op_lss rfl rfl rfl) ?_
  refine AWL.nil ?_
  (refine hK _ ?_; clear hK K; (try simp only [nA, Nat.reduceBEq, Nat.reduceEqDiff, ↓reduceIte, Nat.reduceAdd, Nat.reduceSub]))
  refine AW.cond rfl rfl rfl (fun hc => ?_) (fun hc => ?_)
  ·
   (try simp only [hcS] at hc); have hc1 := hc; skip
   (refine AW.seq_k ?_; intro K hK)
   refine AW.region ?_
   refine awP (op_assign rfl rfl) ?_
   refine AWL.nil ?_
   (refine hK _ ?_; clear hK K; (try simp only [nA, Nat.reduceBEq, Nat.reduceEqDiff, ↓reduceIte, Nat.reduceAdd, Nat.reduceSub]))
   skip
   refine AW.ret ?_; (try simp only [thenE, inBlk, Nat.reduceEqDiff, ↓reduceIte]); rw [show cmpI a b = -1 by unfold cmpI; rw [if_pos (by omega)]]; exact RQ.of0 rfl (.tmp (Nat.le_of_ble_eq_true rfl) rfl rfl .nil)
  ·
   (try simp only [hcS] at hc); have hc1 := hc; skip
   refine AW.skip ?_
   (refine hK _ ?_; clear hK K; (try simp only [nA, Nat.reduceBEq, Nat.reduceEqDiff, ↓reduceIte, Nat.reduceAdd, Nat.reduceSub]))
   (refine AW.seq_k ?_; intro K hK)
   (refine AW.seq_k ?_; intro K hK)
   refine AW.region ?_
   refine awP (op_move rfl rfl) ?_
   refine awP (op_move rfl rfl) ?_
   refine awP (op_gtr rfl rfl rfl) ?_
   refine AWL.nil ?_
   (refine hK _ ?_; clear hK K; (try simp only [nA, Nat.reduceBEq, Nat.reduceEqDiff, ↓reduceIte, Nat.reduceAdd, Nat.reduceSub]))
   refine AW.cond rfl rfl rfl (fun hc => ?_) (fun hc => ?_)
   ·
    (try simp only [hcS] at hc); have hc2 := hc; skip
    (refine AW.seq_k ?_; intro K hK)
    refine AW.region ?_
    refine awP (op_assign rfl rfl) ?_
    refine AWL.nil ?_
    (refine hK _ ?_; clear hK K; (try simp only [nA, Nat.reduceBEq, Nat.reduceEqDiff, ↓reduceIte, Nat.reduceAdd, Nat.reduceSub]))
    skip
    refine AW.ret ?_; (try simp only [thenE, inBlk, Nat.reduceEqDiff, ↓reduceIte]); rw [show cmpI a b = 1 by unfold cmpI; rw [if_neg (by omega), if_pos (by omega)]]; exact RQ.of0 rfl (.tmp (Nat.le_of_ble_eq_true rfl) rfl rfl .nil)
   ·
    (try simp only [hcS] at hc); have hc2 := hc; skip
    refine AW.skip ?_
    (refine hK _ ?_; clear hK K; (try simp only [nA, Nat.reduceBEq, Nat.reduceEqDiff, ↓reduceIte, Nat.reduceAdd, Nat.reduceSub]))
    (refine AW.seq_k ?_; intro K hK)
    refine AW.region ?_
    refine awP (op_assign rfl rfl) ?_
    refine AWL.nil ?_
    (refine hK _ ?_; clear hK K; (try simp only [nA, Nat.reduceBEq, Nat.reduceEqDiff, ↓reduceIte, Nat.reduceAdd, Nat.reduceSub]))
    skip
    refine AW.ret ?_; (try simp only [thenE, inBlk, Nat.reduceEqDiff, ↓reduceIte]); rw [show cmpI a b = 0 by unfold cmpI; rw [if_neg (by omega), if_neg (by omega)]]; exact RQ.of0 rfl (.tmp (Nat.le_of_ble_eq_true rfl) rfl rfl .nil)
theorem cmpP_1 {p q : Plate} (h : cmpI p.lead q.lead ≠ 0) : cmpP p q = cmpI p.lead q.lead := by unfold cmpP orL; simp [h]
theorem cmpP_2 {p q : Plate} (h0 : cmpI p.lead q.lead = 0) (h : cmpI p.airline q.airline ≠ 0) : cmpP p q = cmpI p.airline q.airline := by unfold cmpP orL; simp [h, h0]
theorem cmpP_3 {p q : Plate} (h0 : cmpI p.lead q.lead = 0) (h1 : cmpI p.airline q.airline = 0) : cmpP p q = cmpI p.serial q.serial := by
  unfold cmpP orL
  by_cases h : cmpI p.serial q.serial = 0 <;> simp [h, h0, h1]
theorem C68 {p q : Plate} : Fn Try.prog 68 [] [.agg p.av, .agg q.av] [.v (.int .i64 (cmpP p q))] [] := by
  refine Spec.body Try.func68 rfl Try.ntmps68 (by simp) rfl ?_; intro S0 own0 v0 w0
  (refine AW.seq_k ?_; intro K hK)
  refine AW.region ?_
  refine awJ (op_box rfl rfl rfl sz29 rfl) ?_; (try simp only [nA, Nat.reduceBEq, Nat.reduceEqDiff, ↓reduceIte, Nat.reduceAdd, Nat.reduceSub])
  refine awJ (op_box rfl rfl rfl sz29 rfl) ?_; (try simp only [nA, Nat.reduceBEq, Nat.reduceEqDiff, ↓reduceIte, Nat.reduceAdd, Nat.reduceSub])
  refine awP (op_assign rfl rfl) ?_
  refine AWL.nil ?_
  (refine hK _ ?_; clear hK K; (try simp only [nA, Nat.reduceBEq, Nat.reduceEqDiff, ↓reduceIte, Nat.reduceAdd, Nat.reduceSub]))
  (refine AW.seq_k ?_; intro K hK)
  (refine AW.seq_k ?_; intro K hK)
  refine AW.region ?_
  (first | refine awP (op_fa_ptr rfl rfl rfl fl29_0 (by exact sz3) (by decide) rfl) ?_ | refine awP (op_fa_rop rfl rfl fl29_0 (by exact sz3) (by decide) (Nat.le_of_ble_eq_true rfl) rfl) ?_)
  (first | refine awR (op_load_ptr1 rfl rfl rfl rfl ag3 rfl rfl) ?_ | refine awR (op_load_rop1 rfl rfl ag3) ?_)
  (first | refine awP (op_fa_ptr rfl rfl rfl fl29_0 (by exact sz3) (by decide) rfl) ?_ | refine awP (op_fa_rop rfl rfl fl29_0 (by exact sz3) (by decide) (Nat.le_of_ble_eq_true rfl) rfl) ?_)
  (first | refine awR (op_load_ptr1 rfl rfl rfl rfl ag3 rfl rfl) ?_ | refine awR (op_load_rop1 rfl rfl ag3) ?_)
  refine awJ (OpQ.j (op_callQ (b := true) rfl en86 (C86 (a := p.lead) (b := q.lead)) (RL.cons (by first | exact View.same rfl | exact View.nil | exact View.rof | exact View.src .ro | exact View.src .rof | exact View.src (.sl rfl rfl) | exact View.ptr rfl rfl rfl) (RL.cons (by first | exact View.same rfl | exact View.nil | exact View.rof | exact View.src .ro | exact View.src .rof | exact View.src (.sl rfl rfl) | exact View.ptr rfl rfl rfl) (RL.nil))) rfl)) ?_; (try simp only [nA, Nat.reduceBEq, Nat.reduceEqDiff, ↓reduceIte, Nat.reduceAdd, Nat.reduceSub])
  refine awP (op_assign rfl rfl) ?_
  refine AWL.nil ?_
  (refine hK _ ?_; clear hK K; (try simp only [nA, Nat.reduceBEq, Nat.reduceEqDiff, ↓reduceIte, Nat.reduceAdd, Nat.reduceSub]))
  (refine AW.seq_k ?_; intro K hK)
  refine AW.region ?_
  refine awP (op_move rfl rfl) ?_
  (first | refine awP (op_neq rfl rfl rfl) ?_ | refine awP (op_sneq rfl rfl rfl) ?_)
  refine AWL.nil ?_
  (refine hK _ ?_; clear hK K; (try simp only [nA, Nat.reduceBEq, Nat.reduceEqDiff, ↓reduceIte, Nat.reduceAdd, Nat.reduceSub]))
  refine AW.cond rfl rfl rfl (fun hc => ?_) (fun hc => ?_)
  ·
   (try simp only [hcS] at hc); have hc1 := hc; skip
   (refine AW.seq_k ?_; intro K hK)
   refine AW.region ?_
   refine awP (op_move rfl rfl) ?_
   refine awP (op_assign rfl rfl) ?_
   refine AWL.nil ?_
   (refine hK _ ?_; clear hK K; (try simp only [nA, Nat.reduceBEq, Nat.reduceEqDiff, ↓reduceIte, Nat.reduceAdd, Nat.reduceSub]))
   skip
   refine AW.ret ?_; (try simp only [thenE, inBlk, Nat.reduceEqDiff, ↓reduceIte]); rw [cmpP_1 hc1]; exact RQ.of0 rfl (.tmp (Nat.le_of_ble_eq_true rfl) rfl rfl .nil)
  ·
   (try simp only [hcS] at hc); have hc1 := hc; skip
   refine AW.skip ?_
   (refine hK _ ?_; clear hK K; (try simp only [nA, Nat.reduceBEq, Nat.reduceEqDiff, ↓reduceIte, Nat.reduceAdd, Nat.reduceSub]))
   (refine AW.seq_k ?_; intro K hK)
   (refine AW.seq_k ?_; intro K hK)
   refine AW.region ?_
   (first | refine awP (op_fa_ptr rfl rfl rfl fl29_1 (by exact sz3) (by decide) rfl) ?_ | refine awP (op_fa_rop rfl rfl fl29_1 (by exact sz3) (by decide) (Nat.le_of_ble_eq_true rfl) rfl) ?_)
   (first | refine awR (op_load_ptr1 rfl rfl rfl rfl ag3 rfl rfl) ?_ | refine awR (op_load_rop1 rfl rfl ag3) ?_)
   (first | refine awP (op_fa_ptr rfl rfl rfl fl29_1 (by exact sz3) (by decide) rfl) ?_ | refine awP (op_fa_rop rfl rfl fl29_1 (by exact sz3) (by decide) (Nat.le_of_ble_eq_true rfl) rfl) ?_)
   (first | refine awR (op_load_ptr1 rfl rfl rfl rfl ag3 rfl rfl) ?_ | refine awR (op_load_rop1 rfl rfl ag3) ?_)
   refine awJ (OpQ.j (op_callQ (b := true) rfl en86 (C86 (a := p.airline) (b := q.airline)) (RL.cons (by first | exact View.same rfl | exact View.nil | exact View.rof | exact View.src .ro | exact View.src .rof | exact View.src (.sl rfl rfl) | exact View.ptr rfl rfl rfl) (RL.cons (by first | exact View.same rfl | exact View.nil | exact View.rof | exact View.src .ro | exact View.src .rof | exact View.src (.sl rfl rfl) | exact View.ptr rfl rfl rfl) (RL.nil))) rfl)) ?_; (try simp only [nA, Nat.reduceBEq, Nat.reduceEqDiff, ↓reduceIte, Nat.reduceAdd, Nat.reduceSub])
   refine awP (op_assign rfl rfl) ?_
   refine AWL.nil ?_
   (refine hK _ ?_; clear hK K; (try simp only [nA, Nat.reduceBEq, Nat.reduceEqDiff, ↓reduceIte, Nat.reduceAdd, Nat.reduceSub]))
   (refine AW.seq_k ?_; intro K hK)
   refine AW.region ?_
   refine awP (op_move rfl rfl) ?_
   (first | refine awP (op_neq rfl rfl rfl) ?_ | refine awP (op_sneq rfl rfl rfl) ?_)
   refine AWL.nil ?_
   (refine hK _ ?_; clear hK K; (try simp only [nA, Nat.reduceBEq, Nat.reduceEqDiff, ↓reduceIte, Nat.reduceAdd, Nat.reduceSub]))
   refine AW.cond rfl rfl rfl (fun hc => ?_) (fun hc => ?_)
   ·
    (try simp only [hcS] at hc); have hc2 := hc; skip
    (refine AW.seq_k ?_; intro K hK)
    refine AW.region ?_
    refine awP (op_move rfl rfl) ?_
    refine awP (op_assign rfl rfl) ?_
    refine AWL.nil ?_
    (refine hK _ ?_; clear hK K; (try simp only [nA, Nat.reduceBEq, Nat.reduceEqDiff, ↓reduceIte, Nat.reduceAdd, Nat.reduceSub]))
    skip
    refine AW.ret ?_; (try simp only [thenE, inBlk, Nat.reduceEqDiff, ↓reduceIte]); rw [cmpP_2 hc1 hc2]; exact RQ.of0 rfl (.tmp (Nat.le_of_ble_eq_true rfl) rfl rfl .nil)
   ·
    (try simp only [hcS] at hc); have hc2 := hc; skip
    refine AW.skip ?_
    (refine hK _ ?_; clear hK K; (try simp only [nA, Nat.reduceBEq, Nat.reduceEqDiff, ↓reduceIte, Nat.reduceAdd, Nat.reduceSub]))
    (refine AW.seq_k ?_; intro K hK)
    refine AW.region ?_
    (first | refine awP (op_fa_ptr rfl rfl rfl fl29_2 (by exact sz3) (by decide) rfl) ?_ | refine awP (op_fa_rop rfl rfl fl29_2 (by exact sz3) (by decide) (Nat.le_of_ble_eq_true rfl) rfl) ?_)
    (first | refine awR (op_load_ptr1 rfl rfl rfl rfl ag3 rfl rfl) ?_ | refine awR (op_load_rop1 rfl rfl ag3) ?_)
    (first | refine awP (op_fa_ptr rfl rfl rfl fl29_2 (by exact sz3) (by decide) rfl) ?_ | refine awP (op_fa_rop rfl rfl fl29_2 (by exact sz3) (by decide) (Nat.le_of_ble_eq_true rfl) rfl) ?_)
    (first | refine awR (op_load_ptr1 rfl rfl rfl rfl ag3 rfl rfl) ?_ | refine awR (op_load_rop1 rfl rfl ag3) ?_)
    refine awJ (OpQ.j (op_callQ (b := true) rfl en86 (C86 (a := p.serial) (b := q.serial)) (RL.cons (by first | exact View.same rfl | exact View.nil | exact View.rof | exact View.src .ro | exact View.src .rof | exact View.src (.sl rfl rfl) | exact View.ptr rfl rfl rfl) (RL.cons (by first | exact View.same rfl | exact View.nil | exact View.rof | exact View.src .ro | exact View.src .rof | exact View.src (.sl rfl rfl) | exact View.ptr rfl rfl rfl) (RL.nil))) rfl)) ?_; (try simp only [nA, Nat.reduceBEq, Nat.reduceEqDiff, ↓reduceIte, Nat.reduceAdd, Nat.reduceSub])
    refine awP (op_assign rfl rfl) ?_
    refine AWL.nil ?_
    (refine hK _ ?_; clear hK K; (try simp only [nA, Nat.reduceBEq, Nat.reduceEqDiff, ↓reduceIte, Nat.reduceAdd, Nat.reduceSub]))
    skip
    refine AW.ret ?_; (try simp only [thenE, inBlk, Nat.reduceEqDiff, ↓reduceIte]); rw [cmpP_3 hc1 hc2]; exact RQ.of0 rfl (.tmp (Nat.le_of_ble_eq_true rfl) rfl rfl .nil)
def plR (p : Plate) : Bool := ((((decide (p.lead ≥ 0) && decide (p.lead ≤ 9)) && decide (p.airline ≥ 1)) && decide (p.airline ≤ 999)) && decide (p.serial ≥ 0)) && decide (p.serial ≤ 999999)
theorem plR_eq (p : Plate) : plR p = plB p := by
  unfold plR plB
  rw [show decide (p.serial ≤ 999999) = decide (p.serial < 1000000) from decide_eq_decide.2 (by omega)]
theorem C73r {p : Plate} : Fn Try.prog 73 [] [.agg p.av] [.v (.bool (plR p))] [] := by
  refine Spec.body Try.func73 rfl Try.ntmps73 (by simp) rfl ?_; intro S0 own0 v0 w0
  (refine AW.seq_k ?_; intro K hK)
  refine AW.region ?_
  refine awJ (op_box rfl rfl rfl sz29 rfl) ?_; (try simp only [nA, Nat.reduceBEq, Nat.reduceEqDiff, ↓reduceIte, Nat.reduceAdd, Nat.reduceSub])
  refine awP (op_assign rfl rfl) ?_
  refine AWL.nil ?_
  (refine hK _ ?_; clear hK K; (try simp only [nA, Nat.reduceBEq, Nat.reduceEqDiff, ↓reduceIte, Nat.reduceAdd, Nat.reduceSub]))
  (refine AW.seq_k ?_; intro K hK)
  refine AW.region (AWL.quiet ?_)
  (first | refine aqP (op_fa_ptr rfl rfl rfl fl29_0 (by exact sz3) (by decide) rfl) ?_ | refine aqP (op_fa_rop rfl rfl fl29_0 (by exact sz3) (by decide) (Nat.le_of_ble_eq_true rfl) rfl) ?_)
  (first | refine aqR (op_load_ptr1 rfl rfl rfl rfl ag3 rfl rfl) ?_ | refine aqR (op_load_rop1 rfl rfl ag3) ?_)
  refine aqP (op_geq rfl rfl rfl) ?_
  refine aqP (op_move rfl rfl) ?_
  refine' aqAnd' [_, _, _] [7,8,9] rfl rfl rfl rfl rfl rfl rfl rfl rfl rfl rfl rfl (fun hb => ?_) ?_; rotate_left
  ·
   (try simp only [hcS] at hb)
   (first | refine aqP (op_fa_ptr rfl rfl rfl fl29_0 (by exact sz3) (by decide) rfl) ?_ | refine aqP (op_fa_rop rfl rfl fl29_0 (by exact sz3) (by decide) (Nat.le_of_ble_eq_true rfl) rfl) ?_)
   (first | refine aqR (op_load_ptr1 rfl rfl rfl rfl ag3 rfl rfl) ?_ | refine aqR (op_load_rop1 rfl rfl ag3) ?_)
   refine aqP (op_leq rfl rfl rfl) ?_
   (refine aqSeg rfl rfl rfl ?_; repeat (first | exact fun _ _ => rfl | refine upd_out rfl ?_ | refine era_out rfl ?_))
  (try simp only [nA, Nat.reduceBEq, Nat.reduceEqDiff, ↓reduceIte, Nat.reduceAdd, Nat.reduceSub])
  refine aqP (op_move rfl rfl) ?_
  refine' aqAnd' [_, _, _] [12,13,14] rfl rfl rfl rfl rfl rfl rfl rfl rfl rfl rfl rfl (fun hb => ?_) ?_; rotate_left
  ·
   (try simp only [hcS] at hb)
   (first | refine aqP (op_fa_ptr rfl rfl rfl fl29_1 (by exact sz3) (by decide) rfl) ?_ | refine aqP (op_fa_rop rfl rfl fl29_1 (by exact sz3) (by decide) (Nat.le_of_ble_eq_true rfl) rfl) ?_)
   (first | refine aqR (op_load_ptr1 rfl rfl rfl rfl ag3 rfl rfl) ?_ | refine aqR (op_load_rop1 rfl rfl ag3) ?_)
   refine aqP (op_geq rfl rfl rfl) ?_
   (refine aqSeg rfl rfl rfl ?_; repeat (first | exact fun _ _ => rfl | refine upd_out rfl ?_ | refine era_out rfl ?_))
  (try simp only [nA, Nat.reduceBEq, Nat.reduceEqDiff, ↓reduceIte, Nat.reduceAdd, Nat.reduceSub])
  refine aqP (op_move rfl rfl) ?_
  refine' aqAnd' [_, _, _] [17,18,19] rfl rfl rfl rfl rfl rfl rfl rfl rfl rfl rfl rfl (fun hb => ?_) ?_; rotate_left
  ·
   (try simp only [hcS] at hb)
   (first | refine aqP (op_fa_ptr rfl rfl rfl fl29_1 (by exact sz3) (by decide) rfl) ?_ | refine aqP (op_fa_rop rfl rfl fl29_1 (by exact sz3) (by decide) (Nat.le_of_ble_eq_true rfl) rfl) ?_)
   (first | refine aqR (op_load_ptr1 rfl rfl rfl rfl ag3 rfl rfl) ?_ | refine aqR (op_load_rop1 rfl rfl ag3) ?_)
   refine aqP (op_leq rfl rfl rfl) ?_
   (refine aqSeg rfl rfl rfl ?_; repeat (first | exact fun _ _ => rfl | refine upd_out rfl ?_ | refine era_out rfl ?_))
  (try simp only [nA, Nat.reduceBEq, Nat.reduceEqDiff, ↓reduceIte, Nat.reduceAdd, Nat.reduceSub])
  refine aqP (op_move rfl rfl) ?_
  refine' aqAnd' [_, _, _] [22,23,24] rfl rfl rfl rfl rfl rfl rfl rfl rfl rfl rfl rfl (fun hb => ?_) ?_; rotate_left
  ·
   (try simp only [hcS] at hb)
   (first | refine aqP (op_fa_ptr rfl rfl rfl fl29_2 (by exact sz3) (by decide) rfl) ?_ | refine aqP (op_fa_rop rfl rfl fl29_2 (by exact sz3) (by decide) (Nat.le_of_ble_eq_true rfl) rfl) ?_)
   (first | refine aqR (op_load_ptr1 rfl rfl rfl rfl ag3 rfl rfl) ?_ | refine aqR (op_load_rop1 rfl rfl ag3) ?_)
   refine aqP (op_geq rfl rfl rfl) ?_
   (refine aqSeg rfl rfl rfl ?_; repeat (first | exact fun _ _ => rfl | refine upd_out rfl ?_ | refine era_out rfl ?_))
  (try simp only [nA, Nat.reduceBEq, Nat.reduceEqDiff, ↓reduceIte, Nat.reduceAdd, Nat.reduceSub])
  refine aqP (op_move rfl rfl) ?_
  refine' aqAnd' [_, _, _] [27,28,29] rfl rfl rfl rfl rfl rfl rfl rfl rfl rfl rfl rfl (fun hb => ?_) ?_; rotate_left
  ·
   (try simp only [hcS] at hb)
   (first | refine aqP (op_fa_ptr rfl rfl rfl fl29_2 (by exact sz3) (by decide) rfl) ?_ | refine aqP (op_fa_rop rfl rfl fl29_2 (by exact sz3) (by decide) (Nat.le_of_ble_eq_true rfl) rfl) ?_)
   (first | refine aqR (op_load_ptr1 rfl rfl rfl rfl ag3 rfl rfl) ?_ | refine aqR (op_load_rop1 rfl rfl ag3) ?_)
   refine aqP (op_leq rfl rfl rfl) ?_
   (refine aqSeg rfl rfl rfl ?_; repeat (first | exact fun _ _ => rfl | refine upd_out rfl ?_ | refine era_out rfl ?_))
  (try simp only [nA, Nat.reduceBEq, Nat.reduceEqDiff, ↓reduceIte, Nat.reduceAdd, Nat.reduceSub])
  refine aqP (op_assign rfl rfl) ?_
  refine AQ.nil ?_
  (refine hK _ ?_; clear hK K; (try simp only [nA, Nat.reduceBEq, Nat.reduceEqDiff, ↓reduceIte, Nat.reduceAdd, Nat.reduceSub]))
  skip
  refine AW.ret ?_; (try simp only [thenE, inBlk, Nat.reduceEqDiff, ↓reduceIte]); exact RQ.of0 rfl (.tmp (Nat.le_of_ble_eq_true rfl) rfl rfl .nil)
theorem C73 {p : Plate} : Fn Try.prog 73 [] [.agg p.av] [.v (.bool (plB p))] [] := by
  rw [← plR_eq]; exact C73r
def piR (p : Piece) : Bool := (((plB p.plate && decide (p.weight ≥ 1)) && decide (p.weight ≤ 999)) && decide (p.category ≥ 0)) && decide (p.category ≤ 4)
theorem piR_eq (p : Piece) : piR p = piB p := by unfold piR piB inB; simp only [Bool.and_assoc]
theorem C55r {p : Piece} : Fn Try.prog 55 [] [.agg p.av] [.v (.bool (piR p))] [] := by
  refine Spec.body Try.func55 rfl Try.ntmps55 (by simp) rfl ?_; intro S0 own0 v0 w0
  (refine AW.seq_k ?_; intro K hK)
  refine AW.region ?_
  refine awJ (op_box rfl rfl rfl sz31 rfl) ?_; (try simp only [nA, Nat.reduceBEq, Nat.reduceEqDiff, ↓reduceIte, Nat.reduceAdd, Nat.reduceSub])
  refine awP (op_assign rfl rfl) ?_
  refine AWL.nil ?_
  (refine hK _ ?_; clear hK K; (try simp only [nA, Nat.reduceBEq, Nat.reduceEqDiff, ↓reduceIte, Nat.reduceAdd, Nat.reduceSub]))
  (refine AW.seq_k ?_; intro K hK)
  refine AW.region (AWL.quiet ?_)
  (first | refine aqP (op_fa_ptr rfl rfl rfl fl31_0 (by exact sz29) (by decide) rfl) ?_ | refine aqP (op_fa_rop rfl rfl fl31_0 (by exact sz29) (by decide) (Nat.le_of_ble_eq_true rfl) rfl) ?_)
  (first | refine aqR (op_load_ptr rfl rfl rfl rfl ag29 sz29 (Nat.le_of_ble_eq_true rfl) rfl) ?_ | refine aqR (op_load_rop rfl rfl ag29 sz29 (Nat.le_of_ble_eq_true rfl) (by decide) rfl) ?_)
  refine aqQ (op_callQ (b := true) rfl en73 (C73 (p := p.plate)) (RL.cons (by first | exact View.same rfl | exact View.nil | exact View.rof | exact View.src .ro | exact View.src .rof | exact View.src (.sl rfl rfl) | exact View.ptr rfl rfl rfl) (RL.nil)) rfl) ?_; (try simp only [nA, Nat.reduceBEq, Nat.reduceEqDiff, ↓reduceIte, Nat.reduceAdd, Nat.reduceSub])
  refine aqP (op_move rfl rfl) ?_
  refine' aqAnd' [_, _, _] [7,8,9] rfl rfl rfl rfl rfl rfl rfl rfl rfl rfl rfl rfl (fun hb => ?_) ?_; rotate_left
  ·
   (try simp only [hcS] at hb)
   (first | refine aqP (op_fa_ptr rfl rfl rfl fl31_1 (by exact sz3) (by decide) rfl) ?_ | refine aqP (op_fa_rop rfl rfl fl31_1 (by exact sz3) (by decide) (Nat.le_of_ble_eq_true rfl) rfl) ?_)
   (first | refine aqR (op_load_ptr1 rfl rfl rfl rfl ag3 rfl rfl) ?_ | refine aqR (op_load_rop1 rfl rfl ag3) ?_)
   refine aqP (op_geq rfl rfl rfl) ?_
   (refine aqSeg rfl rfl rfl ?_; repeat (first | exact fun _ _ => rfl | refine upd_out rfl ?_ | refine era_out rfl ?_))
  (try simp only [nA, Nat.reduceBEq, Nat.reduceEqDiff, ↓reduceIte, Nat.reduceAdd, Nat.reduceSub])
  refine aqP (op_move rfl rfl) ?_
  refine' aqAnd' [_, _, _] [12,13,14] rfl rfl rfl rfl rfl rfl rfl rfl rfl rfl rfl rfl (fun hb => ?_) ?_; rotate_left
  ·
   (try simp only [hcS] at hb)
   (first | refine aqP (op_fa_ptr rfl rfl rfl fl31_1 (by exact sz3) (by decide) rfl) ?_ | refine aqP (op_fa_rop rfl rfl fl31_1 (by exact sz3) (by decide) (Nat.le_of_ble_eq_true rfl) rfl) ?_)
   (first | refine aqR (op_load_ptr1 rfl rfl rfl rfl ag3 rfl rfl) ?_ | refine aqR (op_load_rop1 rfl rfl ag3) ?_)
   refine aqP (op_leq rfl rfl rfl) ?_
   (refine aqSeg rfl rfl rfl ?_; repeat (first | exact fun _ _ => rfl | refine upd_out rfl ?_ | refine era_out rfl ?_))
  (try simp only [nA, Nat.reduceBEq, Nat.reduceEqDiff, ↓reduceIte, Nat.reduceAdd, Nat.reduceSub])
  refine aqP (op_move rfl rfl) ?_
  refine' aqAnd' [_, _, _] [17,18,19] rfl rfl rfl rfl rfl rfl rfl rfl rfl rfl rfl rfl (fun hb => ?_) ?_; rotate_left
  ·
   (try simp only [hcS] at hb)
   (first | refine aqP (op_fa_ptr rfl rfl rfl fl31_2 (by exact sz3) (by decide) rfl) ?_ | refine aqP (op_fa_rop rfl rfl fl31_2 (by exact sz3) (by decide) (Nat.le_of_ble_eq_true rfl) rfl) ?_)
   (first | refine aqR (op_load_ptr1 rfl rfl rfl rfl ag3 rfl rfl) ?_ | refine aqR (op_load_rop1 rfl rfl ag3) ?_)
   refine aqP (op_geq rfl rfl rfl) ?_
   (refine aqSeg rfl rfl rfl ?_; repeat (first | exact fun _ _ => rfl | refine upd_out rfl ?_ | refine era_out rfl ?_))
  (try simp only [nA, Nat.reduceBEq, Nat.reduceEqDiff, ↓reduceIte, Nat.reduceAdd, Nat.reduceSub])
  refine aqP (op_move rfl rfl) ?_
  refine' aqAnd' [_, _, _] [22,23,24] rfl rfl rfl rfl rfl rfl rfl rfl rfl rfl rfl rfl (fun hb => ?_) ?_; rotate_left
  ·
   (try simp only [hcS] at hb)
   (first | refine aqP (op_fa_ptr rfl rfl rfl fl31_2 (by exact sz3) (by decide) rfl) ?_ | refine aqP (op_fa_rop rfl rfl fl31_2 (by exact sz3) (by decide) (Nat.le_of_ble_eq_true rfl) rfl) ?_)
   (first | refine aqR (op_load_ptr1 rfl rfl rfl rfl ag3 rfl rfl) ?_ | refine aqR (op_load_rop1 rfl rfl ag3) ?_)
   refine aqP (op_leq rfl rfl rfl) ?_
   (refine aqSeg rfl rfl rfl ?_; repeat (first | exact fun _ _ => rfl | refine upd_out rfl ?_ | refine era_out rfl ?_))
  (try simp only [nA, Nat.reduceBEq, Nat.reduceEqDiff, ↓reduceIte, Nat.reduceAdd, Nat.reduceSub])
  refine aqP (op_assign rfl rfl) ?_
  refine AQ.nil ?_
  (refine hK _ ?_; clear hK K; (try simp only [nA, Nat.reduceBEq, Nat.reduceEqDiff, ↓reduceIte, Nat.reduceAdd, Nat.reduceSub]))
  skip
  refine AW.ret ?_; (try simp only [thenE, inBlk, Nat.reduceEqDiff, ↓reduceIte]); exact RQ.of0 rfl (.tmp (Nat.le_of_ble_eq_true rfl) rfl rfl .nil)
theorem C55 {p : Piece} : Fn Try.prog 55 [] [.agg p.av] [.v (.bool (piB p))] [] := by
  rw [← piR_eq]; exact C55r
def coR (c : Container) : Bool := (((((((((((decide (c.number ≥ 1) && decide (c.number ≤ 999)) && flB c.flight) && decide (c.categories ≥ 0)) && decide (c.categories < 32)) && decide (c.limit ≥ 0)) && decide (c.limit ≤ 20000)) && decide (c.most ≥ 0)) && decide (c.most ≤ 60)) && decide (c.position ≥ 0)) && decide (c.position ≤ 24)) && decide (c.arm ≥ -50)) && decide (c.arm ≤ 50)
theorem coR_eq (c : Container) : coR c = coB c := by
  unfold coR coB inB
  rw [show decide (c.categories < 32) = decide (c.categories ≤ 31) from decide_eq_decide.2 (by omega)]
  simp only [Bool.and_assoc]
theorem C87r {c : Container} : Fn Try.prog 87 [] [.agg c.av] [.v (.bool (coR c))] [] := by
  refine Spec.body Try.func87 rfl Try.ntmps87 (by simp) rfl ?_; intro S0 own0 v0 w0
  (refine AW.seq_k ?_; intro K hK)
  refine AW.region ?_
  refine awJ (op_box rfl rfl rfl sz77 rfl) ?_; (try simp only [nA, Nat.reduceBEq, Nat.reduceEqDiff, ↓reduceIte, Nat.reduceAdd, Nat.reduceSub])
  refine awP (op_assign rfl rfl) ?_
  refine AWL.nil ?_
  (refine hK _ ?_; clear hK K; (try simp only [nA, Nat.reduceBEq, Nat.reduceEqDiff, ↓reduceIte, Nat.reduceAdd, Nat.reduceSub]))
  (refine AW.seq_k ?_; intro K hK)
  refine AW.region (AWL.quiet ?_)
  (first | refine aqP (op_fa_ptr rfl rfl rfl fl77_0 (by exact sz3) (by decide) rfl) ?_ | refine aqP (op_fa_rop rfl rfl fl77_0 (by exact sz3) (by decide) (Nat.le_of_ble_eq_true rfl) rfl) ?_)
  (first | refine aqR (op_load_ptr1 rfl rfl rfl rfl ag3 rfl rfl) ?_ | refine aqR (op_load_rop1 rfl rfl ag3) ?_)
  refine aqP (op_geq rfl rfl rfl) ?_
  refine aqP (op_move rfl rfl) ?_
  refine' aqAnd' [_, _, _] [7,8,9] rfl rfl rfl rfl rfl rfl rfl rfl rfl rfl rfl rfl (fun hb => ?_) ?_; rotate_left
  ·
   (try simp only [hcS] at hb)
   (first | refine aqP (op_fa_ptr rfl rfl rfl fl77_0 (by exact sz3) (by decide) rfl) ?_ | refine aqP (op_fa_rop rfl rfl fl77_0 (by exact sz3) (by decide) (Nat.le_of_ble_eq_true rfl) rfl) ?_)
   (first | refine aqR (op_load_ptr1 rfl rfl rfl rfl ag3 rfl rfl) ?_ | refine aqR (op_load_rop1 rfl rfl ag3) ?_)
   refine aqP (op_leq rfl rfl rfl) ?_
   (refine aqSeg rfl rfl rfl ?_; repeat (first | exact fun _ _ => rfl | refine upd_out rfl ?_ | refine era_out rfl ?_))
  (try simp only [nA, Nat.reduceBEq, Nat.reduceEqDiff, ↓reduceIte, Nat.reduceAdd, Nat.reduceSub])
  refine aqP (op_move rfl rfl) ?_
  refine' aqAnd' [_, _, _] [12,13,14] rfl rfl rfl rfl rfl rfl rfl rfl rfl rfl rfl rfl (fun hb => ?_) ?_; rotate_left
  ·
   (try simp only [hcS] at hb)
   (first | refine aqP (op_fa_ptr rfl rfl rfl fl77_1 (by exact sz73) (by decide) rfl) ?_ | refine aqP (op_fa_rop rfl rfl fl77_1 (by exact sz73) (by decide) (Nat.le_of_ble_eq_true rfl) rfl) ?_)
   (first | refine aqR (op_load_ptr rfl rfl rfl rfl ag73 sz73 (Nat.le_of_ble_eq_true rfl) rfl) ?_ | refine aqR (op_load_rop rfl rfl ag73 sz73 (Nat.le_of_ble_eq_true rfl) (by decide) rfl) ?_)
   refine aqQ (op_callQ (b := true) rfl en85 (C85 (f := c.flight)) (RL.cons (by first | exact View.same rfl | exact View.nil | exact View.rof | exact View.src .ro | exact View.src .rof | exact View.src (.sl rfl rfl) | exact View.ptr rfl rfl rfl) (RL.nil)) rfl) ?_; (try simp only [nA, Nat.reduceBEq, Nat.reduceEqDiff, ↓reduceIte, Nat.reduceAdd, Nat.reduceSub])
   (refine aqSeg rfl rfl rfl ?_; repeat (first | exact fun _ _ => rfl | refine upd_out rfl ?_ | refine era_out rfl ?_))
  (try simp only [nA, Nat.reduceBEq, Nat.reduceEqDiff, ↓reduceIte, Nat.reduceAdd, Nat.reduceSub])
  refine aqP (op_move rfl rfl) ?_
  refine' aqAnd' [_, _, _] [17,18,19] rfl rfl rfl rfl rfl rfl rfl rfl rfl rfl rfl rfl (fun hb => ?_) ?_; rotate_left
  ·
   (try simp only [hcS] at hb)
   (first | refine aqP (op_fa_ptr rfl rfl rfl fl77_2 (by exact sz3) (by decide) rfl) ?_ | refine aqP (op_fa_rop rfl rfl fl77_2 (by exact sz3) (by decide) (Nat.le_of_ble_eq_true rfl) rfl) ?_)
   (first | refine aqR (op_load_ptr1 rfl rfl rfl rfl ag3 rfl rfl) ?_ | refine aqR (op_load_rop1 rfl rfl ag3) ?_)
   refine aqP (op_geq rfl rfl rfl) ?_
   (refine aqSeg rfl rfl rfl ?_; repeat (first | exact fun _ _ => rfl | refine upd_out rfl ?_ | refine era_out rfl ?_))
  (try simp only [nA, Nat.reduceBEq, Nat.reduceEqDiff, ↓reduceIte, Nat.reduceAdd, Nat.reduceSub])
  refine aqP (op_move rfl rfl) ?_
  refine' aqAnd' [_, _, _] [22,23,24] rfl rfl rfl rfl rfl rfl rfl rfl rfl rfl rfl rfl (fun hb => ?_) ?_; rotate_left
  ·
   (try simp only [hcS] at hb)
   (first | refine aqP (op_fa_ptr rfl rfl rfl fl77_2 (by exact sz3) (by decide) rfl) ?_ | refine aqP (op_fa_rop rfl rfl fl77_2 (by exact sz3) (by decide) (Nat.le_of_ble_eq_true rfl) rfl) ?_)
   (first | refine aqR (op_load_ptr1 rfl rfl rfl rfl ag3 rfl rfl) ?_ | refine aqR (op_load_rop1 rfl rfl ag3) ?_)
   refine aqP (op_lss rfl rfl rfl) ?_
   (refine aqSeg rfl rfl rfl ?_; repeat (first | exact fun _ _ => rfl | refine upd_out rfl ?_ | refine era_out rfl ?_))
  (try simp only [nA, Nat.reduceBEq, Nat.reduceEqDiff, ↓reduceIte, Nat.reduceAdd, Nat.reduceSub])
  refine aqP (op_move rfl rfl) ?_
  refine' aqAnd' [_, _, _] [27,28,29] rfl rfl rfl rfl rfl rfl rfl rfl rfl rfl rfl rfl (fun hb => ?_) ?_; rotate_left
  ·
   (try simp only [hcS] at hb)
   (first | refine aqP (op_fa_ptr rfl rfl rfl fl77_3 (by exact sz3) (by decide) rfl) ?_ | refine aqP (op_fa_rop rfl rfl fl77_3 (by exact sz3) (by decide) (Nat.le_of_ble_eq_true rfl) rfl) ?_)
   (first | refine aqR (op_load_ptr1 rfl rfl rfl rfl ag3 rfl rfl) ?_ | refine aqR (op_load_rop1 rfl rfl ag3) ?_)
   refine aqP (op_geq rfl rfl rfl) ?_
   (refine aqSeg rfl rfl rfl ?_; repeat (first | exact fun _ _ => rfl | refine upd_out rfl ?_ | refine era_out rfl ?_))
  (try simp only [nA, Nat.reduceBEq, Nat.reduceEqDiff, ↓reduceIte, Nat.reduceAdd, Nat.reduceSub])
  refine aqP (op_move rfl rfl) ?_
  refine' aqAnd' [_, _, _] [32,33,34] rfl rfl rfl rfl rfl rfl rfl rfl rfl rfl rfl rfl (fun hb => ?_) ?_; rotate_left
  ·
   (try simp only [hcS] at hb)
   (first | refine aqP (op_fa_ptr rfl rfl rfl fl77_3 (by exact sz3) (by decide) rfl) ?_ | refine aqP (op_fa_rop rfl rfl fl77_3 (by exact sz3) (by decide) (Nat.le_of_ble_eq_true rfl) rfl) ?_)
   (first | refine aqR (op_load_ptr1 rfl rfl rfl rfl ag3 rfl rfl) ?_ | refine aqR (op_load_rop1 rfl rfl ag3) ?_)
   refine aqP (op_leq rfl rfl rfl) ?_
   (refine aqSeg rfl rfl rfl ?_; repeat (first | exact fun _ _ => rfl | refine upd_out rfl ?_ | refine era_out rfl ?_))
  (try simp only [nA, Nat.reduceBEq, Nat.reduceEqDiff, ↓reduceIte, Nat.reduceAdd, Nat.reduceSub])
  refine aqP (op_move rfl rfl) ?_
  refine' aqAnd' [_, _, _] [37,38,39] rfl rfl rfl rfl rfl rfl rfl rfl rfl rfl rfl rfl (fun hb => ?_) ?_; rotate_left
  ·
   (try simp only [hcS] at hb)
   (first | refine aqP (op_fa_ptr rfl rfl rfl fl77_4 (by exact sz3) (by decide) rfl) ?_ | refine aqP (op_fa_rop rfl rfl fl77_4 (by exact sz3) (by decide) (Nat.le_of_ble_eq_true rfl) rfl) ?_)
   (first | refine aqR (op_load_ptr1 rfl rfl rfl rfl ag3 rfl rfl) ?_ | refine aqR (op_load_rop1 rfl rfl ag3) ?_)
   refine aqP (op_geq rfl rfl rfl) ?_
   (refine aqSeg rfl rfl rfl ?_; repeat (first | exact fun _ _ => rfl | refine upd_out rfl ?_ | refine era_out rfl ?_))
  (try simp only [nA, Nat.reduceBEq, Nat.reduceEqDiff, ↓reduceIte, Nat.reduceAdd, Nat.reduceSub])
  refine aqP (op_move rfl rfl) ?_
  refine' aqAnd' [_, _, _] [42,43,44] rfl rfl rfl rfl rfl rfl rfl rfl rfl rfl rfl rfl (fun hb => ?_) ?_; rotate_left
  ·
   (try simp only [hcS] at hb)
   (first | refine aqP (op_fa_ptr rfl rfl rfl fl77_4 (by exact sz3) (by decide) rfl) ?_ | refine aqP (op_fa_rop rfl rfl fl77_4 (by exact sz3) (by decide) (Nat.le_of_ble_eq_true rfl) rfl) ?_)
   (first | refine aqR (op_load_ptr1 rfl rfl rfl rfl ag3 rfl rfl) ?_ | refine aqR (op_load_rop1 rfl rfl ag3) ?_)
   refine aqP (op_leq rfl rfl rfl) ?_
   (refine aqSeg rfl rfl rfl ?_; repeat (first | exact fun _ _ => rfl | refine upd_out rfl ?_ | refine era_out rfl ?_))
  (try simp only [nA, Nat.reduceBEq, Nat.reduceEqDiff, ↓reduceIte, Nat.reduceAdd, Nat.reduceSub])
  refine aqP (op_move rfl rfl) ?_
  refine' aqAnd' [_, _, _] [47,48,49] rfl rfl rfl rfl rfl rfl rfl rfl rfl rfl rfl rfl (fun hb => ?_) ?_; rotate_left
  ·
   (try simp only [hcS] at hb)
   (first | refine aqP (op_fa_ptr rfl rfl rfl fl77_5 (by exact sz3) (by decide) rfl) ?_ | refine aqP (op_fa_rop rfl rfl fl77_5 (by exact sz3) (by decide) (Nat.le_of_ble_eq_true rfl) rfl) ?_)
   (first | refine aqR (op_load_ptr1 rfl rfl rfl rfl ag3 rfl rfl) ?_ | refine aqR (op_load_rop1 rfl rfl ag3) ?_)
   refine aqP (op_geq rfl rfl rfl) ?_
   (refine aqSeg rfl rfl rfl ?_; repeat (first | exact fun _ _ => rfl | refine upd_out rfl ?_ | refine era_out rfl ?_))
  (try simp only [nA, Nat.reduceBEq, Nat.reduceEqDiff, ↓reduceIte, Nat.reduceAdd, Nat.reduceSub])
  refine aqP (op_move rfl rfl) ?_
  refine' aqAnd' [_, _, _] [52,53,54] rfl rfl rfl rfl rfl rfl rfl rfl rfl rfl rfl rfl (fun hb => ?_) ?_; rotate_left
  ·
   (try simp only [hcS] at hb)
   (first | refine aqP (op_fa_ptr rfl rfl rfl fl77_5 (by exact sz3) (by decide) rfl) ?_ | refine aqP (op_fa_rop rfl rfl fl77_5 (by exact sz3) (by decide) (Nat.le_of_ble_eq_true rfl) rfl) ?_)
   (first | refine aqR (op_load_ptr1 rfl rfl rfl rfl ag3 rfl rfl) ?_ | refine aqR (op_load_rop1 rfl rfl ag3) ?_)
   refine aqP (op_leq rfl rfl rfl) ?_
   (refine aqSeg rfl rfl rfl ?_; repeat (first | exact fun _ _ => rfl | refine upd_out rfl ?_ | refine era_out rfl ?_))
  (try simp only [nA, Nat.reduceBEq, Nat.reduceEqDiff, ↓reduceIte, Nat.reduceAdd, Nat.reduceSub])
  refine aqP (op_move rfl rfl) ?_
  refine' aqAnd' [_, _, _] [57,58,59] rfl rfl rfl rfl rfl rfl rfl rfl rfl rfl rfl rfl (fun hb => ?_) ?_; rotate_left
  ·
   (try simp only [hcS] at hb)
   (first | refine aqP (op_fa_ptr rfl rfl rfl fl77_6 (by exact sz3) (by decide) rfl) ?_ | refine aqP (op_fa_rop rfl rfl fl77_6 (by exact sz3) (by decide) (Nat.le_of_ble_eq_true rfl) rfl) ?_)
   (first | refine aqR (op_load_ptr1 rfl rfl rfl rfl ag3 rfl rfl) ?_ | refine aqR (op_load_rop1 rfl rfl ag3) ?_)
   refine aqP (op_geq rfl rfl rfl) ?_
   (refine aqSeg rfl rfl rfl ?_; repeat (first | exact fun _ _ => rfl | refine upd_out rfl ?_ | refine era_out rfl ?_))
  (try simp only [nA, Nat.reduceBEq, Nat.reduceEqDiff, ↓reduceIte, Nat.reduceAdd, Nat.reduceSub])
  refine aqP (op_move rfl rfl) ?_
  refine' aqAnd' [_, _, _] [62,63,64] rfl rfl rfl rfl rfl rfl rfl rfl rfl rfl rfl rfl (fun hb => ?_) ?_; rotate_left
  ·
   (try simp only [hcS] at hb)
   (first | refine aqP (op_fa_ptr rfl rfl rfl fl77_6 (by exact sz3) (by decide) rfl) ?_ | refine aqP (op_fa_rop rfl rfl fl77_6 (by exact sz3) (by decide) (Nat.le_of_ble_eq_true rfl) rfl) ?_)
   (first | refine aqR (op_load_ptr1 rfl rfl rfl rfl ag3 rfl rfl) ?_ | refine aqR (op_load_rop1 rfl rfl ag3) ?_)
   refine aqP (op_leq rfl rfl rfl) ?_
   (refine aqSeg rfl rfl rfl ?_; repeat (first | exact fun _ _ => rfl | refine upd_out rfl ?_ | refine era_out rfl ?_))
  (try simp only [nA, Nat.reduceBEq, Nat.reduceEqDiff, ↓reduceIte, Nat.reduceAdd, Nat.reduceSub])
  refine aqP (op_assign rfl rfl) ?_
  refine AQ.nil ?_
  (refine hK _ ?_; clear hK K; (try simp only [nA, Nat.reduceBEq, Nat.reduceEqDiff, ↓reduceIte, Nat.reduceAdd, Nat.reduceSub]))
  skip
  refine AW.ret ?_; (try simp only [thenE, inBlk, Nat.reduceEqDiff, ↓reduceIte]); exact RQ.of0 rfl (.tmp (Nat.le_of_ble_eq_true rfl) rfl rfl .nil)
theorem C87 {c : Container} : Fn Try.prog 87 [] [.agg c.av] [.v (.bool (coB c))] [] := by
  rw [← coR_eq]; exact C87r
theorem C88 {c : Container} {p : Plate} (hcl : c.pieces.length ≤ 1000000000) : Fn Try.prog 88 [] [.agg c.av, .agg p.av] [.v (.bool (hasB c.pieces p))] [] := by
  refine Spec.body Try.func88 rfl Try.ntmps88 (by simp) rfl ?_; intro S0 own0 v0 w0
  (refine AW.seq_k ?_; intro K hK)
  refine AW.region ?_
  refine awJ (op_box rfl rfl rfl sz77 rfl) ?_; (try simp only [nA, Nat.reduceBEq, Nat.reduceEqDiff, ↓reduceIte, Nat.reduceAdd, Nat.reduceSub])
  refine awJ (op_box rfl rfl rfl sz29 rfl) ?_; (try simp only [nA, Nat.reduceBEq, Nat.reduceEqDiff, ↓reduceIte, Nat.reduceAdd, Nat.reduceSub])
  refine awP (op_assign rfl rfl) ?_
  refine AWL.nil ?_
  (refine hK _ ?_; clear hK K; (try simp only [nA, Nat.reduceBEq, Nat.reduceEqDiff, ↓reduceIte, Nat.reduceAdd, Nat.reduceSub]))
  (refine AW.seq_k ?_; intro K hK)
  (refine AW.seq_k ?_; intro K hK)
  refine AW.region ?_
  refine awP (op_assign rfl rfl) ?_
  refine AWL.nil ?_
  (refine hK _ ?_; clear hK K; (try simp only [nA, Nat.reduceBEq, Nat.reduceEqDiff, ↓reduceIte, Nat.reduceAdd, Nat.reduceSub]))
  refine AW.block ?_
  refine AW.loopI (fun (i : Nat) => [(2, .ptr 0 1 0 0), (3, .ptr 1 2 0 0), (5, .v (.int .i64 (i : Nat)))]) (fun i => ⟨[(1, .own 77 [c.av]), (2, .own 29 [p.av])], 3⟩) (fun i => i ≤ c.pieces.length ∧ ∀ k (h : k < c.pieces.length), k < i → c.pieces[k].plate ≠ p) (fun i => c.pieces.length - i) 0 (by simp) ⟨rfl, rfl, rfl, trivial⟩ rfl ?_; intro i ρ hi; simp only [updL]; (try simp only [nA, Nat.reduceBEq, Nat.reduceEqDiff, ↓reduceIte, Nat.reduceAdd, Nat.reduceSub])
  (refine AW.seq_k ?_; intro K hK)
  (refine AW.seq_k ?_; intro K hK)
  refine AW.region ?_
  refine awP (op_move rfl rfl) ?_
  (first | refine awP (op_fa_ptr rfl rfl rfl fl77_7 (by exact sz53) (by decide) rfl) ?_ | refine awP (op_fa_rop rfl rfl fl77_7 (by exact sz53) (by decide) (Nat.le_of_ble_eq_true rfl) rfl) ?_)
  (first | refine awR (op_load_ptr1 rfl rfl rfl rfl ag53 rfl rfl) ?_ | refine awR (op_load_rop1 rfl rfl ag53) ?_)
  (first | refine awP (op_len_ro rfl rfl Try.underlying53 (by first | exact .inr (.inl ⟨_, rfl, rfl⟩) | exact .inl rfl | exact .inr (.inr (.inl ⟨_, rfl, rfl⟩)) | exact .inr (.inr (.inr ⟨rfl, rfl⟩)))) ?_ | refine awP (op_len_sl rfl rfl rfl Try.underlying53) ?_ | refine awP (op_len_str rfl rfl Try.underlying53) ?_)
  refine awP (op_lss rfl rfl rfl) ?_
  refine AWL.nil ?_
  (refine hK _ ?_; clear hK K; (try simp only [nA, Nat.reduceBEq, Nat.reduceEqDiff, ↓reduceIte, Nat.reduceAdd, Nat.reduceSub]))
  refine AW.cond rfl rfl rfl (fun hc => ?_) (fun hc => ?_)
  ·
   (try simp only [hcS] at hc); have hc1 := hc; have hlt : i < c.pieces.length := (by simpa using hc1)
   refine AW.skip ?_
   (refine hK _ ?_; clear hK K; (try simp only [nA, Nat.reduceBEq, Nat.reduceEqDiff, ↓reduceIte, Nat.reduceAdd, Nat.reduceSub]))
   (refine AW.seq_k ?_; intro K hK)
   refine AW.block ?_
   (refine AW.seq_k ?_; intro K hK)
   refine AW.quiet mix (by kernel_rfl) ?_
   (first | refine aqP (op_fa_ptr rfl rfl rfl fl77_7 (by exact sz53) (by decide) rfl) ?_ | refine aqP (op_fa_rop rfl rfl fl77_7 (by exact sz53) (by decide) (Nat.le_of_ble_eq_true rfl) rfl) ?_)
   (first | refine aqR (op_load_ptr1 rfl rfl rfl rfl ag53 rfl rfl) ?_ | refine aqR (op_load_rop1 rfl rfl ag53) ?_)
   refine aqP (op_move rfl rfl) ?_
   (first | refine aqP (op_ia_ro _ rfl (.inl rfl) rfl Try.underlying53 rfl (get_map (by omega)) (by exact sz31) (Nat.le_of_ble_eq_true rfl)) ?_ | refine aqP (op_ia_sl _ _ rfl rfl rfl rfl Try.underlying53 rfl (by omega) (by exact sz31) rfl) ?_)
   (first | refine aqP (op_fa_ptr rfl rfl rfl fl31_0 (by exact sz29) (by decide) rfl) ?_ | refine aqP (op_fa_rop rfl rfl fl31_0 (by exact sz29) (by decide) (Nat.le_of_ble_eq_true rfl) rfl) ?_)
   (first | refine aqR (op_load_ptr rfl rfl rfl rfl ag29 sz29 (Nat.le_of_ble_eq_true rfl) rfl) ?_ | refine aqR (op_load_rop rfl rfl ag29 sz29 (Nat.le_of_ble_eq_true rfl) (by decide) rfl) ?_)
   (first | refine aqR (op_load_ptr rfl rfl rfl rfl ag29 sz29 (Nat.le_of_ble_eq_true rfl) rfl) ?_ | refine aqR (op_load_rop rfl rfl ag29 sz29 (Nat.le_of_ble_eq_true rfl) (by decide) rfl) ?_)
   refine aqP (op_eq29 rfl rfl rfl) ?_; (try simp only [nA, Nat.reduceBEq, Nat.reduceEqDiff, ↓reduceIte, Nat.reduceAdd, Nat.reduceSub])
   refine AQ.nil ?_
   (refine hK _ ?_; clear hK K; (try simp only [nA, Nat.reduceBEq, Nat.reduceEqDiff, ↓reduceIte, Nat.reduceAdd, Nat.reduceSub]))
   refine AW.cond rfl rfl rfl (fun hc => ?_) (fun hc => ?_)
   ·
    (try simp only [hcS] at hc); have hc2 := hc; skip
    (refine AW.seq_k ?_; intro K hK)
    refine AW.region ?_
    refine awP (op_assign rfl rfl) ?_
    refine AWL.nil ?_
    (refine hK _ ?_; clear hK K; (try simp only [nA, Nat.reduceBEq, Nat.reduceEqDiff, ↓reduceIte, Nat.reduceAdd, Nat.reduceSub]))
    skip
    refine AW.ret ?_; (try simp only [thenE, inBlk, Nat.reduceEqDiff, ↓reduceIte]); rw [show hasB c.pieces p = true by unfold hasB; rw [List.any_eq_true]; exact ⟨c.pieces[i], List.getElem_mem _, by simpa using hc2⟩]; exact RQ.of0 rfl (.tmp (Nat.le_of_ble_eq_true rfl) rfl rfl .nil)
   ·
    (try simp only [hcS] at hc); have hc2 := hc; skip
    refine AW.skip ?_
    (try simp only [thenE, inBlk, Nat.reduceEqDiff, ↓reduceIte])
    (refine hK _ ?_; clear hK K; (try simp only [nA, Nat.reduceBEq, Nat.reduceEqDiff, ↓reduceIte, Nat.reduceAdd, Nat.reduceSub]))
    refine AW.region ?_
    refine awP (op_move rfl rfl) ?_
    (first | refine awP (op_addi rfl rfl rfl (by omega)) ?_ | refine awP (op_add rfl rfl rfl rfl) ?_)
    refine awP (op_assign rfl rfl) ?_
    skip
    refine AWL.nil ?_
    refine ⟨i + 1, ⟨by omega, fun k h hk => by rcases Nat.lt_or_ge k i with h' | h'; exact hi.2 k h h'; (obtain rfl : k = i := by omega); exact hc2⟩, by omega, ⟨rfl, rfl, rfl, trivial⟩, (by first | rfl | trivial), (by first | rfl | trivial)⟩
  ·
   (try simp only [hcS] at hc); have hc1 := hc; skip
   refine AW.exit ?_; (try simp only [thenE, inBlk, Nat.reduceEqDiff, ↓reduceIte])
   clear hK K
   (refine hK _ ?_; clear hK K; (try simp only [nA, Nat.reduceBEq, Nat.reduceEqDiff, ↓reduceIte, Nat.reduceAdd, Nat.reduceSub]))
   (refine AW.seq_k ?_; intro K hK)
   refine AW.region ?_
   refine awP (op_assign rfl rfl) ?_
   refine AWL.nil ?_
   (refine hK _ ?_; clear hK K; (try simp only [nA, Nat.reduceBEq, Nat.reduceEqDiff, ↓reduceIte, Nat.reduceAdd, Nat.reduceSub]))
   skip
   refine AW.ret ?_; (try simp only [thenE, inBlk, Nat.reduceEqDiff, ↓reduceIte]); rw [show hasB c.pieces p = false by unfold hasB; rw [List.any_eq_false]; intro x hx; obtain ⟨k, hk, rfl⟩ := List.getElem_of_mem hx; have := hi.2 k hk (by simp at hc1; omega); simpa using this]; exact RQ.of0 rfl (.tmp (Nat.le_of_ble_eq_true rfl) rfl rfl .nil)
end Go.Proofs.Ytdnofpggdddimaa
namespace Go.Proofs.Ytdnofpggdddimaa
open Go.RowKit
set_option linter.unusedSimpArgs false
set_option linter.unusedVariables false
set_option maxRecDepth 100000
theorem cmpP_bd (p q : Plate) : cmpP p q = -1 ∨ cmpP p q = 0 ∨ cmpP p q = 1 := by
  rcases cmpP_cases p q with ⟨_, e⟩ | ⟨_, e⟩ | ⟨_, e⟩ <;> omega
theorem C70 {c : Container} : Fn Try.prog 70 [] [.agg c.av] [.v (.int .i64 (valC c))] [] := by
  refine Spec.body Try.func70 rfl Try.ntmps70 (by simp) rfl ?_; intro S0 own0 v0 w0
  (refine AW.seq_k ?_; intro K hK)
  refine AW.region ?_
  refine awJ (op_box rfl rfl rfl sz77 rfl) ?_; (try simp only [nA, Nat.reduceBEq, Nat.reduceEqDiff, ↓reduceIte, Nat.reduceAdd, Nat.reduceSub])
  refine awP (op_assign rfl rfl) ?_; (try simp only [nA, Nat.reduceBEq, Nat.reduceEqDiff, ↓reduceIte, Nat.reduceAdd, Nat.reduceSub])
  refine AWL.nil ?_
  (refine hK _ ?_; clear hK K; (try simp only [nA, Nat.reduceBEq, Nat.reduceEqDiff, ↓reduceIte, Nat.reduceAdd, Nat.reduceSub]))
  (refine AW.seq_k ?_; intro K hK)
  (refine AW.seq_k ?_; intro K hK)
  refine AW.region ?_
  (first | refine awR (op_load_ptr rfl rfl rfl rfl ag77 sz77 (Nat.le_of_ble_eq_true rfl) rfl) ?_ | refine awR (op_load_rop rfl rfl ag77 sz77 (Nat.le_of_ble_eq_true rfl) (by decide) rfl) ?_); (try simp only [nA, Nat.reduceBEq, Nat.reduceEqDiff, ↓reduceIte, Nat.reduceAdd, Nat.reduceSub])
  refine awJ (OpQ.j (op_callQ (b := true) rfl en87 (C87 (c := c)) (RL.cons (by first | exact View.same rfl | exact View.nil | exact View.rof | exact View.src .ro | exact View.src .rof | exact View.src (.sl rfl rfl) | exact View.ptr rfl rfl rfl) (RL.nil)) rfl)) ?_; (try simp only [nA, Nat.reduceBEq, Nat.reduceEqDiff, ↓reduceIte, Nat.reduceAdd, Nat.reduceSub])
  refine awP (op_not rfl rfl rfl) ?_; (try simp only [nA, Nat.reduceBEq, Nat.reduceEqDiff, ↓reduceIte, Nat.reduceAdd, Nat.reduceSub])
  refine AWL.nil ?_
  (refine hK _ ?_; clear hK K; (try simp only [nA, Nat.reduceBEq, Nat.reduceEqDiff, ↓reduceIte, Nat.reduceAdd, Nat.reduceSub]))
  refine AW.cond rfl rfl rfl (fun hc => ?_) (fun hc => ?_)
  ·
   (try simp only [hcS] at hc); have hc1 := hc; skip
   (refine AW.seq_k ?_; intro K hK)
   refine AW.region ?_
   refine awP (op_assign rfl rfl) ?_; (try simp only [nA, Nat.reduceBEq, Nat.reduceEqDiff, ↓reduceIte, Nat.reduceAdd, Nat.reduceSub])
   refine AWL.nil ?_
   (refine hK _ ?_; clear hK K; (try simp only [nA, Nat.reduceBEq, Nat.reduceEqDiff, ↓reduceIte, Nat.reduceAdd, Nat.reduceSub]))
   skip
   refine AW.ret ?_; (try simp only [thenE, inBlk, Nat.reduceEqDiff, ↓reduceIte]); rw [show valC c = 1 by unfold valC; rw [if_pos hc]]; exact RQ.of0 rfl (.tmp (Nat.le_of_ble_eq_true rfl) rfl rfl .nil)
  ·
   (try simp only [hcS] at hc); have hc1 := hc; skip
   refine AW.skip ?_
   (refine hK _ ?_; clear hK K; (try simp only [nA, Nat.reduceBEq, Nat.reduceEqDiff, ↓reduceIte, Nat.reduceAdd, Nat.reduceSub]))
   (refine AW.seq_k ?_; intro K hK)
   (refine AW.seq_k ?_; intro K hK)
   refine AW.region ?_
   (first | refine awP (op_fa_ptr rfl rfl rfl fl77_7 (by exact sz53) (by decide) rfl) ?_ | refine awP (op_fa_rop rfl rfl fl77_7 (by exact sz53) (by decide) (Nat.le_of_ble_eq_true rfl) rfl) ?_); (try simp only [nA, Nat.reduceBEq, Nat.reduceEqDiff, ↓reduceIte, Nat.reduceAdd, Nat.reduceSub])
   (first | refine awR (op_load_ptr1 rfl rfl rfl rfl ag53 rfl rfl) ?_ | refine awR (op_load_rop1 rfl rfl ag53) ?_); (try simp only [nA, Nat.reduceBEq, Nat.reduceEqDiff, ↓reduceIte, Nat.reduceAdd, Nat.reduceSub])
   (first | refine awP (op_len_ro rfl rfl Try.underlying53 (by first | exact .inr (.inl ⟨_, rfl, rfl⟩) | exact .inl rfl | exact .inr (.inr (.inl ⟨_, rfl, rfl⟩)) | exact .inr (.inr (.inr ⟨rfl, rfl⟩)))) ?_ | refine awP (op_len_sl rfl rfl rfl Try.underlying53) ?_ | refine awP (op_len_str rfl rfl Try.underlying53) ?_); (try simp only [nA, Nat.reduceBEq, Nat.reduceEqDiff, ↓reduceIte, Nat.reduceAdd, Nat.reduceSub])
   refine awP (op_gtr rfl rfl rfl) ?_; (try simp only [nA, Nat.reduceBEq, Nat.reduceEqDiff, ↓reduceIte, Nat.reduceAdd, Nat.reduceSub])
   refine AWL.nil ?_
   (refine hK _ ?_; clear hK K; (try simp only [nA, Nat.reduceBEq, Nat.reduceEqDiff, ↓reduceIte, Nat.reduceAdd, Nat.reduceSub]))
   refine AW.cond rfl rfl rfl (fun hc => ?_) (fun hc => ?_)
   ·
    (try simp only [hcS] at hc); have hc2 := hc; skip
    (refine AW.seq_k ?_; intro K hK)
    refine AW.region ?_
    refine awP (op_assign rfl rfl) ?_; (try simp only [nA, Nat.reduceBEq, Nat.reduceEqDiff, ↓reduceIte, Nat.reduceAdd, Nat.reduceSub])
    refine AWL.nil ?_
    (refine hK _ ?_; clear hK K; (try simp only [nA, Nat.reduceBEq, Nat.reduceEqDiff, ↓reduceIte, Nat.reduceAdd, Nat.reduceSub]))
    skip
    refine AW.ret ?_; (try simp only [thenE, inBlk, Nat.reduceEqDiff, ↓reduceIte]); rw [show valC c = 2 by unfold valC; rw [if_neg (by simp [hc1]), if_pos (by omega)]]; exact RQ.of0 rfl (.tmp (Nat.le_of_ble_eq_true rfl) rfl rfl .nil)
   ·
    (try simp only [hcS] at hc); have hc2 := hc; skip
    refine AW.skip ?_
    (refine hK _ ?_; clear hK K; (try simp only [nA, Nat.reduceBEq, Nat.reduceEqDiff, ↓reduceIte, Nat.reduceAdd, Nat.reduceSub]))
    (refine AW.seq_k ?_; intro K hK)
    (refine AW.seq_k ?_; intro K hK)
    refine AW.region ?_
    refine awP (op_assign rfl rfl) ?_; (try simp only [nA, Nat.reduceBEq, Nat.reduceEqDiff, ↓reduceIte, Nat.reduceAdd, Nat.reduceSub])
    refine AWL.nil ?_
    (refine hK _ ?_; clear hK K; (try simp only [nA, Nat.reduceBEq, Nat.reduceEqDiff, ↓reduceIte, Nat.reduceAdd, Nat.reduceSub]))
    refine AW.block ?_
    refine AW.loopI (fun (i : Nat) => [(1, .ptr 0 1 0 0), (3, .v (.int .i64 (i : Nat)))]) (fun i => ⟨[(1, .own 77 [c.av])], 2⟩) (fun i => i ≤ c.pieces.length ∧ ∀ k, k < i → errI c.pieces k = 0) (fun i => c.pieces.length - i) 0 (by simp) ⟨rfl, rfl, trivial⟩ rfl ?_; intro i ρ hi; simp only [updL]; (try simp only [nA, Nat.reduceBEq, Nat.reduceEqDiff, ↓reduceIte, Nat.reduceAdd, Nat.reduceSub])
    (refine AW.seq_k ?_; intro K hK)
    (refine AW.seq_k ?_; intro K hK)
    refine AW.region ?_
    refine awP (op_move rfl rfl) ?_; (try simp only [nA, Nat.reduceBEq, Nat.reduceEqDiff, ↓reduceIte, Nat.reduceAdd, Nat.reduceSub])
    (first | refine awP (op_fa_ptr rfl rfl rfl fl77_7 (by exact sz53) (by decide) rfl) ?_ | refine awP (op_fa_rop rfl rfl fl77_7 (by exact sz53) (by decide) (Nat.le_of_ble_eq_true rfl) rfl) ?_); (try simp only [nA, Nat.reduceBEq, Nat.reduceEqDiff, ↓reduceIte, Nat.reduceAdd, Nat.reduceSub])
    (first | refine awR (op_load_ptr1 rfl rfl rfl rfl ag53 rfl rfl) ?_ | refine awR (op_load_rop1 rfl rfl ag53) ?_); (try simp only [nA, Nat.reduceBEq, Nat.reduceEqDiff, ↓reduceIte, Nat.reduceAdd, Nat.reduceSub])
    (first | refine awP (op_len_ro rfl rfl Try.underlying53 (by first | exact .inr (.inl ⟨_, rfl, rfl⟩) | exact .inl rfl | exact .inr (.inr (.inl ⟨_, rfl, rfl⟩)) | exact .inr (.inr (.inr ⟨rfl, rfl⟩)))) ?_ | refine awP (op_len_sl rfl rfl rfl Try.underlying53) ?_ | refine awP (op_len_str rfl rfl Try.underlying53) ?_); (try simp only [nA, Nat.reduceBEq, Nat.reduceEqDiff, ↓reduceIte, Nat.reduceAdd, Nat.reduceSub])
    refine awP (op_lss rfl rfl rfl) ?_; (try simp only [nA, Nat.reduceBEq, Nat.reduceEqDiff, ↓reduceIte, Nat.reduceAdd, Nat.reduceSub])
    refine AWL.nil ?_
    (refine hK _ ?_; clear hK K; (try simp only [nA, Nat.reduceBEq, Nat.reduceEqDiff, ↓reduceIte, Nat.reduceAdd, Nat.reduceSub]))
    refine AW.cond rfl rfl rfl (fun hc => ?_) (fun hc => ?_)
    ·
     (try simp only [hcS] at hc); have hc3 := hc; have hlt : i < c.pieces.length := (by simpa using hc3)
     refine AW.skip ?_
     (refine hK _ ?_; clear hK K; (try simp only [nA, Nat.reduceBEq, Nat.reduceEqDiff, ↓reduceIte, Nat.reduceAdd, Nat.reduceSub]))
     (refine AW.seq_k ?_; intro K hK)
     refine AW.block ?_
     (refine AW.seq_k ?_; intro K hK)
     (refine AW.seq_k ?_; intro K hK)
     refine AW.region ?_
     (first | refine awP (op_fa_ptr rfl rfl rfl fl77_7 (by exact sz53) (by decide) rfl) ?_ | refine awP (op_fa_rop rfl rfl fl77_7 (by exact sz53) (by decide) (Nat.le_of_ble_eq_true rfl) rfl) ?_); (try simp only [nA, Nat.reduceBEq, Nat.reduceEqDiff, ↓reduceIte, Nat.reduceAdd, Nat.reduceSub])
     (first | refine awR (op_load_ptr1 rfl rfl rfl rfl ag53 rfl rfl) ?_ | refine awR (op_load_rop1 rfl rfl ag53) ?_); (try simp only [nA, Nat.reduceBEq, Nat.reduceEqDiff, ↓reduceIte, Nat.reduceAdd, Nat.reduceSub])
     refine awP (op_move rfl rfl) ?_; (try simp only [nA, Nat.reduceBEq, Nat.reduceEqDiff, ↓reduceIte, Nat.reduceAdd, Nat.reduceSub])
     (first | refine awP (op_ia_ro i rfl (.inl rfl) rfl Try.underlying53 rfl (get_map (by omega)) (by exact sz31) (Nat.le_of_ble_eq_true rfl)) ?_ | refine awP (op_ia_sl _ _ rfl rfl rfl rfl Try.underlying53 rfl (by omega) (by exact sz31) rfl) ?_); (try simp only [nA, Nat.reduceBEq, Nat.reduceEqDiff, ↓reduceIte, Nat.reduceAdd, Nat.reduceSub])
     (first | refine awR (op_load_ptr rfl rfl rfl rfl ag31 sz31 (Nat.le_of_ble_eq_true rfl) rfl) ?_ | refine awR (op_load_rop rfl rfl ag31 sz31 (Nat.le_of_ble_eq_true rfl) (by decide) rfl) ?_); (try simp only [nA, Nat.reduceBEq, Nat.reduceEqDiff, ↓reduceIte, Nat.reduceAdd, Nat.reduceSub])
     refine awJ (OpQ.j (op_callQ (b := true) rfl en55 (C55) (RL.cons (by first | exact View.same rfl | exact View.nil | exact View.rof | exact View.src .ro | exact View.src .rof | exact View.src (.sl rfl rfl) | exact View.ptr rfl rfl rfl) (RL.nil)) rfl)) ?_; (try simp only [nA, Nat.reduceBEq, Nat.reduceEqDiff, ↓reduceIte, Nat.reduceAdd, Nat.reduceSub])
     refine awP (op_not rfl rfl rfl) ?_; (try simp only [nA, Nat.reduceBEq, Nat.reduceEqDiff, ↓reduceIte, Nat.reduceAdd, Nat.reduceSub])
     refine AWL.nil ?_
     (refine hK _ ?_; clear hK K; (try simp only [nA, Nat.reduceBEq, Nat.reduceEqDiff, ↓reduceIte, Nat.reduceAdd, Nat.reduceSub]))
     refine AW.cond rfl rfl rfl (fun hc => ?_) (fun hc => ?_)
     ·
      (try simp only [hcS] at hc); have hc4 := hc; skip
      (refine AW.seq_k ?_; intro K hK)
      refine AW.region ?_
      refine awP (op_assign rfl rfl) ?_; (try simp only [nA, Nat.reduceBEq, Nat.reduceEqDiff, ↓reduceIte, Nat.reduceAdd, Nat.reduceSub])
      refine AWL.nil ?_
      (refine hK _ ?_; clear hK K; (try simp only [nA, Nat.reduceBEq, Nat.reduceEqDiff, ↓reduceIte, Nat.reduceAdd, Nat.reduceSub]))
      skip
      refine AW.ret ?_; (try simp only [thenE, inBlk, Nat.reduceEqDiff, ↓reduceIte]); rw [val_err (e := 1) hc1 (by omega) (i := i) (by omega) hi.2 (by rw [errI_at (by omega), if_pos hc4]) (by decide)]; exact RQ.of0 rfl (.tmp (Nat.le_of_ble_eq_true rfl) rfl rfl .nil)
     ·
      (try simp only [hcS] at hc); have hc4 := hc; skip
      refine AW.skip ?_
      (refine hK _ ?_; clear hK K; (try simp only [nA, Nat.reduceBEq, Nat.reduceEqDiff, ↓reduceIte, Nat.reduceAdd, Nat.reduceSub]))
      (refine AW.seq_k ?_; intro K hK)
      (refine AW.seq_k ?_; intro K hK)
      refine AW.region ?_
      refine awP (op_move rfl rfl) ?_; (try simp only [nA, Nat.reduceBEq, Nat.reduceEqDiff, ↓reduceIte, Nat.reduceAdd, Nat.reduceSub])
      (first | refine awP (op_eql rfl rfl rfl) ?_ | refine awP (op_seql rfl rfl rfl) ?_); (try simp only [nA, Nat.reduceBEq, Nat.reduceEqDiff, ↓reduceIte, Nat.reduceAdd, Nat.reduceSub])
      refine AWL.nil ?_
      (refine hK _ ?_; clear hK K; (try simp only [nA, Nat.reduceBEq, Nat.reduceEqDiff, ↓reduceIte, Nat.reduceAdd, Nat.reduceSub]))
      refine AW.cond rfl rfl rfl (fun hc => ?_) (fun hc => ?_)
      ·
       (try simp only [hcS] at hc); have hc5 := hc; skip
       refine AW.exit ?_; (try simp only [thenE, inBlk, Nat.reduceEqDiff, ↓reduceIte])
       clear hK K
       (refine hK _ ?_; clear hK K; (try simp only [nA, Nat.reduceBEq, Nat.reduceEqDiff, ↓reduceIte, Nat.reduceAdd, Nat.reduceSub]))
       refine AW.region ?_
       refine awP (op_move rfl rfl) ?_; (try simp only [nA, Nat.reduceBEq, Nat.reduceEqDiff, ↓reduceIte, Nat.reduceAdd, Nat.reduceSub])
       (first | refine awP (op_addi rfl rfl rfl (by omega)) ?_ | refine awP (op_add rfl rfl rfl rfl) ?_); (try simp only [nA, Nat.reduceBEq, Nat.reduceEqDiff, ↓reduceIte, Nat.reduceAdd, Nat.reduceSub])
       refine awP (op_assign rfl rfl) ?_; (try simp only [nA, Nat.reduceBEq, Nat.reduceEqDiff, ↓reduceIte, Nat.reduceAdd, Nat.reduceSub])
       skip
       refine AWL.nil ?_
       refine ⟨i + 1, ⟨by omega, all_step hi.2 (by rw [errI_at (by omega), if_neg (by simp [hc4]), if_pos (by omega)])⟩, by omega, ⟨rfl, rfl, trivial⟩, (by first | rfl | trivial), (by first | rfl | trivial)⟩
      ·
       (try simp only [hcS] at hc); have hc5 := hc; skip
       refine AW.skip ?_
       (refine hK _ ?_; clear hK K; (try simp only [nA, Nat.reduceBEq, Nat.reduceEqDiff, ↓reduceIte, Nat.reduceAdd, Nat.reduceSub]))
       (refine AW.seq_k ?_; intro K hK)
       refine AW.quiet mix (by kernel_rfl) ?_
       (first | refine aqP (op_fa_ptr rfl rfl rfl fl77_7 (by exact sz53) (by decide) rfl) ?_ | refine aqP (op_fa_rop rfl rfl fl77_7 (by exact sz53) (by decide) (Nat.le_of_ble_eq_true rfl) rfl) ?_); (try simp only [nA, Nat.reduceBEq, Nat.reduceEqDiff, ↓reduceIte, Nat.reduceAdd, Nat.reduceSub])
       (first | refine aqR (op_load_ptr1 rfl rfl rfl rfl ag53 rfl rfl) ?_ | refine aqR (op_load_rop1 rfl rfl ag53) ?_); (try simp only [nA, Nat.reduceBEq, Nat.reduceEqDiff, ↓reduceIte, Nat.reduceAdd, Nat.reduceSub])
       refine aqP (op_move rfl rfl) ?_; (try simp only [nA, Nat.reduceBEq, Nat.reduceEqDiff, ↓reduceIte, Nat.reduceAdd, Nat.reduceSub])
       (first | refine aqP (op_subi rfl rfl rfl (by omega)) ?_ | refine aqP (op_sub rfl rfl rfl rfl) ?_); (try simp only [nA, Nat.reduceBEq, Nat.reduceEqDiff, ↓reduceIte, Nat.reduceAdd, Nat.reduceSub])
       (first | refine aqP (op_ia_ro (i - 1) rfl (.inl rfl) rfl Try.underlying53 (by omega) (get_map (by omega)) (by exact sz31) (Nat.le_of_ble_eq_true rfl)) ?_ | refine aqP (op_ia_sl _ _ rfl rfl rfl rfl Try.underlying53 rfl (by omega) (by exact sz31) rfl) ?_); (try simp only [nA, Nat.reduceBEq, Nat.reduceEqDiff, ↓reduceIte, Nat.reduceAdd, Nat.reduceSub])
       (first | refine aqP (op_fa_ptr rfl rfl rfl fl31_0 (by exact sz29) (by decide) rfl) ?_ | refine aqP (op_fa_rop rfl rfl fl31_0 (by exact sz29) (by decide) (Nat.le_of_ble_eq_true rfl) rfl) ?_); (try simp only [nA, Nat.reduceBEq, Nat.reduceEqDiff, ↓reduceIte, Nat.reduceAdd, Nat.reduceSub])
       (first | refine aqR (op_load_ptr rfl rfl rfl rfl ag29 sz29 (Nat.le_of_ble_eq_true rfl) rfl) ?_ | refine aqR (op_load_rop rfl rfl ag29 sz29 (Nat.le_of_ble_eq_true rfl) (by decide) rfl) ?_); (try simp only [nA, Nat.reduceBEq, Nat.reduceEqDiff, ↓reduceIte, Nat.reduceAdd, Nat.reduceSub])
       (first | refine aqP (op_fa_ptr rfl rfl rfl fl77_7 (by exact sz53) (by decide) rfl) ?_ | refine aqP (op_fa_rop rfl rfl fl77_7 (by exact sz53) (by decide) (Nat.le_of_ble_eq_true rfl) rfl) ?_); (try simp only [nA, Nat.reduceBEq, Nat.reduceEqDiff, ↓reduceIte, Nat.reduceAdd, Nat.reduceSub])
       (first | refine aqR (op_load_ptr1 rfl rfl rfl rfl ag53 rfl rfl) ?_ | refine aqR (op_load_rop1 rfl rfl ag53) ?_); (try simp only [nA, Nat.reduceBEq, Nat.reduceEqDiff, ↓reduceIte, Nat.reduceAdd, Nat.reduceSub])
       refine aqP (op_move rfl rfl) ?_; (try simp only [nA, Nat.reduceBEq, Nat.reduceEqDiff, ↓reduceIte, Nat.reduceAdd, Nat.reduceSub])
       (first | refine aqP (op_ia_ro _ rfl (.inl rfl) rfl Try.underlying53 rfl (get_map (by omega)) (by exact sz31) (Nat.le_of_ble_eq_true rfl)) ?_ | refine aqP (op_ia_sl _ _ rfl rfl rfl rfl Try.underlying53 rfl (by omega) (by exact sz31) rfl) ?_); (try simp only [nA, Nat.reduceBEq, Nat.reduceEqDiff, ↓reduceIte, Nat.reduceAdd, Nat.reduceSub])
       (first | refine aqP (op_fa_ptr rfl rfl rfl fl31_0 (by exact sz29) (by decide) rfl) ?_ | refine aqP (op_fa_rop rfl rfl fl31_0 (by exact sz29) (by decide) (Nat.le_of_ble_eq_true rfl) rfl) ?_); (try simp only [nA, Nat.reduceBEq, Nat.reduceEqDiff, ↓reduceIte, Nat.reduceAdd, Nat.reduceSub])
       (first | refine aqR (op_load_ptr rfl rfl rfl rfl ag29 sz29 (Nat.le_of_ble_eq_true rfl) rfl) ?_ | refine aqR (op_load_rop rfl rfl ag29 sz29 (Nat.le_of_ble_eq_true rfl) (by decide) rfl) ?_); (try simp only [nA, Nat.reduceBEq, Nat.reduceEqDiff, ↓reduceIte, Nat.reduceAdd, Nat.reduceSub])
       refine aqQ (op_callQ (b := true) rfl en68 (C68) (RL.cons (by first | exact View.same rfl | exact View.nil | exact View.rof | exact View.src .ro | exact View.src .rof | exact View.src (.sl rfl rfl) | exact View.ptr rfl rfl rfl) (RL.cons (by first | exact View.same rfl | exact View.nil | exact View.rof | exact View.src .ro | exact View.src .rof | exact View.src (.sl rfl rfl) | exact View.ptr rfl rfl rfl) (RL.nil))) rfl) ?_; (try simp only [nA, Nat.reduceBEq, Nat.reduceEqDiff, ↓reduceIte, Nat.reduceAdd, Nat.reduceSub])
       refine aqP (op_assign rfl rfl) ?_; (try simp only [nA, Nat.reduceBEq, Nat.reduceEqDiff, ↓reduceIte, Nat.reduceAdd, Nat.reduceSub])
       refine AQ.nil ?_
       (refine hK _ ?_; clear hK K; (try simp only [nA, Nat.reduceBEq, Nat.reduceEqDiff, ↓reduceIte, Nat.reduceAdd, Nat.reduceSub]))
       (refine AW.seq_k ?_; intro K hK)
       refine AW.region ?_
       refine awP (op_move rfl rfl) ?_; (try simp only [nA, Nat.reduceBEq, Nat.reduceEqDiff, ↓reduceIte, Nat.reduceAdd, Nat.reduceSub])
       (first | refine awP (op_eql rfl rfl rfl) ?_ | refine awP (op_seql rfl rfl rfl) ?_); (try simp only [nA, Nat.reduceBEq, Nat.reduceEqDiff, ↓reduceIte, Nat.reduceAdd, Nat.reduceSub])
       refine AWL.nil ?_
       (refine hK _ ?_; clear hK K; (try simp only [nA, Nat.reduceBEq, Nat.reduceEqDiff, ↓reduceIte, Nat.reduceAdd, Nat.reduceSub]))
       refine AW.cond rfl rfl rfl (fun hc => ?_) (fun hc => ?_)
       ·
        (try simp only [hcS] at hc); have hc6 := hc; skip
        (refine AW.seq_k ?_; intro K hK)
        refine AW.region ?_
        refine awP (op_assign rfl rfl) ?_; (try simp only [nA, Nat.reduceBEq, Nat.reduceEqDiff, ↓reduceIte, Nat.reduceAdd, Nat.reduceSub])
        refine AWL.nil ?_
        (refine hK _ ?_; clear hK K; (try simp only [nA, Nat.reduceBEq, Nat.reduceEqDiff, ↓reduceIte, Nat.reduceAdd, Nat.reduceSub]))
        skip
        refine AW.ret ?_; (try simp only [thenE, inBlk, Nat.reduceEqDiff, ↓reduceIte]); rw [val_err (e := 5) hc1 (by omega) (i := i) (by omega) hi.2 (by rw [errI_at (by omega), if_neg (by simp [hc4]), if_neg (by omega), if_pos hc6]) (by decide)]; exact RQ.of0 rfl (.tmp (Nat.le_of_ble_eq_true rfl) rfl rfl .nil)
       ·
        (try simp only [hcS] at hc); have hc6 := hc; have hcb := cmpP_bd c.pieces[i - 1].plate c.pieces[i].plate
        (refine AW.seq_k ?_; intro K hK)
        refine AW.region ?_
        refine awP (op_move rfl rfl) ?_; (try simp only [nA, Nat.reduceBEq, Nat.reduceEqDiff, ↓reduceIte, Nat.reduceAdd, Nat.reduceSub])
        refine awP (op_gtr rfl rfl rfl) ?_; (try simp only [nA, Nat.reduceBEq, Nat.reduceEqDiff, ↓reduceIte, Nat.reduceAdd, Nat.reduceSub])
        refine AWL.nil ?_
        (refine hK _ ?_; clear hK K; (try simp only [nA, Nat.reduceBEq, Nat.reduceEqDiff, ↓reduceIte, Nat.reduceAdd, Nat.reduceSub]))
        refine AW.cond rfl rfl rfl (fun hc => ?_) (fun hc => ?_)
        ·
         (try simp only [hcS] at hc); have hc7 := hc; skip
         (refine AW.seq_k ?_; intro K hK)
         refine AW.region ?_
         refine awP (op_assign rfl rfl) ?_; (try simp only [nA, Nat.reduceBEq, Nat.reduceEqDiff, ↓reduceIte, Nat.reduceAdd, Nat.reduceSub])
         refine AWL.nil ?_
         (refine hK _ ?_; clear hK K; (try simp only [nA, Nat.reduceBEq, Nat.reduceEqDiff, ↓reduceIte, Nat.reduceAdd, Nat.reduceSub]))
         skip
         refine AW.ret ?_; (try simp only [thenE, inBlk, Nat.reduceEqDiff, ↓reduceIte]); rw [val_err (e := 9) hc1 (by omega) (i := i) (by omega) hi.2 (by rw [errI_at (by omega), if_neg (by simp [hc4]), if_neg (by omega), if_neg hc6, if_pos (by omega)]) (by decide)]; exact RQ.of0 rfl (.tmp (Nat.le_of_ble_eq_true rfl) rfl rfl .nil)
        ·
         (try simp only [hcS] at hc); have hc7 := hc; skip
         refine AW.skip ?_
         (try simp only [thenE, inBlk, Nat.reduceEqDiff, ↓reduceIte])
         (refine hK _ ?_; clear hK K; (try simp only [nA, Nat.reduceBEq, Nat.reduceEqDiff, ↓reduceIte, Nat.reduceAdd, Nat.reduceSub]))
         refine AW.region ?_
         refine awP (op_move rfl rfl) ?_; (try simp only [nA, Nat.reduceBEq, Nat.reduceEqDiff, ↓reduceIte, Nat.reduceAdd, Nat.reduceSub])
         (first | refine awP (op_addi rfl rfl rfl (by omega)) ?_ | refine awP (op_add rfl rfl rfl rfl) ?_); (try simp only [nA, Nat.reduceBEq, Nat.reduceEqDiff, ↓reduceIte, Nat.reduceAdd, Nat.reduceSub])
         refine awP (op_assign rfl rfl) ?_; (try simp only [nA, Nat.reduceBEq, Nat.reduceEqDiff, ↓reduceIte, Nat.reduceAdd, Nat.reduceSub])
         skip
         refine AWL.nil ?_
         refine ⟨i + 1, ⟨by omega, all_step hi.2 (by rw [errI_at (by omega), if_neg (by simp [hc4]), if_neg (by omega), if_neg hc6, if_neg (by omega)])⟩, by omega, ⟨rfl, rfl, trivial⟩, (by first | rfl | trivial), (by first | rfl | trivial)⟩
    ·
     (try simp only [hcS] at hc); have hc3 := hc; skip
     refine AW.exit ?_; (try simp only [thenE, inBlk, Nat.reduceEqDiff, ↓reduceIte])
     clear hK K
     (refine hK _ ?_; clear hK K; (try simp only [nA, Nat.reduceBEq, Nat.reduceEqDiff, ↓reduceIte, Nat.reduceAdd, Nat.reduceSub]))
     (refine AW.seq_k ?_; intro K hK)
     refine AW.region ?_
     refine awP (op_assign rfl rfl) ?_; (try simp only [nA, Nat.reduceBEq, Nat.reduceEqDiff, ↓reduceIte, Nat.reduceAdd, Nat.reduceSub])
     refine AWL.nil ?_
     (refine hK _ ?_; clear hK K; (try simp only [nA, Nat.reduceBEq, Nat.reduceEqDiff, ↓reduceIte, Nat.reduceAdd, Nat.reduceSub]))
     skip
     refine AW.ret ?_; (try simp only [thenE, inBlk, Nat.reduceEqDiff, ↓reduceIte]); rw [val_ok hc1 (by omega) (i := i) (by omega) hi.2]; exact RQ.of0 rfl (.tmp (Nat.le_of_ble_eq_true rfl) rfl rfl .nil)
abbrev setP (c : Container) (l : List Piece) : Container := ⟨c.number, c.flight, c.categories, c.limit, c.most, c.position, c.arm, l⟩
end Go.Proofs.Ytdnofpggdddimaa
namespace Go.Proofs.Ytdnofpggdddimaa
open Go.RowKit
set_option linter.unusedSimpArgs false
set_option linter.unusedVariables false
set_option maxRecDepth 100000
def smallB (xs : List Container) : Bool := xs.all (fun c => decide (c.pieces.length ≤ 70)) && decide ((xs.length : Int) ≤ 30)
theorem C71 {xs : List Container} {p : Plate} (hx : xs.length ≤ 1000000) (hb : ∀ c ∈ xs, c.pieces.length ≤ 1000000000) : Fn Try.prog 71 [] [.ro (xs.map Container.av), .agg p.av] [.v (.int .i64 (findL xs p).1), .v (.bool (findL xs p).2)] [] := by
  refine Spec.body Try.func71 rfl Try.ntmps71 (by simp) rfl ?_; intro S0 own0 v0 w0
  (refine AW.seq_k ?_; intro K hK)
  refine AW.region ?_
  refine awJ (op_box rfl rfl rfl sz29 rfl) ?_; (try simp only [nA, Nat.reduceBEq, Nat.reduceEqDiff, ↓reduceIte, Nat.reduceAdd, Nat.reduceSub])
  refine awP (op_assign rfl rfl) ?_
  refine awP (op_assign rfl rfl) ?_
  refine AWL.nil ?_
  (refine hK _ ?_; clear hK K; (try simp only [nA, Nat.reduceBEq, Nat.reduceEqDiff, ↓reduceIte, Nat.reduceAdd, Nat.reduceSub]))
  (refine AW.seq_k ?_; intro K hK)
  (refine AW.seq_k ?_; intro K hK)
  refine AW.region ?_
  refine awP (op_assign rfl rfl) ?_
  refine AWL.nil ?_
  (refine hK _ ?_; clear hK K; (try simp only [nA, Nat.reduceBEq, Nat.reduceEqDiff, ↓reduceIte, Nat.reduceAdd, Nat.reduceSub]))
  refine AW.block ?_
  refine AW.loopI (fun (i : Nat) => [(0, .ro (xs.map Container.av)), (3, .ptr 0 1 0 0), (6, .v (.int .i64 (i : Nat)))]) (fun _ => ⟨[(1, .own 29 [p.av])], 2⟩) (fun i => i ≤ xs.length ∧ ∀ k (h : k < xs.length), k < i → hasB xs[k].pieces p = false) (fun i => xs.length - i) 0 ⟨by simp, by simp⟩ ⟨rfl, rfl, rfl, trivial⟩ rfl ?_; intro i ρ hI; simp only [updL]; (try simp only [nA, Nat.reduceBEq, Nat.reduceEqDiff, ↓reduceIte, Nat.reduceAdd, Nat.reduceSub])
  (refine AW.seq_k ?_; intro K hK)
  (refine AW.seq_k ?_; intro K hK)
  refine AW.region ?_
  refine awP (op_move rfl rfl) ?_
  refine awP (op_move rfl rfl) ?_
  (first | refine awP (op_len_ro rfl rfl Try.underlying23 (by first | exact .inr (.inl ⟨_, rfl, rfl⟩) | exact .inl rfl | exact .inr (.inr (.inl ⟨_, rfl, rfl⟩)) | exact .inr (.inr (.inr ⟨rfl, rfl⟩)))) ?_ | refine awP (op_len_sl rfl rfl rfl Try.underlying23) ?_ | refine awP (op_len_str rfl rfl Try.underlying23) ?_)
  refine awP (op_lss rfl rfl rfl) ?_
  refine AWL.nil ?_
  (refine hK _ ?_; clear hK K; (try simp only [nA, Nat.reduceBEq, Nat.reduceEqDiff, ↓reduceIte, Nat.reduceAdd, Nat.reduceSub]))
  refine AW.cond rfl rfl rfl (fun hc => ?_) (fun hc => ?_)
  ·
   (try simp only [hcS] at hc); have hc1 := hc; have hlt : i < xs.length := (by simpa using hc1); obtain ⟨c, hci⟩ : ∃ c, xs[i]? = some c := ⟨xs[i], List.getElem?_eq_getElem hlt⟩; have hcl := hb c (List.mem_of_getElem? hci)
   refine AW.skip ?_
   (refine hK _ ?_; clear hK K; (try simp only [nA, Nat.reduceBEq, Nat.reduceEqDiff, ↓reduceIte, Nat.reduceAdd, Nat.reduceSub]))
   (refine AW.seq_k ?_; intro K hK)
   refine AW.block ?_
   (refine AW.seq_k ?_; intro K hK)
   refine AW.quiet mix (by kernel_rfl) ?_
   refine aqP (op_move rfl rfl) ?_
   refine aqP (op_move rfl rfl) ?_
   (first | refine aqP (op_ia_ro i rfl (.inl rfl) rfl Try.underlying23 rfl (get_of hci) (by exact sz77) (Nat.le_of_ble_eq_true rfl)) ?_ | refine aqP (op_ia_sl _ _ rfl rfl rfl rfl Try.underlying23 rfl (by omega) (by exact sz77) rfl) ?_)
   (first | refine aqR (op_load_ptr rfl rfl rfl rfl ag77 sz77 (Nat.le_of_ble_eq_true rfl) rfl) ?_ | refine aqR (op_load_rop rfl rfl ag77 sz77 (Nat.le_of_ble_eq_true rfl) (by decide) rfl) ?_)
   (first | refine aqR (op_load_ptr rfl rfl rfl rfl ag29 sz29 (Nat.le_of_ble_eq_true rfl) rfl) ?_ | refine aqR (op_load_rop rfl rfl ag29 sz29 (Nat.le_of_ble_eq_true rfl) (by decide) rfl) ?_)
   refine aqQ (op_callQ (b := true) rfl en88 (C88 (c := c) (p := p) hcl) (RL.cons (by first | exact View.same rfl | exact View.nil | exact View.rof | exact View.src .ro | exact View.src .rof | exact View.src (.sl rfl rfl) | exact View.ptr rfl rfl rfl) (RL.cons (by first | exact View.same rfl | exact View.nil | exact View.rof | exact View.src .ro | exact View.src .rof | exact View.src (.sl rfl rfl) | exact View.ptr rfl rfl rfl) (RL.nil))) rfl) ?_; (try simp only [nA, Nat.reduceBEq, Nat.reduceEqDiff, ↓reduceIte, Nat.reduceAdd, Nat.reduceSub])
   refine AQ.nil ?_
   (refine hK _ ?_; clear hK K; (try simp only [nA, Nat.reduceBEq, Nat.reduceEqDiff, ↓reduceIte, Nat.reduceAdd, Nat.reduceSub]))
   refine AW.cond rfl rfl rfl (fun hc => ?_) (fun hc => ?_)
   ·
    (try simp only [hcS] at hc); have hc2 := hc; skip
    (refine AW.seq_k ?_; intro K hK)
    refine AW.region ?_
    refine awP (op_move rfl rfl) ?_
    refine awP (op_move rfl rfl) ?_
    (first | refine awP (op_ia_ro i rfl (.inl rfl) rfl Try.underlying23 rfl (get_of hci) (by exact sz77) (Nat.le_of_ble_eq_true rfl)) ?_ | refine awP (op_ia_sl _ _ rfl rfl rfl rfl Try.underlying23 rfl (by omega) (by exact sz77) rfl) ?_)
    (first | refine awP (op_fa_ptr rfl rfl rfl fl77_0 (by exact sz3) (by decide) rfl) ?_ | refine awP (op_fa_rop rfl rfl fl77_0 (by exact sz3) (by decide) (Nat.le_of_ble_eq_true rfl) rfl) ?_)
    (first | refine awR (op_load_ptr1 rfl rfl rfl rfl ag3 rfl rfl) ?_ | refine awR (op_load_rop1 rfl rfl ag3) ?_)
    refine awP (op_assign rfl rfl) ?_
    refine awP (op_assign rfl rfl) ?_
    refine AWL.nil ?_
    (refine hK _ ?_; clear hK K; (try simp only [nA, Nat.reduceBEq, Nat.reduceEqDiff, ↓reduceIte, Nat.reduceAdd, Nat.reduceSub]))
    skip
    refine AW.ret ?_; (try simp only [thenE, inBlk, Nat.reduceEqDiff, ↓reduceIte]); rw [find_yes hci hI.2 hc2]; exact RQ.of0 rfl (.tmp (Nat.le_of_ble_eq_true rfl) rfl rfl (.tmp (Nat.le_of_ble_eq_true rfl) rfl rfl .nil))
   ·
    (try simp only [hcS] at hc); have hc2 := hc; skip
    refine AW.skip ?_
    (try simp only [thenE, inBlk, Nat.reduceEqDiff, ↓reduceIte])
    (refine hK _ ?_; clear hK K; (try simp only [nA, Nat.reduceBEq, Nat.reduceEqDiff, ↓reduceIte, Nat.reduceAdd, Nat.reduceSub]))
    refine AW.region ?_
    refine awP (op_move rfl rfl) ?_
    (first | refine awP (op_addi rfl rfl rfl (by omega)) ?_ | refine awP (op_add rfl rfl rfl rfl) ?_)
    refine awP (op_assign rfl rfl) ?_
    skip
    refine AWL.nil ?_
    refine ⟨i + 1, ⟨by omega, fun k h hk => by rcases Nat.lt_or_ge k i with h' | h'; exact hI.2 k h h'; (obtain rfl : k = i := by omega); (rw [(List.getElem?_eq_some_iff.1 hci).2]; exact hc2)⟩, by omega, ⟨rfl, rfl, rfl, trivial⟩, (by first | rfl | trivial), (by first | rfl | trivial)⟩
  ·
   (try simp only [hcS] at hc); have hc1 := hc; skip
   refine AW.exit ?_; (try simp only [thenE, inBlk, Nat.reduceEqDiff, ↓reduceIte])
   clear hK K
   (refine hK _ ?_; clear hK K; (try simp only [nA, Nat.reduceBEq, Nat.reduceEqDiff, ↓reduceIte, Nat.reduceAdd, Nat.reduceSub]))
   (refine AW.seq_k ?_; intro K hK)
   refine AW.region ?_
   refine awP (op_assign rfl rfl) ?_
   refine awP (op_assign rfl rfl) ?_
   refine AWL.nil ?_
   (refine hK _ ?_; clear hK K; (try simp only [nA, Nat.reduceBEq, Nat.reduceEqDiff, ↓reduceIte, Nat.reduceAdd, Nat.reduceSub]))
   skip
   refine AW.ret ?_; (try simp only [thenE, inBlk, Nat.reduceEqDiff, ↓reduceIte]); rw [find_none (xs := xs) (p := p) (fun k h => hI.2 k h (by simp at hc1; omega))]; exact RQ.of0 rfl (.tmp (Nat.le_of_ble_eq_true rfl) rfl rfl (.tmp (Nat.le_of_ble_eq_true rfl) rfl rfl .nil))
end Go.Proofs.Ytdnofpggdddimaa
namespace Go.Proofs.Ytdnofpggdddimaa
open Go.RowKit
set_option linter.unusedSimpArgs false
set_option linter.unusedVariables false
set_option maxRecDepth 100000
structure Grant where
  piece : Piece
  flight : Flight
structure Op where
  time : Int
  device : Int
  seq : Int
  kind : Int
  cont : Int
  piece : Piece
structure Hand where
  number : Int
  next : Int
  last : Int
  offline : Bool
  grants : List Grant
  conts : List Container
  log : List Op
abbrev Grant.av (g : Grant) : List AV := [.v (.int .i64 g.piece.plate.lead), .v (.int .i64 g.piece.plate.airline), .v (.int .i64 g.piece.plate.serial), .v (.int .i64 g.piece.weight), .v (.int .i64 g.piece.category), .v (.string g.flight.carrier), .v (.int .i64 g.flight.number), .v (.string g.flight.suffix), .v (.int .i64 g.flight.day)]
abbrev Op.av (o : Op) : List AV := [.v (.int .i64 o.time), .v (.int .i64 o.device), .v (.int .i64 o.seq), .v (.int .i64 o.kind), .v (.int .i64 o.cont), .v (.int .i64 o.piece.plate.lead), .v (.int .i64 o.piece.plate.airline), .v (.int .i64 o.piece.plate.serial), .v (.int .i64 o.piece.weight), .v (.int .i64 o.piece.category)]
abbrev Hand.av (h : Hand) : List AV := [.v (.int .i64 h.number), .v (.int .i64 h.next), .v (.int .i64 h.last), .v (.bool h.offline), .ro (h.grants.map Grant.av), .ro (h.conts.map Container.av), .ro (h.log.map Op.av)]
/-- The lists are small. -/
structure Hand.Sm (h : Hand) : Prop where
  g : h.grants.length ≤ 1000
  c : h.conts.length ≤ 1000
  l : h.log.length ≤ 1000
  p : ∀ c ∈ h.conts, c.pieces.length ≤ 1000
theorem C43 {n lo hi : Int} : Fn Try.prog 43 [] [.v (.int .i64 n), .v (.int .i64 lo), .v (.int .i64 hi)] [.v (.bool (inB n lo hi))] [] := by
  refine Spec.body Try.func43 rfl Try.ntmps43 (by simp) rfl ?_; intro S0 own0 v0 w0
  (refine AW.seq_k ?_; intro K hK)
  refine AW.region ?_
  refine awP (op_assign rfl rfl) ?_
  refine AWL.nil ?_
  (refine hK _ ?_; clear hK K; (try simp only [nA, Nat.reduceBEq, Nat.reduceEqDiff, ↓reduceIte, Nat.reduceAdd, Nat.reduceSub]))
  (refine AW.seq_k ?_; intro K hK)
  refine AW.region (AWL.quiet ?_)
  refine aqP (op_move rfl rfl) ?_
  refine aqP (op_move rfl rfl) ?_
  refine aqP (op_geq rfl rfl rfl) ?_
  refine aqP (op_move rfl rfl) ?_
  refine' aqAnd' [_, _, _] [11,12,13] rfl rfl rfl rfl rfl rfl rfl rfl rfl rfl rfl rfl (fun hb => ?_) ?_; rotate_left
  ·
   (try simp only [hcS] at hb)
   refine aqP (op_move rfl rfl) ?_
   refine aqP (op_move rfl rfl) ?_
   refine aqP (op_leq rfl rfl rfl) ?_
   (refine aqSeg rfl rfl rfl ?_; repeat (first | exact fun _ _ => rfl | refine upd_out rfl ?_ | refine era_out rfl ?_))
  (try simp only [nA, Nat.reduceBEq, Nat.reduceEqDiff, ↓reduceIte, Nat.reduceAdd, Nat.reduceSub])
  refine aqP (op_assign rfl rfl) ?_
  refine AQ.nil ?_
  (refine hK _ ?_; clear hK K; (try simp only [nA, Nat.reduceBEq, Nat.reduceEqDiff, ↓reduceIte, Nat.reduceAdd, Nat.reduceSub]))
  skip
  refine AW.ret ?_; (try simp only [thenE, inBlk, Nat.reduceEqDiff, ↓reduceIte]); exact RQ.of0 rfl (.tmp (Nat.le_of_ble_eq_true rfl) rfl rfl .nil)
theorem C54 {p : Piece} : Fn Try.prog 54 [] [.agg p.av] [.v (.bool (piB p))] [] := by
  refine Spec.body Try.func54 rfl Try.ntmps54 (by simp) rfl ?_; intro S0 own0 v0 w0
  (refine AW.seq_k ?_; intro K hK)
  refine AW.region ?_
  refine awJ (op_box rfl rfl rfl sz31 rfl) ?_; (try simp only [nA, Nat.reduceBEq, Nat.reduceEqDiff, ↓reduceIte, Nat.reduceAdd, Nat.reduceSub])
  refine awP (op_assign rfl rfl) ?_
  refine AWL.nil ?_
  (refine hK _ ?_; clear hK K; (try simp only [nA, Nat.reduceBEq, Nat.reduceEqDiff, ↓reduceIte, Nat.reduceAdd, Nat.reduceSub]))
  (refine AW.seq_k ?_; intro K hK)
  refine AW.region (AWL.quiet ?_)
  (first | refine aqP (op_fa_ptr rfl rfl rfl fl31_0 (by exact sz29) (by decide) rfl) ?_ | refine aqP (op_fa_rop rfl rfl fl31_0 (by exact sz29) (by decide) (Nat.le_of_ble_eq_true rfl) rfl) ?_)
  (first | refine aqR (op_load_ptr rfl rfl rfl rfl ag29 sz29 (Nat.le_of_ble_eq_true rfl) rfl) ?_ | refine aqR (op_load_rop rfl rfl ag29 sz29 (Nat.le_of_ble_eq_true rfl) (by decide) rfl) ?_)
  refine aqQ (op_callQ (b := true) rfl en72 (C72 (p := p.plate)) (RL.cons (by first | exact View.same rfl | exact View.nil | exact View.rof | exact View.src .ro | exact View.src .rof | exact View.src (.sl rfl rfl) | exact View.ptr rfl rfl rfl) (RL.nil)) rfl) ?_; (try simp only [nA, Nat.reduceBEq, Nat.reduceEqDiff, ↓reduceIte, Nat.reduceAdd, Nat.reduceSub])
  refine aqP (op_move rfl rfl) ?_
  refine' aqAnd' [_, _, _] [7,8,9] rfl rfl rfl rfl rfl rfl rfl rfl rfl rfl rfl rfl (fun hb => ?_) ?_; rotate_left
  ·
   (try simp only [hcS] at hb)
   (first | refine aqP (op_fa_ptr rfl rfl rfl fl31_1 (by exact sz3) (by decide) rfl) ?_ | refine aqP (op_fa_rop rfl rfl fl31_1 (by exact sz3) (by decide) (Nat.le_of_ble_eq_true rfl) rfl) ?_)
   (first | refine aqR (op_load_ptr1 rfl rfl rfl rfl ag3 rfl rfl) ?_ | refine aqR (op_load_rop1 rfl rfl ag3) ?_)
   refine aqQ (op_callQ (b := true) rfl en43 (C43) (RL.cons (by first | exact View.same rfl | exact View.nil | exact View.rof | exact View.src .ro | exact View.src .rof | exact View.src (.sl rfl rfl) | exact View.ptr rfl rfl rfl) (RL.cons (by first | exact View.same rfl | exact View.nil | exact View.rof | exact View.src .ro | exact View.src .rof | exact View.src (.sl rfl rfl) | exact View.ptr rfl rfl rfl) (RL.cons (by first | exact View.same rfl | exact View.nil | exact View.rof | exact View.src .ro | exact View.src .rof | exact View.src (.sl rfl rfl) | exact View.ptr rfl rfl rfl) (RL.nil)))) rfl) ?_; (try simp only [nA, Nat.reduceBEq, Nat.reduceEqDiff, ↓reduceIte, Nat.reduceAdd, Nat.reduceSub])
   (refine aqSeg rfl rfl rfl ?_; repeat (first | exact fun _ _ => rfl | refine upd_out rfl ?_ | refine era_out rfl ?_))
  (try simp only [nA, Nat.reduceBEq, Nat.reduceEqDiff, ↓reduceIte, Nat.reduceAdd, Nat.reduceSub])
  refine aqP (op_move rfl rfl) ?_
  refine' aqAnd' [_, _, _] [12,13,14] rfl rfl rfl rfl rfl rfl rfl rfl rfl rfl rfl rfl (fun hb => ?_) ?_; rotate_left
  ·
   (try simp only [hcS] at hb)
   (first | refine aqP (op_fa_ptr rfl rfl rfl fl31_2 (by exact sz3) (by decide) rfl) ?_ | refine aqP (op_fa_rop rfl rfl fl31_2 (by exact sz3) (by decide) (Nat.le_of_ble_eq_true rfl) rfl) ?_)
   (first | refine aqR (op_load_ptr1 rfl rfl rfl rfl ag3 rfl rfl) ?_ | refine aqR (op_load_rop1 rfl rfl ag3) ?_)
   refine aqQ (op_callQ (b := true) rfl en43 (C43) (RL.cons (by first | exact View.same rfl | exact View.nil | exact View.rof | exact View.src .ro | exact View.src .rof | exact View.src (.sl rfl rfl) | exact View.ptr rfl rfl rfl) (RL.cons (by first | exact View.same rfl | exact View.nil | exact View.rof | exact View.src .ro | exact View.src .rof | exact View.src (.sl rfl rfl) | exact View.ptr rfl rfl rfl) (RL.cons (by first | exact View.same rfl | exact View.nil | exact View.rof | exact View.src .ro | exact View.src .rof | exact View.src (.sl rfl rfl) | exact View.ptr rfl rfl rfl) (RL.nil)))) rfl) ?_; (try simp only [nA, Nat.reduceBEq, Nat.reduceEqDiff, ↓reduceIte, Nat.reduceAdd, Nat.reduceSub])
   (refine aqSeg rfl rfl rfl ?_; repeat (first | exact fun _ _ => rfl | refine upd_out rfl ?_ | refine era_out rfl ?_))
  (try simp only [nA, Nat.reduceBEq, Nat.reduceEqDiff, ↓reduceIte, Nat.reduceAdd, Nat.reduceSub])
  refine aqP (op_assign rfl rfl) ?_
  refine AQ.nil ?_
  (refine hK _ ?_; clear hK K; (try simp only [nA, Nat.reduceBEq, Nat.reduceEqDiff, ↓reduceIte, Nat.reduceAdd, Nat.reduceSub]))
  skip
  refine AW.ret ?_; (try simp only [thenE, inBlk, Nat.reduceEqDiff, ↓reduceIte]); exact RQ.of0 rfl (.tmp (Nat.le_of_ble_eq_true rfl) rfl rfl .nil)
def opB (o : Op) : Bool := if (!inB o.time 0 1048576 || !inB o.device 1 6) || !inB o.seq 1 1048576 then false else ((decide (o.kind = 1) || decide (o.kind = 2)) && inB o.cont 1 999) && piB o.piece
theorem C20 {o : Op} : Fn Try.prog 20 [] [.agg o.av] [.v (.bool (opB o))] [] := by
  refine Spec.body Try.func20 rfl Try.ntmps20 (by simp) rfl ?_; intro S0 own0 v0 w0
  (refine AW.seq_k ?_; intro K hK)
  refine AW.region ?_
  refine awJ (op_box rfl rfl rfl sz33 rfl) ?_; (try simp only [nA, Nat.reduceBEq, Nat.reduceEqDiff, ↓reduceIte, Nat.reduceAdd, Nat.reduceSub])
  refine awP (op_assign rfl rfl) ?_
  refine AWL.nil ?_
  (refine hK _ ?_; clear hK K; (try simp only [nA, Nat.reduceBEq, Nat.reduceEqDiff, ↓reduceIte, Nat.reduceAdd, Nat.reduceSub]))
  (refine AW.seq_k ?_; intro K hK)
  (refine AW.seq_k ?_; intro K hK)
  refine AW.region (AWL.quiet ?_)
  (first | refine aqP (op_fa_ptr rfl rfl rfl fl33_0 (by exact sz3) (by decide) rfl) ?_ | refine aqP (op_fa_rop rfl rfl fl33_0 (by exact sz3) (by decide) (Nat.le_of_ble_eq_true rfl) rfl) ?_)
  (first | refine aqR (op_load_ptr1 rfl rfl rfl rfl ag3 rfl rfl) ?_ | refine aqR (op_load_rop1 rfl rfl ag3) ?_)
  refine aqQ (op_callQ (b := true) rfl en43 (C43) (RL.cons (by first | exact View.same rfl | exact View.nil | exact View.rof | exact View.src .ro | exact View.src .rof | exact View.src (.sl rfl rfl) | exact View.ptr rfl rfl rfl) (RL.cons (by first | exact View.same rfl | exact View.nil | exact View.rof | exact View.src .ro | exact View.src .rof | exact View.src (.sl rfl rfl) | exact View.ptr rfl rfl rfl) (RL.cons (by first | exact View.same rfl | exact View.nil | exact View.rof | exact View.src .ro | exact View.src .rof | exact View.src (.sl rfl rfl) | exact View.ptr rfl rfl rfl) (RL.nil)))) rfl) ?_; (try simp only [nA, Nat.reduceBEq, Nat.reduceEqDiff, ↓reduceIte, Nat.reduceAdd, Nat.reduceSub])
  refine aqP (op_not rfl rfl rfl) ?_
  refine aqP (op_move rfl rfl) ?_
  refine' aqOr' [_, _, _, _] [8,9,10,11] rfl rfl rfl rfl rfl rfl rfl rfl rfl rfl rfl rfl (fun hb => ?_) ?_; rotate_left
  ·
   (try simp only [hcS] at hb)
   (first | refine aqP (op_fa_ptr rfl rfl rfl fl33_1 (by exact sz3) (by decide) rfl) ?_ | refine aqP (op_fa_rop rfl rfl fl33_1 (by exact sz3) (by decide) (Nat.le_of_ble_eq_true rfl) rfl) ?_)
   (first | refine aqR (op_load_ptr1 rfl rfl rfl rfl ag3 rfl rfl) ?_ | refine aqR (op_load_rop1 rfl rfl ag3) ?_)
   refine aqQ (op_callQ (b := true) rfl en43 (C43) (RL.cons (by first | exact View.same rfl | exact View.nil | exact View.rof | exact View.src .ro | exact View.src .rof | exact View.src (.sl rfl rfl) | exact View.ptr rfl rfl rfl) (RL.cons (by first | exact View.same rfl | exact View.nil | exact View.rof | exact View.src .ro | exact View.src .rof | exact View.src (.sl rfl rfl) | exact View.ptr rfl rfl rfl) (RL.cons (by first | exact View.same rfl | exact View.nil | exact View.rof | exact View.src .ro | exact View.src .rof | exact View.src (.sl rfl rfl) | exact View.ptr rfl rfl rfl) (RL.nil)))) rfl) ?_; (try simp only [nA, Nat.reduceBEq, Nat.reduceEqDiff, ↓reduceIte, Nat.reduceAdd, Nat.reduceSub])
   refine aqP (op_not rfl rfl rfl) ?_
   (refine aqSeg rfl rfl rfl ?_; repeat (first | exact fun _ _ => rfl | refine upd_out rfl ?_ | refine era_out rfl ?_))
  (try simp only [nA, Nat.reduceBEq, Nat.reduceEqDiff, ↓reduceIte, Nat.reduceAdd, Nat.reduceSub])
  refine aqP (op_move rfl rfl) ?_
  refine' aqOr' [_, _, _, _] [14,15,16,17] rfl rfl rfl rfl rfl rfl rfl rfl rfl rfl rfl rfl (fun hb => ?_) ?_; rotate_left
  ·
   (try simp only [hcS] at hb)
   (first | refine aqP (op_fa_ptr rfl rfl rfl fl33_2 (by exact sz3) (by decide) rfl) ?_ | refine aqP (op_fa_rop rfl rfl fl33_2 (by exact sz3) (by decide) (Nat.le_of_ble_eq_true rfl) rfl) ?_)
   (first | refine aqR (op_load_ptr1 rfl rfl rfl rfl ag3 rfl rfl) ?_ | refine aqR (op_load_rop1 rfl rfl ag3) ?_)
   refine aqQ (op_callQ (b := true) rfl en43 (C43) (RL.cons (by first | exact View.same rfl | exact View.nil | exact View.rof | exact View.src .ro | exact View.src .rof | exact View.src (.sl rfl rfl) | exact View.ptr rfl rfl rfl) (RL.cons (by first | exact View.same rfl | exact View.nil | exact View.rof | exact View.src .ro | exact View.src .rof | exact View.src (.sl rfl rfl) | exact View.ptr rfl rfl rfl) (RL.cons (by first | exact View.same rfl | exact View.nil | exact View.rof | exact View.src .ro | exact View.src .rof | exact View.src (.sl rfl rfl) | exact View.ptr rfl rfl rfl) (RL.nil)))) rfl) ?_; (try simp only [nA, Nat.reduceBEq, Nat.reduceEqDiff, ↓reduceIte, Nat.reduceAdd, Nat.reduceSub])
   refine aqP (op_not rfl rfl rfl) ?_
   (refine aqSeg rfl rfl rfl ?_; repeat (first | exact fun _ _ => rfl | refine upd_out rfl ?_ | refine era_out rfl ?_))
  (try simp only [nA, Nat.reduceBEq, Nat.reduceEqDiff, ↓reduceIte, Nat.reduceAdd, Nat.reduceSub])
  refine AQ.nil ?_
  (refine hK _ ?_; clear hK K; (try simp only [nA, Nat.reduceBEq, Nat.reduceEqDiff, ↓reduceIte, Nat.reduceAdd, Nat.reduceSub]))
  refine AW.cond rfl rfl rfl (fun hc => ?_) (fun hc => ?_)
  ·
   (try simp only [hcS] at hc); have hc1 := hc; skip
   (refine AW.seq_k ?_; intro K hK)
   refine AW.region ?_
   refine awP (op_assign rfl rfl) ?_
   refine AWL.nil ?_
   (refine hK _ ?_; clear hK K; (try simp only [nA, Nat.reduceBEq, Nat.reduceEqDiff, ↓reduceIte, Nat.reduceAdd, Nat.reduceSub]))
   skip
   refine AW.ret ?_; (try simp only [thenE, inBlk, Nat.reduceEqDiff, ↓reduceIte]); rw [show opB o = false by unfold opB; rw [if_pos (by simpa using hc)]]; exact RQ.of0 rfl (.tmp (Nat.le_of_ble_eq_true rfl) rfl rfl .nil)
  ·
   (try simp only [hcS] at hc); have hc1 := hc; skip
   refine AW.skip ?_
   (refine hK _ ?_; clear hK K; (try simp only [nA, Nat.reduceBEq, Nat.reduceEqDiff, ↓reduceIte, Nat.reduceAdd, Nat.reduceSub]))
   (refine AW.seq_k ?_; intro K hK)
   refine AW.region (AWL.quiet ?_)
   (first | refine aqP (op_fa_ptr rfl rfl rfl fl33_3 (by exact sz3) (by decide) rfl) ?_ | refine aqP (op_fa_rop rfl rfl fl33_3 (by exact sz3) (by decide) (Nat.le_of_ble_eq_true rfl) rfl) ?_)
   (first | refine aqR (op_load_ptr1 rfl rfl rfl rfl ag3 rfl rfl) ?_ | refine aqR (op_load_rop1 rfl rfl ag3) ?_)
   (first | refine aqP (op_eql rfl rfl rfl) ?_ | refine aqP (op_seql rfl rfl rfl) ?_)
   refine aqP (op_move rfl rfl) ?_
   refine' aqOr' [_, _, _] [23,24,25] rfl rfl rfl rfl rfl rfl rfl rfl rfl rfl rfl rfl (fun hb => ?_) ?_; rotate_left
   ·
    (try simp only [hcS] at hb)
    (first | refine aqP (op_fa_ptr rfl rfl rfl fl33_3 (by exact sz3) (by decide) rfl) ?_ | refine aqP (op_fa_rop rfl rfl fl33_3 (by exact sz3) (by decide) (Nat.le_of_ble_eq_true rfl) rfl) ?_)
    (first | refine aqR (op_load_ptr1 rfl rfl rfl rfl ag3 rfl rfl) ?_ | refine aqR (op_load_rop1 rfl rfl ag3) ?_)
    (first | refine aqP (op_eql rfl rfl rfl) ?_ | refine aqP (op_seql rfl rfl rfl) ?_)
    (refine aqSeg rfl rfl rfl ?_; repeat (first | exact fun _ _ => rfl | refine upd_out rfl ?_ | refine era_out rfl ?_))
   (try simp only [nA, Nat.reduceBEq, Nat.reduceEqDiff, ↓reduceIte, Nat.reduceAdd, Nat.reduceSub])
   refine aqP (op_move rfl rfl) ?_
   refine' aqAnd' [_, _, _] [28,29,30] rfl rfl rfl rfl rfl rfl rfl rfl rfl rfl rfl rfl (fun hb => ?_) ?_; rotate_left
   ·
    (try simp only [hcS] at hb)
    (first | refine aqP (op_fa_ptr rfl rfl rfl fl33_4 (by exact sz3) (by decide) rfl) ?_ | refine aqP (op_fa_rop rfl rfl fl33_4 (by exact sz3) (by decide) (Nat.le_of_ble_eq_true rfl) rfl) ?_)
    (first | refine aqR (op_load_ptr1 rfl rfl rfl rfl ag3 rfl rfl) ?_ | refine aqR (op_load_rop1 rfl rfl ag3) ?_)
    refine aqQ (op_callQ (b := true) rfl en43 (C43) (RL.cons (by first | exact View.same rfl | exact View.nil | exact View.rof | exact View.src .ro | exact View.src .rof | exact View.src (.sl rfl rfl) | exact View.ptr rfl rfl rfl) (RL.cons (by first | exact View.same rfl | exact View.nil | exact View.rof | exact View.src .ro | exact View.src .rof | exact View.src (.sl rfl rfl) | exact View.ptr rfl rfl rfl) (RL.cons (by first | exact View.same rfl | exact View.nil | exact View.rof | exact View.src .ro | exact View.src .rof | exact View.src (.sl rfl rfl) | exact View.ptr rfl rfl rfl) (RL.nil)))) rfl) ?_; (try simp only [nA, Nat.reduceBEq, Nat.reduceEqDiff, ↓reduceIte, Nat.reduceAdd, Nat.reduceSub])
    (refine aqSeg rfl rfl rfl ?_; repeat (first | exact fun _ _ => rfl | refine upd_out rfl ?_ | refine era_out rfl ?_))
   (try simp only [nA, Nat.reduceBEq, Nat.reduceEqDiff, ↓reduceIte, Nat.reduceAdd, Nat.reduceSub])
   refine aqP (op_move rfl rfl) ?_
   refine' aqAnd' [_, _, _] [33,34,35] rfl rfl rfl rfl rfl rfl rfl rfl rfl rfl rfl rfl (fun hb => ?_) ?_; rotate_left
   ·
    (try simp only [hcS] at hb)
    (first | refine aqP (op_fa_ptr rfl rfl rfl fl33_5 (by exact sz31) (by decide) rfl) ?_ | refine aqP (op_fa_rop rfl rfl fl33_5 (by exact sz31) (by decide) (Nat.le_of_ble_eq_true rfl) rfl) ?_)
    (first | refine aqR (op_load_ptr rfl rfl rfl rfl ag31 sz31 (Nat.le_of_ble_eq_true rfl) rfl) ?_ | refine aqR (op_load_rop rfl rfl ag31 sz31 (Nat.le_of_ble_eq_true rfl) (by decide) rfl) ?_)
    refine aqQ (op_callQ (b := true) rfl en54 (C54 (p := o.piece)) (RL.cons (by first | exact View.same rfl | exact View.nil | exact View.rof | exact View.src .ro | exact View.src .rof | exact View.src (.sl rfl rfl) | exact View.ptr rfl rfl rfl) (RL.nil)) rfl) ?_; (try simp only [nA, Nat.reduceBEq, Nat.reduceEqDiff, ↓reduceIte, Nat.reduceAdd, Nat.reduceSub])
    (refine aqSeg rfl rfl rfl ?_; repeat (first | exact fun _ _ => rfl | refine upd_out rfl ?_ | refine era_out rfl ?_))
   (try simp only [nA, Nat.reduceBEq, Nat.reduceEqDiff, ↓reduceIte, Nat.reduceAdd, Nat.reduceSub])
   refine aqP (op_assign rfl rfl) ?_
   refine AQ.nil ?_
   (refine hK _ ?_; clear hK K; (try simp only [nA, Nat.reduceBEq, Nat.reduceEqDiff, ↓reduceIte, Nat.reduceAdd, Nat.reduceSub]))
   skip
   refine AW.ret ?_; (try simp only [thenE, inBlk, Nat.reduceEqDiff, ↓reduceIte]); rw [show opB o = (((decide (o.kind = 1) || decide (o.kind = 2)) && inB o.cont 1 999) && piB o.piece) by unfold opB; rw [if_neg (by simpa using hc1)]]; exact RQ.of0 rfl (.tmp (Nat.le_of_ble_eq_true rfl) rfl rfl .nil)
def opR (o : Op) : Bool := (((((((((decide (o.time ≥ 0) && decide (o.time ≤ 1048576)) && decide (o.device ≥ 1)) && decide (o.device ≤ 6)) && decide (o.seq ≥ 1)) && decide (o.seq ≤ 1048576)) && (decide (o.kind = 1) || decide (o.kind = 2))) && decide (o.cont ≥ 1)) && decide (o.cont ≤ 999))) && piB o.piece
theorem opR_eq (o : Op) : opR o = opB o := by
  unfold opR opB inB
  generalize decide (o.time ≥ 0) = b1
  generalize decide (o.time ≤ 1048576) = b2
  generalize decide (o.device ≥ 1) = b3
  generalize decide (o.device ≤ 6) = b4
  generalize decide (o.seq ≥ 1) = b5
  generalize decide (o.seq ≤ 1048576) = b6
  cases b1 <;> cases b2 <;> cases b3 <;> cases b4 <;> cases b5 <;> cases b6 <;> simp [Bool.and_assoc]
theorem C21r {o : Op} : Fn Try.prog 21 [] [.agg o.av] [.v (.bool (opR o))] [] := by
  refine Spec.body Try.func21 rfl Try.ntmps21 (by simp) rfl ?_; intro S0 own0 v0 w0
  (refine AW.seq_k ?_; intro K hK)
  refine AW.region ?_
  refine awJ (op_box rfl rfl rfl sz33 rfl) ?_; (try simp only [nA, Nat.reduceBEq, Nat.reduceEqDiff, ↓reduceIte, Nat.reduceAdd, Nat.reduceSub])
  refine awP (op_assign rfl rfl) ?_
  refine AWL.nil ?_
  (refine hK _ ?_; clear hK K; (try simp only [nA, Nat.reduceBEq, Nat.reduceEqDiff, ↓reduceIte, Nat.reduceAdd, Nat.reduceSub]))
  (refine AW.seq_k ?_; intro K hK)
  refine AW.region (AWL.quiet ?_)
  (first | refine aqP (op_fa_ptr rfl rfl rfl fl33_0 (by exact sz3) (by decide) rfl) ?_ | refine aqP (op_fa_rop rfl rfl fl33_0 (by exact sz3) (by decide) (Nat.le_of_ble_eq_true rfl) rfl) ?_)
  (first | refine aqR (op_load_ptr1 rfl rfl rfl rfl ag3 rfl rfl) ?_ | refine aqR (op_load_rop1 rfl rfl ag3) ?_)
  refine aqP (op_geq rfl rfl rfl) ?_
  refine aqP (op_move rfl rfl) ?_
  refine' aqAnd' [_, _, _] [7,8,9] rfl rfl rfl rfl rfl rfl rfl rfl rfl rfl rfl rfl (fun hb => ?_) ?_; rotate_left
  ·
   (try simp only [hcS] at hb)
   (first | refine aqP (op_fa_ptr rfl rfl rfl fl33_0 (by exact sz3) (by decide) rfl) ?_ | refine aqP (op_fa_rop rfl rfl fl33_0 (by exact sz3) (by decide) (Nat.le_of_ble_eq_true rfl) rfl) ?_)
   (first | refine aqR (op_load_ptr1 rfl rfl rfl rfl ag3 rfl rfl) ?_ | refine aqR (op_load_rop1 rfl rfl ag3) ?_)
   refine aqP (op_leq rfl rfl rfl) ?_
   (refine aqSeg rfl rfl rfl ?_; repeat (first | exact fun _ _ => rfl | refine upd_out rfl ?_ | refine era_out rfl ?_))
  (try simp only [nA, Nat.reduceBEq, Nat.reduceEqDiff, ↓reduceIte, Nat.reduceAdd, Nat.reduceSub])
  refine aqP (op_move rfl rfl) ?_
  refine' aqAnd' [_, _, _] [12,13,14] rfl rfl rfl rfl rfl rfl rfl rfl rfl rfl rfl rfl (fun hb => ?_) ?_; rotate_left
  ·
   (try simp only [hcS] at hb)
   (first | refine aqP (op_fa_ptr rfl rfl rfl fl33_1 (by exact sz3) (by decide) rfl) ?_ | refine aqP (op_fa_rop rfl rfl fl33_1 (by exact sz3) (by decide) (Nat.le_of_ble_eq_true rfl) rfl) ?_)
   (first | refine aqR (op_load_ptr1 rfl rfl rfl rfl ag3 rfl rfl) ?_ | refine aqR (op_load_rop1 rfl rfl ag3) ?_)
   refine aqP (op_geq rfl rfl rfl) ?_
   (refine aqSeg rfl rfl rfl ?_; repeat (first | exact fun _ _ => rfl | refine upd_out rfl ?_ | refine era_out rfl ?_))
  (try simp only [nA, Nat.reduceBEq, Nat.reduceEqDiff, ↓reduceIte, Nat.reduceAdd, Nat.reduceSub])
  refine aqP (op_move rfl rfl) ?_
  refine' aqAnd' [_, _, _] [17,18,19] rfl rfl rfl rfl rfl rfl rfl rfl rfl rfl rfl rfl (fun hb => ?_) ?_; rotate_left
  ·
   (try simp only [hcS] at hb)
   (first | refine aqP (op_fa_ptr rfl rfl rfl fl33_1 (by exact sz3) (by decide) rfl) ?_ | refine aqP (op_fa_rop rfl rfl fl33_1 (by exact sz3) (by decide) (Nat.le_of_ble_eq_true rfl) rfl) ?_)
   (first | refine aqR (op_load_ptr1 rfl rfl rfl rfl ag3 rfl rfl) ?_ | refine aqR (op_load_rop1 rfl rfl ag3) ?_)
   refine aqP (op_leq rfl rfl rfl) ?_
   (refine aqSeg rfl rfl rfl ?_; repeat (first | exact fun _ _ => rfl | refine upd_out rfl ?_ | refine era_out rfl ?_))
  (try simp only [nA, Nat.reduceBEq, Nat.reduceEqDiff, ↓reduceIte, Nat.reduceAdd, Nat.reduceSub])
  refine aqP (op_move rfl rfl) ?_
  refine' aqAnd' [_, _, _] [22,23,24] rfl rfl rfl rfl rfl rfl rfl rfl rfl rfl rfl rfl (fun hb => ?_) ?_; rotate_left
  ·
   (try simp only [hcS] at hb)
   (first | refine aqP (op_fa_ptr rfl rfl rfl fl33_2 (by exact sz3) (by decide) rfl) ?_ | refine aqP (op_fa_rop rfl rfl fl33_2 (by exact sz3) (by decide) (Nat.le_of_ble_eq_true rfl) rfl) ?_)
   (first | refine aqR (op_load_ptr1 rfl rfl rfl rfl ag3 rfl rfl) ?_ | refine aqR (op_load_rop1 rfl rfl ag3) ?_)
   refine aqP (op_geq rfl rfl rfl) ?_
   (refine aqSeg rfl rfl rfl ?_; repeat (first | exact fun _ _ => rfl | refine upd_out rfl ?_ | refine era_out rfl ?_))
  (try simp only [nA, Nat.reduceBEq, Nat.reduceEqDiff, ↓reduceIte, Nat.reduceAdd, Nat.reduceSub])
  refine aqP (op_move rfl rfl) ?_
  refine' aqAnd' [_, _, _] [27,28,29] rfl rfl rfl rfl rfl rfl rfl rfl rfl rfl rfl rfl (fun hb => ?_) ?_; rotate_left
  ·
   (try simp only [hcS] at hb)
   (first | refine aqP (op_fa_ptr rfl rfl rfl fl33_2 (by exact sz3) (by decide) rfl) ?_ | refine aqP (op_fa_rop rfl rfl fl33_2 (by exact sz3) (by decide) (Nat.le_of_ble_eq_true rfl) rfl) ?_)
   (first | refine aqR (op_load_ptr1 rfl rfl rfl rfl ag3 rfl rfl) ?_ | refine aqR (op_load_rop1 rfl rfl ag3) ?_)
   refine aqP (op_leq rfl rfl rfl) ?_
   (refine aqSeg rfl rfl rfl ?_; repeat (first | exact fun _ _ => rfl | refine upd_out rfl ?_ | refine era_out rfl ?_))
  (try simp only [nA, Nat.reduceBEq, Nat.reduceEqDiff, ↓reduceIte, Nat.reduceAdd, Nat.reduceSub])
  refine aqP (op_move rfl rfl) ?_
  refine' aqAndN' [_, _, _, _, _, _, _, _] [32,33,34,35,36,37,38,39] rfl rfl rfl rfl rfl rfl rfl rfl rfl rfl rfl rfl (fun hb => ?_) ?_; rotate_left
  ·
   (try simp only [hcS] at hb)
   (first | refine aqP (op_fa_ptr rfl rfl rfl fl33_3 (by exact sz3) (by decide) rfl) ?_ | refine aqP (op_fa_rop rfl rfl fl33_3 (by exact sz3) (by decide) (Nat.le_of_ble_eq_true rfl) rfl) ?_)
   (first | refine aqR (op_load_ptr1 rfl rfl rfl rfl ag3 rfl rfl) ?_ | refine aqR (op_load_rop1 rfl rfl ag3) ?_)
   (first | refine aqP (op_eql rfl rfl rfl) ?_ | refine aqP (op_seql rfl rfl rfl) ?_)
   refine aqP (op_move rfl rfl) ?_
   refine' aqOr' [_, _, _] [36,37,38] rfl rfl rfl rfl rfl rfl rfl rfl rfl rfl rfl rfl (fun hb => ?_) ?_; rotate_left
   ·
    (try simp only [hcS] at hb)
    (first | refine aqP (op_fa_ptr rfl rfl rfl fl33_3 (by exact sz3) (by decide) rfl) ?_ | refine aqP (op_fa_rop rfl rfl fl33_3 (by exact sz3) (by decide) (Nat.le_of_ble_eq_true rfl) rfl) ?_)
    (first | refine aqR (op_load_ptr1 rfl rfl rfl rfl ag3 rfl rfl) ?_ | refine aqR (op_load_rop1 rfl rfl ag3) ?_)
    (first | refine aqP (op_eql rfl rfl rfl) ?_ | refine aqP (op_seql rfl rfl rfl) ?_)
    (refine aqSeg rfl rfl rfl ?_; repeat (first | exact fun _ _ => rfl | refine upd_out rfl ?_ | refine era_out rfl ?_))
   (try simp only [nA, Nat.reduceBEq, Nat.reduceEqDiff, ↓reduceIte, Nat.reduceAdd, Nat.reduceSub])
   (refine aqSeg rfl rfl rfl ?_; repeat (first | exact fun _ _ => rfl | refine upd_out rfl ?_ | refine era_out rfl ?_))
  (try simp only [nA, Nat.reduceBEq, Nat.reduceEqDiff, ↓reduceIte, Nat.reduceAdd, Nat.reduceSub])
  refine aqP (op_move rfl rfl) ?_
  refine' aqAnd' [_, _, _] [42,43,44] rfl rfl rfl rfl rfl rfl rfl rfl rfl rfl rfl rfl (fun hb => ?_) ?_; rotate_left
  ·
   (try simp only [hcS] at hb)
   (first | refine aqP (op_fa_ptr rfl rfl rfl fl33_4 (by exact sz3) (by decide) rfl) ?_ | refine aqP (op_fa_rop rfl rfl fl33_4 (by exact sz3) (by decide) (Nat.le_of_ble_eq_true rfl) rfl) ?_)
   (first | refine aqR (op_load_ptr1 rfl rfl rfl rfl ag3 rfl rfl) ?_ | refine aqR (op_load_rop1 rfl rfl ag3) ?_)
   refine aqP (op_geq rfl rfl rfl) ?_
   (refine aqSeg rfl rfl rfl ?_; repeat (first | exact fun _ _ => rfl | refine upd_out rfl ?_ | refine era_out rfl ?_))
  (try simp only [nA, Nat.reduceBEq, Nat.reduceEqDiff, ↓reduceIte, Nat.reduceAdd, Nat.reduceSub])
  refine aqP (op_move rfl rfl) ?_
  refine' aqAnd' [_, _, _] [47,48,49] rfl rfl rfl rfl rfl rfl rfl rfl rfl rfl rfl rfl (fun hb => ?_) ?_; rotate_left
  ·
   (try simp only [hcS] at hb)
   (first | refine aqP (op_fa_ptr rfl rfl rfl fl33_4 (by exact sz3) (by decide) rfl) ?_ | refine aqP (op_fa_rop rfl rfl fl33_4 (by exact sz3) (by decide) (Nat.le_of_ble_eq_true rfl) rfl) ?_)
   (first | refine aqR (op_load_ptr1 rfl rfl rfl rfl ag3 rfl rfl) ?_ | refine aqR (op_load_rop1 rfl rfl ag3) ?_)
   refine aqP (op_leq rfl rfl rfl) ?_
   (refine aqSeg rfl rfl rfl ?_; repeat (first | exact fun _ _ => rfl | refine upd_out rfl ?_ | refine era_out rfl ?_))
  (try simp only [nA, Nat.reduceBEq, Nat.reduceEqDiff, ↓reduceIte, Nat.reduceAdd, Nat.reduceSub])
  refine aqP (op_move rfl rfl) ?_
  refine' aqAnd' [_, _, _] [52,53,54] rfl rfl rfl rfl rfl rfl rfl rfl rfl rfl rfl rfl (fun hb => ?_) ?_; rotate_left
  ·
   (try simp only [hcS] at hb)
   (first | refine aqP (op_fa_ptr rfl rfl rfl fl33_5 (by exact sz31) (by decide) rfl) ?_ | refine aqP (op_fa_rop rfl rfl fl33_5 (by exact sz31) (by decide) (Nat.le_of_ble_eq_true rfl) rfl) ?_)
   (first | refine aqR (op_load_ptr rfl rfl rfl rfl ag31 sz31 (Nat.le_of_ble_eq_true rfl) rfl) ?_ | refine aqR (op_load_rop rfl rfl ag31 sz31 (Nat.le_of_ble_eq_true rfl) (by decide) rfl) ?_)
   refine aqQ (op_callQ (b := true) rfl en55 (C55 (p := o.piece)) (RL.cons (by first | exact View.same rfl | exact View.nil | exact View.rof | exact View.src .ro | exact View.src .rof | exact View.src (.sl rfl rfl) | exact View.ptr rfl rfl rfl) (RL.nil)) rfl) ?_; (try simp only [nA, Nat.reduceBEq, Nat.reduceEqDiff, ↓reduceIte, Nat.reduceAdd, Nat.reduceSub])
   (refine aqSeg rfl rfl rfl ?_; repeat (first | exact fun _ _ => rfl | refine upd_out rfl ?_ | refine era_out rfl ?_))
  (try simp only [nA, Nat.reduceBEq, Nat.reduceEqDiff, ↓reduceIte, Nat.reduceAdd, Nat.reduceSub])
  refine aqP (op_assign rfl rfl) ?_
  refine AQ.nil ?_
  (refine hK _ ?_; clear hK K; (try simp only [nA, Nat.reduceBEq, Nat.reduceEqDiff, ↓reduceIte, Nat.reduceAdd, Nat.reduceSub]))
  skip
  refine AW.ret ?_; (try simp only [thenE, inBlk, Nat.reduceEqDiff, ↓reduceIte]); exact RQ.of0 rfl (.tmp (Nat.le_of_ble_eq_true rfl) rfl rfl .nil)
theorem C21 {o : Op} : Fn Try.prog 21 [] [.agg o.av] [.v (.bool (opB o))] [] := by
  rw [← opR_eq]; exact C21r
def grB (g : Grant) : Bool := piB g.piece && flB g.flight
theorem C62 {g : Grant} : Fn Try.prog 62 [] [.agg g.av] [.v (.bool (grB g))] [] := by
  refine Spec.body Try.func62 rfl Try.ntmps62 (by simp) rfl ?_; intro S0 own0 v0 w0
  (refine AW.seq_k ?_; intro K hK)
  refine AW.region ?_
  refine awJ (op_box rfl rfl rfl sz75 rfl) ?_; (try simp only [nA, Nat.reduceBEq, Nat.reduceEqDiff, ↓reduceIte, Nat.reduceAdd, Nat.reduceSub])
  refine awP (op_assign rfl rfl) ?_
  refine AWL.nil ?_
  (refine hK _ ?_; clear hK K; (try simp only [nA, Nat.reduceBEq, Nat.reduceEqDiff, ↓reduceIte, Nat.reduceAdd, Nat.reduceSub]))
  (refine AW.seq_k ?_; intro K hK)
  refine AW.region (AWL.quiet ?_)
  (first | refine aqP (op_fa_ptr rfl rfl rfl fl75_0 (by exact sz31) (by decide) rfl) ?_ | refine aqP (op_fa_rop rfl rfl fl75_0 (by exact sz31) (by decide) (Nat.le_of_ble_eq_true rfl) rfl) ?_)
  (first | refine aqR (op_load_ptr rfl rfl rfl rfl ag31 sz31 (Nat.le_of_ble_eq_true rfl) rfl) ?_ | refine aqR (op_load_rop rfl rfl ag31 sz31 (Nat.le_of_ble_eq_true rfl) (by decide) rfl) ?_)
  refine aqQ (op_callQ (b := true) rfl en54 (C54 (p := g.piece)) (RL.cons (by first | exact View.same rfl | exact View.nil | exact View.rof | exact View.src .ro | exact View.src .rof | exact View.src (.sl rfl rfl) | exact View.ptr rfl rfl rfl) (RL.nil)) rfl) ?_; (try simp only [nA, Nat.reduceBEq, Nat.reduceEqDiff, ↓reduceIte, Nat.reduceAdd, Nat.reduceSub])
  refine aqP (op_move rfl rfl) ?_
  refine' aqAnd' [_, _, _] [7,8,9] rfl rfl rfl rfl rfl rfl rfl rfl rfl rfl rfl rfl (fun hb => ?_) ?_; rotate_left
  ·
   (try simp only [hcS] at hb)
   (first | refine aqP (op_fa_ptr rfl rfl rfl fl75_1 (by exact sz73) (by decide) rfl) ?_ | refine aqP (op_fa_rop rfl rfl fl75_1 (by exact sz73) (by decide) (Nat.le_of_ble_eq_true rfl) rfl) ?_)
   (first | refine aqR (op_load_ptr rfl rfl rfl rfl ag73 sz73 (Nat.le_of_ble_eq_true rfl) rfl) ?_ | refine aqR (op_load_rop rfl rfl ag73 sz73 (Nat.le_of_ble_eq_true rfl) (by decide) rfl) ?_)
   refine aqQ (op_callQ (b := true) rfl en80 (C80 (f := g.flight)) (RL.cons (by first | exact View.same rfl | exact View.nil | exact View.rof | exact View.src .ro | exact View.src .rof | exact View.src (.sl rfl rfl) | exact View.ptr rfl rfl rfl) (RL.nil)) rfl) ?_; (try simp only [nA, Nat.reduceBEq, Nat.reduceEqDiff, ↓reduceIte, Nat.reduceAdd, Nat.reduceSub])
   (refine aqSeg rfl rfl rfl ?_; repeat (first | exact fun _ _ => rfl | refine upd_out rfl ?_ | refine era_out rfl ?_))
  (try simp only [nA, Nat.reduceBEq, Nat.reduceEqDiff, ↓reduceIte, Nat.reduceAdd, Nat.reduceSub])
  refine aqP (op_assign rfl rfl) ?_
  refine AQ.nil ?_
  (refine hK _ ?_; clear hK K; (try simp only [nA, Nat.reduceBEq, Nat.reduceEqDiff, ↓reduceIte, Nat.reduceAdd, Nat.reduceSub]))
  skip
  refine AW.ret ?_; (try simp only [thenE, inBlk, Nat.reduceEqDiff, ↓reduceIte]); exact RQ.of0 rfl (.tmp (Nat.le_of_ble_eq_true rfl) rfl rfl .nil)
theorem C67 {g : Grant} : Fn Try.prog 67 [] [.agg g.av] [.v (.bool (grB g))] [] := by
  refine Spec.body Try.func67 rfl Try.ntmps67 (by simp) rfl ?_; intro S0 own0 v0 w0
  (refine AW.seq_k ?_; intro K hK)
  refine AW.region ?_
  refine awJ (op_box rfl rfl rfl sz75 rfl) ?_; (try simp only [nA, Nat.reduceBEq, Nat.reduceEqDiff, ↓reduceIte, Nat.reduceAdd, Nat.reduceSub])
  refine awP (op_assign rfl rfl) ?_
  refine AWL.nil ?_
  (refine hK _ ?_; clear hK K; (try simp only [nA, Nat.reduceBEq, Nat.reduceEqDiff, ↓reduceIte, Nat.reduceAdd, Nat.reduceSub]))
  (refine AW.seq_k ?_; intro K hK)
  refine AW.region (AWL.quiet ?_)
  (first | refine aqP (op_fa_ptr rfl rfl rfl fl75_0 (by exact sz31) (by decide) rfl) ?_ | refine aqP (op_fa_rop rfl rfl fl75_0 (by exact sz31) (by decide) (Nat.le_of_ble_eq_true rfl) rfl) ?_)
  (first | refine aqR (op_load_ptr rfl rfl rfl rfl ag31 sz31 (Nat.le_of_ble_eq_true rfl) rfl) ?_ | refine aqR (op_load_rop rfl rfl ag31 sz31 (Nat.le_of_ble_eq_true rfl) (by decide) rfl) ?_)
  refine aqQ (op_callQ (b := true) rfl en55 (C55 (p := g.piece)) (RL.cons (by first | exact View.same rfl | exact View.nil | exact View.rof | exact View.src .ro | exact View.src .rof | exact View.src (.sl rfl rfl) | exact View.ptr rfl rfl rfl) (RL.nil)) rfl) ?_; (try simp only [nA, Nat.reduceBEq, Nat.reduceEqDiff, ↓reduceIte, Nat.reduceAdd, Nat.reduceSub])
  refine aqP (op_move rfl rfl) ?_
  refine' aqAnd' [_, _, _] [7,8,9] rfl rfl rfl rfl rfl rfl rfl rfl rfl rfl rfl rfl (fun hb => ?_) ?_; rotate_left
  ·
   (try simp only [hcS] at hb)
   (first | refine aqP (op_fa_ptr rfl rfl rfl fl75_1 (by exact sz73) (by decide) rfl) ?_ | refine aqP (op_fa_rop rfl rfl fl75_1 (by exact sz73) (by decide) (Nat.le_of_ble_eq_true rfl) rfl) ?_)
   (first | refine aqR (op_load_ptr rfl rfl rfl rfl ag73 sz73 (Nat.le_of_ble_eq_true rfl) rfl) ?_ | refine aqR (op_load_rop rfl rfl ag73 sz73 (Nat.le_of_ble_eq_true rfl) (by decide) rfl) ?_)
   refine aqQ (op_callQ (b := true) rfl en85 (C85 (f := g.flight)) (RL.cons (by first | exact View.same rfl | exact View.nil | exact View.rof | exact View.src .ro | exact View.src .rof | exact View.src (.sl rfl rfl) | exact View.ptr rfl rfl rfl) (RL.nil)) rfl) ?_; (try simp only [nA, Nat.reduceBEq, Nat.reduceEqDiff, ↓reduceIte, Nat.reduceAdd, Nat.reduceSub])
   (refine aqSeg rfl rfl rfl ?_; repeat (first | exact fun _ _ => rfl | refine upd_out rfl ?_ | refine era_out rfl ?_))
  (try simp only [nA, Nat.reduceBEq, Nat.reduceEqDiff, ↓reduceIte, Nat.reduceAdd, Nat.reduceSub])
  refine aqP (op_assign rfl rfl) ?_
  refine AQ.nil ?_
  (refine hK _ ?_; clear hK K; (try simp only [nA, Nat.reduceBEq, Nat.reduceEqDiff, ↓reduceIte, Nat.reduceAdd, Nat.reduceSub]))
  skip
  refine AW.ret ?_; (try simp only [thenE, inBlk, Nat.reduceEqDiff, ↓reduceIte]); exact RQ.of0 rfl (.tmp (Nat.le_of_ble_eq_true rfl) rfl rfl .nil)
def numB (h : Hand) : Bool := (inB h.number 1 6 && inB h.next 1 1048576) && inB h.last 0 1048576
theorem C46 {h : Hand} : Fn Try.prog 46 [] [.agg h.av] [.v (.bool (numB h))] [] := by
  refine Spec.body Try.func46 rfl Try.ntmps46 (by simp) rfl ?_; intro S0 own0 v0 w0
  (refine AW.seq_k ?_; intro K hK)
  refine AW.region ?_
  refine awJ (op_box rfl rfl rfl sz87 rfl) ?_; (try simp only [nA, Nat.reduceBEq, Nat.reduceEqDiff, ↓reduceIte, Nat.reduceAdd, Nat.reduceSub])
  refine awP (op_assign rfl rfl) ?_
  refine AWL.nil ?_
  (refine hK _ ?_; clear hK K; (try simp only [nA, Nat.reduceBEq, Nat.reduceEqDiff, ↓reduceIte, Nat.reduceAdd, Nat.reduceSub]))
  (refine AW.seq_k ?_; intro K hK)
  refine AW.region (AWL.quiet ?_)
  (first | refine aqP (op_fa_ptr rfl rfl rfl fl87_0 (by exact sz3) (by decide) rfl) ?_ | refine aqP (op_fa_rop rfl rfl fl87_0 (by exact sz3) (by decide) (Nat.le_of_ble_eq_true rfl) rfl) ?_)
  (first | refine aqR (op_load_ptr1 rfl rfl rfl rfl ag3 rfl rfl) ?_ | refine aqR (op_load_rop1 rfl rfl ag3) ?_)
  refine aqQ (op_callQ (b := true) rfl en43 (C43) (RL.cons (by first | exact View.same rfl | exact View.nil | exact View.rof | exact View.src .ro | exact View.src .rof | exact View.src (.sl rfl rfl) | exact View.ptr rfl rfl rfl) (RL.cons (by first | exact View.same rfl | exact View.nil | exact View.rof | exact View.src .ro | exact View.src .rof | exact View.src (.sl rfl rfl) | exact View.ptr rfl rfl rfl) (RL.cons (by first | exact View.same rfl | exact View.nil | exact View.rof | exact View.src .ro | exact View.src .rof | exact View.src (.sl rfl rfl) | exact View.ptr rfl rfl rfl) (RL.nil)))) rfl) ?_; (try simp only [nA, Nat.reduceBEq, Nat.reduceEqDiff, ↓reduceIte, Nat.reduceAdd, Nat.reduceSub])
  refine aqP (op_move rfl rfl) ?_
  refine' aqAnd' [_, _, _] [7,8,9] rfl rfl rfl rfl rfl rfl rfl rfl rfl rfl rfl rfl (fun hb => ?_) ?_; rotate_left
  ·
   (try simp only [hcS] at hb)
   (first | refine aqP (op_fa_ptr rfl rfl rfl fl87_1 (by exact sz3) (by decide) rfl) ?_ | refine aqP (op_fa_rop rfl rfl fl87_1 (by exact sz3) (by decide) (Nat.le_of_ble_eq_true rfl) rfl) ?_)
   (first | refine aqR (op_load_ptr1 rfl rfl rfl rfl ag3 rfl rfl) ?_ | refine aqR (op_load_rop1 rfl rfl ag3) ?_)
   refine aqQ (op_callQ (b := true) rfl en43 (C43) (RL.cons (by first | exact View.same rfl | exact View.nil | exact View.rof | exact View.src .ro | exact View.src .rof | exact View.src (.sl rfl rfl) | exact View.ptr rfl rfl rfl) (RL.cons (by first | exact View.same rfl | exact View.nil | exact View.rof | exact View.src .ro | exact View.src .rof | exact View.src (.sl rfl rfl) | exact View.ptr rfl rfl rfl) (RL.cons (by first | exact View.same rfl | exact View.nil | exact View.rof | exact View.src .ro | exact View.src .rof | exact View.src (.sl rfl rfl) | exact View.ptr rfl rfl rfl) (RL.nil)))) rfl) ?_; (try simp only [nA, Nat.reduceBEq, Nat.reduceEqDiff, ↓reduceIte, Nat.reduceAdd, Nat.reduceSub])
   (refine aqSeg rfl rfl rfl ?_; repeat (first | exact fun _ _ => rfl | refine upd_out rfl ?_ | refine era_out rfl ?_))
  (try simp only [nA, Nat.reduceBEq, Nat.reduceEqDiff, ↓reduceIte, Nat.reduceAdd, Nat.reduceSub])
  refine aqP (op_move rfl rfl) ?_
  refine' aqAnd' [_, _, _] [12,13,14] rfl rfl rfl rfl rfl rfl rfl rfl rfl rfl rfl rfl (fun hb => ?_) ?_; rotate_left
  ·
   (try simp only [hcS] at hb)
   (first | refine aqP (op_fa_ptr rfl rfl rfl fl87_2 (by exact sz3) (by decide) rfl) ?_ | refine aqP (op_fa_rop rfl rfl fl87_2 (by exact sz3) (by decide) (Nat.le_of_ble_eq_true rfl) rfl) ?_)
   (first | refine aqR (op_load_ptr1 rfl rfl rfl rfl ag3 rfl rfl) ?_ | refine aqR (op_load_rop1 rfl rfl ag3) ?_)
   refine aqQ (op_callQ (b := true) rfl en43 (C43) (RL.cons (by first | exact View.same rfl | exact View.nil | exact View.rof | exact View.src .ro | exact View.src .rof | exact View.src (.sl rfl rfl) | exact View.ptr rfl rfl rfl) (RL.cons (by first | exact View.same rfl | exact View.nil | exact View.rof | exact View.src .ro | exact View.src .rof | exact View.src (.sl rfl rfl) | exact View.ptr rfl rfl rfl) (RL.cons (by first | exact View.same rfl | exact View.nil | exact View.rof | exact View.src .ro | exact View.src .rof | exact View.src (.sl rfl rfl) | exact View.ptr rfl rfl rfl) (RL.nil)))) rfl) ?_; (try simp only [nA, Nat.reduceBEq, Nat.reduceEqDiff, ↓reduceIte, Nat.reduceAdd, Nat.reduceSub])
   (refine aqSeg rfl rfl rfl ?_; repeat (first | exact fun _ _ => rfl | refine upd_out rfl ?_ | refine era_out rfl ?_))
  (try simp only [nA, Nat.reduceBEq, Nat.reduceEqDiff, ↓reduceIte, Nat.reduceAdd, Nat.reduceSub])
  refine aqP (op_assign rfl rfl) ?_
  refine AQ.nil ?_
  (refine hK _ ?_; clear hK K; (try simp only [nA, Nat.reduceBEq, Nat.reduceEqDiff, ↓reduceIte, Nat.reduceAdd, Nat.reduceSub]))
  skip
  refine AW.ret ?_; (try simp only [thenE, inBlk, Nat.reduceEqDiff, ↓reduceIte]); exact RQ.of0 rfl (.tmp (Nat.le_of_ble_eq_true rfl) rfl rfl .nil)
def barB (h : Hand) : Bool := h.offline || decide (((h.grants.length : Int) + h.conts.length) + h.log.length = 0)
theorem C47 {h : Hand} (hs : h.Sm) : Fn Try.prog 47 [] [.agg h.av] [.v (.bool (barB h))] [] := by
  have h1 := hs.g; have h2 := hs.c; have h3 := hs.l
  refine Spec.body Try.func47 rfl Try.ntmps47 (by simp) rfl ?_; intro S0 own0 v0 w0
  (refine AW.seq_k ?_; intro K hK)
  refine AW.region ?_
  refine awJ (op_box rfl rfl rfl sz87 rfl) ?_; (try simp only [nA, Nat.reduceBEq, Nat.reduceEqDiff, ↓reduceIte, Nat.reduceAdd, Nat.reduceSub])
  refine awP (op_assign rfl rfl) ?_
  refine AWL.nil ?_
  (refine hK _ ?_; clear hK K; (try simp only [nA, Nat.reduceBEq, Nat.reduceEqDiff, ↓reduceIte, Nat.reduceAdd, Nat.reduceSub]))
  (refine AW.seq_k ?_; intro K hK)
  refine AW.region (AWL.quiet ?_)
  (first | refine aqP (op_fa_ptr rfl rfl rfl fl87_3 (by exact sz4) (by decide) rfl) ?_ | refine aqP (op_fa_rop rfl rfl fl87_3 (by exact sz4) (by decide) (Nat.le_of_ble_eq_true rfl) rfl) ?_)
  (first | refine aqR (op_load_ptr1 rfl rfl rfl rfl ag4 rfl rfl) ?_ | refine aqR (op_load_rop1 rfl rfl ag4) ?_)
  refine aqP (op_move rfl rfl) ?_
  refine' aqOr' [_, _, _, _, _, _, _, _, _, _, _, _] [6,7,8,9,10,11,12,13,14,15,16,17] rfl rfl rfl rfl rfl rfl rfl rfl rfl rfl rfl rfl (fun hb => ?_) ?_; rotate_left
  ·
   (try simp only [hcS] at hb)
   (first | refine aqP (op_fa_ptr rfl rfl rfl fl87_4 (by exact sz22) (by decide) rfl) ?_ | refine aqP (op_fa_rop rfl rfl fl87_4 (by exact sz22) (by decide) (Nat.le_of_ble_eq_true rfl) rfl) ?_)
   (first | refine aqR (op_load_ptr1 rfl rfl rfl rfl ag22 rfl rfl) ?_ | refine aqR (op_load_rop1 rfl rfl ag22) ?_)
   refine aqP (op_len_ro (n := h.grants.length) rfl rfl Try.underlying22 (.inr (.inl ⟨_, rfl, by simp⟩))) ?_
   (first | refine aqP (op_fa_ptr rfl rfl rfl fl87_5 (by exact sz23) (by decide) rfl) ?_ | refine aqP (op_fa_rop rfl rfl fl87_5 (by exact sz23) (by decide) (Nat.le_of_ble_eq_true rfl) rfl) ?_)
   (first | refine aqR (op_load_ptr1 rfl rfl rfl rfl ag23 rfl rfl) ?_ | refine aqR (op_load_rop1 rfl rfl ag23) ?_)
   refine aqP (op_len_ro (n := h.conts.length) rfl rfl Try.underlying23 (.inr (.inl ⟨_, rfl, by simp⟩))) ?_
   (first | refine aqP (op_addi rfl rfl rfl (by omega)) ?_ | refine aqP (op_add rfl rfl rfl rfl) ?_)
   (first | refine aqP (op_fa_ptr rfl rfl rfl fl87_6 (by exact sz24) (by decide) rfl) ?_ | refine aqP (op_fa_rop rfl rfl fl87_6 (by exact sz24) (by decide) (Nat.le_of_ble_eq_true rfl) rfl) ?_)
   (first | refine aqR (op_load_ptr1 rfl rfl rfl rfl ag24 rfl rfl) ?_ | refine aqR (op_load_rop1 rfl rfl ag24) ?_)
   refine aqP (op_len_ro (n := h.log.length) rfl rfl Try.underlying24 (.inr (.inl ⟨_, rfl, by simp⟩))) ?_
   (first | refine aqP (op_addi rfl rfl rfl (by omega)) ?_ | refine aqP (op_add rfl rfl rfl rfl) ?_)
   (first | refine aqP (op_eql rfl rfl rfl) ?_ | refine aqP (op_seql rfl rfl rfl) ?_)
   (refine aqSeg rfl rfl rfl ?_; repeat (first | exact fun _ _ => rfl | refine upd_out rfl ?_ | refine era_out rfl ?_))
  (try simp only [nA, Nat.reduceBEq, Nat.reduceEqDiff, ↓reduceIte, Nat.reduceAdd, Nat.reduceSub])
  refine aqP (op_assign rfl rfl) ?_
  refine AQ.nil ?_
  (refine hK _ ?_; clear hK K; (try simp only [nA, Nat.reduceBEq, Nat.reduceEqDiff, ↓reduceIte, Nat.reduceAdd, Nat.reduceSub]))
  skip
  refine AW.ret ?_; (try simp only [thenE, inBlk, Nat.reduceEqDiff, ↓reduceIte]); exact RQ.of0 rfl (.tmp (Nat.le_of_ble_eq_true rfl) rfl rfl .nil)
end Go.Proofs.Ytdnofpggdddimaa
namespace Go.Proofs.Ytdnofpggdddimaa
open Go.RowKit
set_option linter.unusedSimpArgs false
set_option linter.unusedVariables false
set_option maxRecDepth 100000
theorem bl_loop (a : ByteArray) : ∀ (n i : Nat) (r : List UInt8), a.size - i = n → ByteArray.toList.loop a i r = r.reverse ++ a.data.toList.drop i
  | 0, i, r, h => by
    have hs : a.data.toList.length = a.size := by rw [Array.length_toList]; rfl
    unfold ByteArray.toList.loop
    rw [if_neg (by omega), List.drop_eq_nil_of_le (by omega), List.append_nil]
  | n + 1, i, r, h => by
    have hs : a.data.toList.length = a.size := by rw [Array.length_toList]; rfl
    have hi : i < a.data.toList.length := by omega
    unfold ByteArray.toList.loop
    rw [if_pos (by omega), bl_loop a n (i + 1) _ (by omega), List.drop_eq_getElem_cons hi]
    have : a.get! i = a.data.toList[i] := by
      show a.data[i]! = _
      rw [getElem!_pos a.data i (by simpa using hi)]
      simp
    rw [this, List.reverse_cons, List.append_assoc]
    rfl
theorem bl_inj {a b : ByteArray} (h : a.toList = b.toList) : a = b := by
  unfold ByteArray.toList at h
  rw [bl_loop a _ 0 [] rfl, bl_loop b _ 0 [] rfl] at h
  exact bytes_ext (by simpa using h)
theorem flEq_iff {f g : Flight} : flEq f g = true ↔ f = g := by
  obtain ⟨a, b, c, d⟩ := f
  obtain ⟨a', b', c', d'⟩ := g
  unfold flEq
  simp only [Bool.and_eq_true, beq_iff_eq, Flight.mk.injEq]
  constructor
  · rintro ⟨h1, h2, h3, h4⟩; exact ⟨bl_inj h1, h2, bl_inj h3, h4⟩
  · rintro ⟨h1, h2, h3, h4⟩; exact ⟨by rw [h1], h2, by rw [h3], h4⟩
theorem spot_iff {c d : Container} : spotOf d = spotOf c ↔ d.flight = c.flight ∧ d.position = c.position := by
  unfold spotOf
  obtain ⟨n, ⟨a, b, s, e⟩, _, _, _, p, _, _⟩ := c
  obtain ⟨n', ⟨a', b', s', e'⟩, _, _, _, p', _, _⟩ := d
  simp only [Spot.mk.injEq, Flight.mk.injEq]
  constructor
  · rintro ⟨h1, h2, h3, h4, h5⟩; exact ⟨⟨bytes_ext h1, h2, bytes_ext h3, h4⟩, h5⟩
  · rintro ⟨⟨h1, h2, h3, h4⟩, h5⟩; exact ⟨by rw [h1], h2, by rw [h3], h4, h5⟩
theorem run_eq73 (p q : Flight) (w : World) : (binOp .eql 73 (.agg #[.string p.carrier, .int .i64 p.number, .string p.suffix, .int .i64 p.day]) (.agg #[.string q.carrier, .int .i64 q.number, .string q.suffix, .int .i64 q.day])).run Try.prog w = .ok (.bool (flEq p q)) w := by
  obtain ⟨a, b, c, d⟩ := p
  obtain ⟨a', b', c', d'⟩ := q
  unfold binOp
  simp only [Op.equal]
  rw [Sem.run_bind, show Op.maxDepth = 9998 + 1 + 1 from rfl, run_equalIn_struct w _ 73 _ _ fo73 st73]
  unfold Program.fieldsOf; rw [Try.underlying73]
  simp only [Op.eqFields]
  go_simp
  unfold flEq
  by_cases h1 : a.toList = a'.toList <;> by_cases h2 : b = b' <;> by_cases h3 : c.toList = c'.toList <;> by_cases h4 : d = d' <;> simp [h1, h2, h3, h4]
theorem run_tye73 (p q : Operand) (x y : Array Value) (w : World) : (eqGuard .eql 73 p q (.agg x) (.agg y)).run Try.prog w = .ok () w := by
  unfold eqGuard
  simp [ty73, run_program]
section
variable {S0 : Nat → Prop} {own0 : List Nat} {v0 : List Value} {w0 : World} {o : Oper} {ev : Operand → AV} {T : Sl} {yt : TypeId} {y z : Operand}
theorem op_eq73 {p q : Flight} (ho : o.op = .binOp .eql 73 y z yt) (hy : ev y = .agg p.av) (hz : ev z = .agg q.av) : OpP ⟨Try.prog, S0, own0, v0, w0⟩ o ev T (.v (.bool (flEq p q))) :=
  op_bin_agg (xs := [.string p.carrier, .int .i64 p.number, .string p.suffix, .int .i64 p.day]) (ys := [.string q.carrier, .int .i64 q.number, .string q.suffix, .int .i64 q.day]) ho hy hz (fun w => run_tye73 _ _ _ _ w) (fun w => run_eq73 p q w) rfl
end
def Seen (xs : List Container) (i : Nat) (sp : List Container) (pl : List Plate) : Prop :=
  chk (prevN xs i) (xs.drop i) sp pl = chk none xs [] [] ∧ (∀ s, s ∈ sp.map spotOf ↔ ∃ c ∈ xs.take i, c.position ≠ 0 ∧ spotOf c = s) ∧ ∀ p, p ∈ pl ↔ ∃ c ∈ xs.take i, hasB c.pieces p = true
theorem seen_zero (xs : List Container) : Seen xs 0 [] [] := ⟨rfl, fun s => by simp, fun p => by simp⟩
theorem seen_step {xs : List Container} {i : Nat} {sp : List Container} {pl : List Plate} {c : Container} (hS : Seen xs i sp pl) (hci : xs[i]? = some c) :
    chk none xs [] [] = (if valC c ≠ 0 then valC c else if prevBad (prevN xs i) c.number = true then 9 else if c.position ≠ 0 ∧ spotOf c ∈ sp.map spotOf then 7 else
      match chkP c.pieces pl with
      | none => 5
      | some pl' => chk (some c.number) (xs.drop (i + 1)) (if c.position ≠ 0 then c :: sp else sp) pl') := by
  rw [← hS.1, drop_cons hci]
  rfl
theorem chkP_no : ∀ (l : List Piece) (pl : List Plate), (∃ x ∈ l, x.plate ∈ pl) → chkP l pl = none
  | [], _, ⟨x, hx, _⟩ => by cases hx
  | y :: l, pl, ⟨x, hx, h⟩ => by
    rw [chkP_cons]
    by_cases hy : y.plate ∈ pl
    · rw [if_pos hy]
    · rw [if_neg hy]
      rcases List.mem_cons.1 hx with rfl | hx
      · exact absurd h hy
      · exact chkP_no l _ ⟨x, hx, List.mem_cons_of_mem _ h⟩
theorem chkP_yes : ∀ (l : List Piece) (pl : List Plate), AscP l → (∀ x ∈ l, x.plate ∉ pl) → ∃ pl', chkP l pl = some pl' ∧ ∀ q, q ∈ pl' ↔ q ∈ pl ∨ ∃ x ∈ l, x.plate = q
  | [], pl, _, _ => ⟨pl, rfl, fun q => by simp⟩
  | y :: l, pl, ha, hn => by
    have ha' := List.pairwise_cons.1 ha
    obtain ⟨pl', h1, h2⟩ := chkP_yes l (y.plate :: pl) ha'.2 fun x hx hm => by
      rcases List.mem_cons.1 hm with hm | hm
      · have := ha'.1 x hx
        rw [hm] at this
        exact PLt.irrefl _ this
      · exact hn x (List.mem_cons_of_mem _ hx) hm
    refine ⟨pl', by rw [chkP_cons, if_neg (hn y (by simp))]; exact h1, fun q => ?_⟩
    rw [h2 q]
    simp only [List.mem_cons, exists_eq_or_imp]
    constructor
    · rintro ((h | h) | h)
      · exact .inr (.inl h.symm)
      · exact .inl h
      · exact .inr (.inr h)
    · rintro (h | h | h)
      · exact .inl (.inr h)
      · exact .inl (.inl h.symm)
      · exact .inr h
theorem take_mem {xs : List Container} {i : Nat} {c d : Container} (hci : xs[i]? = some c) : d ∈ xs.take (i + 1) ↔ d ∈ xs.take i ∨ d = c := by
  rw [List.take_add_one, hci, List.mem_append]
  simp
theorem seen_next {xs : List Container} {i : Nat} {sp : List Container} {pl pl' : List Plate} {c : Container} (hS : Seen xs i sp pl) (hci : xs[i]? = some c)
    (hR : chk none xs [] [] = chk (some c.number) (xs.drop (i + 1)) (if c.position ≠ 0 then c :: sp else sp) pl') (hp : ∀ q, q ∈ pl' ↔ q ∈ pl ∨ ∃ x ∈ c.pieces, x.plate = q) : ∃ sp pl, Seen xs (i + 1) sp pl := by
  refine ⟨_, pl', by rw [prevN_succ hci]; exact hR.symm, fun s => ?_, fun q => ?_⟩
  · have h2 := hS.2.1 s
    constructor
    · intro h
      by_cases h0 : c.position ≠ 0
      · rw [if_pos h0, List.map_cons, List.mem_cons] at h
        rcases h with h | h
        · exact ⟨c, (take_mem hci).2 (.inr rfl), h0, h.symm⟩
        · obtain ⟨d, hd, h3⟩ := h2.1 h
          exact ⟨d, (take_mem hci).2 (.inl hd), h3⟩
      · rw [if_neg h0] at h
        obtain ⟨d, hd, h3⟩ := h2.1 h
        exact ⟨d, (take_mem hci).2 (.inl hd), h3⟩
    · rintro ⟨d, hd, h3, h4⟩
      rcases (take_mem hci).1 hd with hd | rfl
      · have := h2.2 ⟨d, hd, h3, h4⟩
        split
        · exact List.mem_cons_of_mem _ this
        · exact this
      · rw [if_pos h3, List.map_cons]; exact List.mem_cons.2 (.inl h4.symm)
  · rw [hp q, hS.2.2 q]
    constructor
    · rintro (⟨d, hd, h⟩ | h)
      · exact ⟨d, (take_mem hci).2 (.inl hd), h⟩
      · exact ⟨c, (take_mem hci).2 (.inr rfl), hasB_iff.2 h⟩
    · rintro ⟨d, hd, h⟩
      rcases (take_mem hci).1 hd with hd | rfl
      · exact .inl ⟨d, hd, h⟩
      · exact .inr (hasB_iff.1 h)
theorem findL_snd {xs : List Container} {p : Plate} : (findL xs p).2 = true ↔ ∃ c ∈ xs, hasB c.pieces p = true := by
  unfold findL
  cases h : xs.find? fun c => hasB c.pieces p with
  | none =>
    rw [List.find?_eq_none] at h
    constructor
    · intro h; cases h
    · rintro ⟨c, hc, h2⟩; exact absurd h2 (h c hc)
  | some c => exact ⟨fun _ => ⟨c, List.mem_of_find?_eq_some h, List.find?_some (p := fun (d : Container) => hasB d.pieces p) h⟩, fun _ => rfl⟩
theorem mem_takeI {xs : List Container} {i k : Nat} (h : k < xs.length) (hk : k < i) : xs[k] ∈ xs.take i := by
  rw [show xs[k] = (xs.take i)[k]'(by simp; omega) by simp]
  exact List.getElem_mem _
set_option maxHeartbeats 4000000 in
theorem C52 {xs : List Container} (hx : xs.length ≤ 1000000) (hb : ∀ c ∈ xs, c.pieces.length ≤ 1000000000) : Fn Try.prog 52 [] [.ro (xs.map Container.av)] [.v (.int .i64 (chkL xs))] [] := by
  refine Spec.body Try.func52 rfl Try.ntmps52 (by simp) rfl ?_; intro S0 own0 v0 w0
  (refine AW.seq_k ?_; intro K hK)
  refine AW.region ?_
  refine awP (op_assign rfl rfl) ?_
  refine AWL.nil ?_
  (refine hK _ ?_; clear hK K; (try simp only [nA, Nat.reduceBEq, Nat.reduceEqDiff, ↓reduceIte, Nat.reduceAdd, Nat.reduceSub]))
  (refine AW.seq_k ?_; intro K hK)
  (refine AW.seq_k ?_; intro K hK)
  refine AW.region ?_
  refine awP (op_move rfl rfl) ?_
  (first | refine awP (op_len_ro rfl rfl Try.underlying23 (by first | exact .inr (.inl ⟨_, rfl, rfl⟩) | exact .inl rfl | exact .inr (.inr (.inl ⟨_, rfl, rfl⟩)) | exact .inr (.inr (.inr ⟨rfl, rfl⟩)))) ?_ | refine awP (op_len_sl rfl rfl rfl Try.underlying23) ?_ | refine awP (op_len_str rfl rfl Try.underlying23) ?_)
  refine awP (op_gtr rfl rfl rfl) ?_
  refine AWL.nil ?_
  (refine hK _ ?_; clear hK K; (try simp only [nA, Nat.reduceBEq, Nat.reduceEqDiff, ↓reduceIte, Nat.reduceAdd, Nat.reduceSub]))
  refine AW.cond rfl rfl rfl (fun hc => ?_) (fun hc => ?_)
  ·
   (try simp only [hcS] at hc); have hc1 := hc; skip
   (refine AW.seq_k ?_; intro K hK)
   refine AW.region ?_
   refine awP (op_assign rfl rfl) ?_
   refine AWL.nil ?_
   (refine hK _ ?_; clear hK K; (try simp only [nA, Nat.reduceBEq, Nat.reduceEqDiff, ↓reduceIte, Nat.reduceAdd, Nat.reduceSub]))
   skip
   refine AW.ret ?_; (try simp only [thenE, inBlk, Nat.reduceEqDiff, ↓reduceIte]); rw [show chkL xs = 2 by unfold chkL; rw [if_pos (by omega)]]; exact RQ.of0 rfl (.tmp (Nat.le_of_ble_eq_true rfl) rfl rfl .nil)
  ·
   (try simp only [hcS] at hc); have hc1 := hc; have hL : chkL xs = chk none xs [] [] := (by unfold chkL; rw [if_neg (by omega)])
   refine AW.skip ?_
   (refine hK _ ?_; clear hK K; (try simp only [nA, Nat.reduceBEq, Nat.reduceEqDiff, ↓reduceIte, Nat.reduceAdd, Nat.reduceSub]))
   (refine AW.seq_k ?_; intro K hK)
   (refine AW.seq_k ?_; intro K hK)
   refine AW.region ?_
   refine awP (op_assign rfl rfl) ?_
   refine AWL.nil ?_
   (refine hK _ ?_; clear hK K; (try simp only [nA, Nat.reduceBEq, Nat.reduceEqDiff, ↓reduceIte, Nat.reduceAdd, Nat.reduceSub]))
   refine AW.block ?_
   refine AW.loopI (fun (i : Nat) => [(0, .ro (xs.map Container.av)), (3, .v (.int .i64 (i : Nat)))]) (fun _ => ⟨[], 1⟩) (fun i => i ≤ xs.length ∧ ∃ sp pl, Seen xs i sp pl) (fun i => xs.length - i) 0 ⟨Nat.zero_le _, _, _, seen_zero xs⟩ ⟨rfl, rfl, trivial⟩ rfl ?_; rintro i ρ ⟨hi, sp, pl, hS⟩; simp only [updL]; (try simp only [nA, Nat.reduceBEq, Nat.reduceEqDiff, ↓reduceIte, Nat.reduceAdd, Nat.reduceSub])
   (refine AW.seq_k ?_; intro K hK)
   (refine AW.seq_k ?_; intro K hK)
   refine AW.region ?_
   refine awP (op_move rfl rfl) ?_
   refine awP (op_move rfl rfl) ?_
   (first | refine awP (op_len_ro rfl rfl Try.underlying23 (by first | exact .inr (.inl ⟨_, rfl, rfl⟩) | exact .inl rfl | exact .inr (.inr (.inl ⟨_, rfl, rfl⟩)) | exact .inr (.inr (.inr ⟨rfl, rfl⟩)))) ?_ | refine awP (op_len_sl rfl rfl rfl Try.underlying23) ?_ | refine awP (op_len_str rfl rfl Try.underlying23) ?_)
   refine awP (op_lss rfl rfl rfl) ?_
   refine AWL.nil ?_
   (refine hK _ ?_; clear hK K; (try simp only [nA, Nat.reduceBEq, Nat.reduceEqDiff, ↓reduceIte, Nat.reduceAdd, Nat.reduceSub]))
   refine AW.cond rfl rfl rfl (fun hc => ?_) (fun hc => ?_)
   ·
    (try simp only [hcS] at hc); have hc2 := hc; have hlt : i < xs.length := (by simpa using hc2); obtain ⟨c, hci⟩ : ∃ c, xs[i]? = some c := ⟨xs[i], List.getElem?_eq_getElem hlt⟩; have hR := seen_step hS hci
    refine AW.skip ?_
    (refine hK _ ?_; clear hK K; (try simp only [nA, Nat.reduceBEq, Nat.reduceEqDiff, ↓reduceIte, Nat.reduceAdd, Nat.reduceSub]))
    (refine AW.seq_k ?_; intro K hK)
    refine AW.block ?_
    (refine AW.seq_k ?_; intro K hK)
    (refine AW.seq_k ?_; intro K hK)
    refine AW.region ?_
    refine awP (op_move rfl rfl) ?_
    refine awP (op_move rfl rfl) ?_
    (first | refine awP (op_ia_ro i rfl (.inl rfl) rfl Try.underlying23 rfl (get_of hci) (by exact sz77) (Nat.le_of_ble_eq_true rfl)) ?_ | refine awP (op_ia_sl _ _ rfl rfl rfl rfl Try.underlying23 rfl (by omega) (by exact sz77) rfl) ?_)
    (first | refine awR (op_load_ptr rfl rfl rfl rfl ag77 sz77 (Nat.le_of_ble_eq_true rfl) rfl) ?_ | refine awR (op_load_rop rfl rfl ag77 sz77 (Nat.le_of_ble_eq_true rfl) (by decide) rfl) ?_)
    refine awJ (OpQ.j (op_callQ (b := true) rfl en70 (C70 (c := c)) (RL.cons (by first | exact View.same rfl | exact View.nil | exact View.rof | exact View.src .ro | exact View.src .rof | exact View.src (.sl rfl rfl) | exact View.ptr rfl rfl rfl) (RL.nil)) rfl)) ?_; (try simp only [nA, Nat.reduceBEq, Nat.reduceEqDiff, ↓reduceIte, Nat.reduceAdd, Nat.reduceSub])
    refine awP (op_assign rfl rfl) ?_
    refine AWL.nil ?_
    (refine hK _ ?_; clear hK K; (try simp only [nA, Nat.reduceBEq, Nat.reduceEqDiff, ↓reduceIte, Nat.reduceAdd, Nat.reduceSub]))
    (refine AW.seq_k ?_; intro K hK)
    refine AW.region ?_
    refine awP (op_move rfl rfl) ?_
    (first | refine awP (op_neq rfl rfl rfl) ?_ | refine awP (op_sneq rfl rfl rfl) ?_)
    refine AWL.nil ?_
    (refine hK _ ?_; clear hK K; (try simp only [nA, Nat.reduceBEq, Nat.reduceEqDiff, ↓reduceIte, Nat.reduceAdd, Nat.reduceSub]))
    refine AW.cond rfl rfl rfl (fun hc => ?_) (fun hc => ?_)
    ·
     (try simp only [hcS] at hc); have hc3 := hc; skip
     (refine AW.seq_k ?_; intro K hK)
     refine AW.region ?_
     refine awP (op_move rfl rfl) ?_
     refine awP (op_assign rfl rfl) ?_
     refine AWL.nil ?_
     (refine hK _ ?_; clear hK K; (try simp only [nA, Nat.reduceBEq, Nat.reduceEqDiff, ↓reduceIte, Nat.reduceAdd, Nat.reduceSub]))
     skip
     refine AW.ret ?_; (try simp only [thenE, inBlk, Nat.reduceEqDiff, ↓reduceIte]); rw [hL, hR, if_pos (by simpa using hc3)]; exact RQ.of0 rfl (.tmp (Nat.le_of_ble_eq_true rfl) rfl rfl .nil)
    ·
     (try simp only [hcS] at hc); have hc3 := hc; have hv0 : valC c = 0 := (by simpa using hc3); have hv := val_inv hv0; rw [if_neg (by simp [hv0])] at hR
     refine AW.skip ?_
     (refine hK _ ?_; clear hK K; (try simp only [nA, Nat.reduceBEq, Nat.reduceEqDiff, ↓reduceIte, Nat.reduceAdd, Nat.reduceSub]))
     (refine AW.seq_k ?_; intro K hK)
     (refine AW.seq_k ?_; intro K hK)
     refine AW.quiet mix (by kernel_rfl) ?_
     refine aqP (op_move rfl rfl) ?_
     refine aqP (op_gtr rfl rfl rfl) ?_
     refine aqP (op_move rfl rfl) ?_
     refine' aqAnd' [_, _, _, _, _, _, _, _, _, _, _, _] [29,30,31,32,33,34,35,36,37,38,39,40] rfl rfl rfl rfl rfl rfl rfl rfl rfl rfl rfl rfl (fun hb => ?_) ?_; rotate_left
     ·
      (try simp only [hcS] at hb)
      refine aqP (op_move rfl rfl) ?_
      refine aqP (op_move rfl rfl) ?_
      (first | refine aqP (op_ia_ro i rfl (.inl rfl) rfl Try.underlying23 rfl (get_of hci) (by exact sz77) (Nat.le_of_ble_eq_true rfl)) ?_ | refine aqP (op_ia_sl _ _ rfl rfl rfl rfl Try.underlying23 rfl (by omega) (by exact sz77) rfl) ?_)
      (first | refine aqP (op_fa_ptr rfl rfl rfl fl77_0 (by exact sz3) (by decide) rfl) ?_ | refine aqP (op_fa_rop rfl rfl fl77_0 (by exact sz3) (by decide) (Nat.le_of_ble_eq_true rfl) rfl) ?_)
      (first | refine aqR (op_load_ptr1 rfl rfl rfl rfl ag3 rfl rfl) ?_ | refine aqR (op_load_rop1 rfl rfl ag3) ?_)
      refine aqP (op_move rfl rfl) ?_
      refine aqP (op_move rfl rfl) ?_
      (first | refine aqP (op_subi rfl rfl rfl (by omega)) ?_ | refine aqP (op_sub rfl rfl rfl rfl) ?_)
      (first | refine aqP (op_ia_ro (i - 1) rfl (.inl rfl) rfl Try.underlying23 (by omega) (get_mapD (by omega)) (by exact sz77) (Nat.le_of_ble_eq_true rfl)) ?_ | refine aqP (op_ia_sl _ _ rfl rfl rfl rfl Try.underlying23 rfl (by omega) (by exact sz77) rfl) ?_)
      (first | refine aqP (op_fa_ptr rfl rfl rfl fl77_0 (by exact sz3) (by decide) rfl) ?_ | refine aqP (op_fa_rop rfl rfl fl77_0 (by exact sz3) (by decide) (Nat.le_of_ble_eq_true rfl) rfl) ?_)
      (first | refine aqR (op_load_ptr1 rfl rfl rfl rfl ag3 rfl rfl) ?_ | refine aqR (op_load_rop1 rfl rfl ag3) ?_)
      refine aqP (op_leq rfl rfl rfl) ?_
      (refine aqSeg rfl rfl rfl ?_; repeat (first | exact fun _ _ => rfl | refine upd_out rfl ?_ | refine era_out rfl ?_))
     (try simp only [nA, Nat.reduceBEq, Nat.reduceEqDiff, ↓reduceIte, Nat.reduceAdd, Nat.reduceSub])
     refine AQ.nil ?_
     (refine hK _ ?_; clear hK K; (try simp only [nA, Nat.reduceBEq, Nat.reduceEqDiff, ↓reduceIte, Nat.reduceAdd, Nat.reduceSub]))
     refine AW.cond rfl rfl rfl (fun hc => ?_) (fun hc => ?_)
     ·
      (try simp only [hcS] at hc); have hc4 := hc; skip
      (refine AW.seq_k ?_; intro K hK)
      refine AW.region ?_
      refine awP (op_assign rfl rfl) ?_
      refine AWL.nil ?_
      (refine hK _ ?_; clear hK K; (try simp only [nA, Nat.reduceBEq, Nat.reduceEqDiff, ↓reduceIte, Nat.reduceAdd, Nat.reduceSub]))
      skip
      refine AW.ret ?_; (try simp only [thenE, inBlk, Nat.reduceEqDiff, ↓reduceIte]); rw [if_pos (by rw [prevBad_eq]; simpa using hc)] at hR; rw [hL, hR]; exact RQ.of0 rfl (.tmp (Nat.le_of_ble_eq_true rfl) rfl rfl .nil)
     ·
      (try simp only [hcS] at hc); have hc4 := hc; rw [if_neg (by rw [prevBad_eq]; simp only [Bool.and_eq_true, decide_eq_true_eq]; omega)] at hR
      refine AW.skip ?_
      (refine hK _ ?_; clear hK K; (try simp only [nA, Nat.reduceBEq, Nat.reduceEqDiff, ↓reduceIte, Nat.reduceAdd, Nat.reduceSub]))
      (refine AW.seq_k ?_; intro K hK)
      (refine AW.seq_k ?_; intro K hK)
      refine AW.region ?_
      refine awP (op_assign rfl rfl) ?_
      refine AWL.nil ?_
      (refine hK _ ?_; clear hK K; (try simp only [nA, Nat.reduceBEq, Nat.reduceEqDiff, ↓reduceIte, Nat.reduceAdd, Nat.reduceSub]))
      refine AW.block ?_
      refine AW.loopI (fun (j : Nat) => [(0, .ro (xs.map Container.av)), (3, .v (.int .i64 (i : Nat))), (5, .v (.int .i64 (j : Nat)))]) (fun _ => ⟨[], 1⟩) (fun j => j ≤ i ∧ ∀ k (h : k < xs.length), k < j → ¬ (c.position ≠ 0 ∧ spotOf xs[k] = spotOf c)) (fun j => i - j) 0 ⟨by simp, by simp⟩ ⟨rfl, rfl, rfl, trivial⟩ rfl ?_; intro j ρ hJ; simp only [updL]; (try simp only [nA, Nat.reduceBEq, Nat.reduceEqDiff, ↓reduceIte, Nat.reduceAdd, Nat.reduceSub])
      (refine AW.seq_k ?_; intro K hK)
      (refine AW.seq_k ?_; intro K hK)
      refine AW.region ?_
      refine awP (op_move rfl rfl) ?_
      refine awP (op_move rfl rfl) ?_
      refine awP (op_lss rfl rfl rfl) ?_
      refine AWL.nil ?_
      (refine hK _ ?_; clear hK K; (try simp only [nA, Nat.reduceBEq, Nat.reduceEqDiff, ↓reduceIte, Nat.reduceAdd, Nat.reduceSub]))
      refine AW.cond rfl rfl rfl (fun hc => ?_) (fun hc => ?_)
      ·
       (try simp only [hcS] at hc); have hc5 := hc; have hji : j < i := (by omega); have hjl : j < xs.length := (by omega); obtain ⟨d, hdj⟩ : ∃ d, xs[j]? = some d := ⟨xs[j], List.getElem?_eq_getElem hjl⟩; have hde := (List.getElem?_eq_some_iff.1 hdj).2
       refine AW.skip ?_
       (refine hK _ ?_; clear hK K; (try simp only [nA, Nat.reduceBEq, Nat.reduceEqDiff, ↓reduceIte, Nat.reduceAdd, Nat.reduceSub]))
       (refine AW.seq_k ?_; intro K hK)
       refine AW.block ?_
       (refine AW.seq_k ?_; intro K hK)
       refine AW.quiet mix (by kernel_rfl) ?_
       refine aqP (op_move rfl rfl) ?_
       refine aqP (op_move rfl rfl) ?_
       (first | refine aqP (op_ia_ro i rfl (.inl rfl) rfl Try.underlying23 rfl (get_of hci) (by exact sz77) (Nat.le_of_ble_eq_true rfl)) ?_ | refine aqP (op_ia_sl _ _ rfl rfl rfl rfl Try.underlying23 rfl (by omega) (by exact sz77) rfl) ?_)
       (first | refine aqP (op_fa_ptr rfl rfl rfl fl77_5 (by exact sz3) (by decide) rfl) ?_ | refine aqP (op_fa_rop rfl rfl fl77_5 (by exact sz3) (by decide) (Nat.le_of_ble_eq_true rfl) rfl) ?_)
       (first | refine aqR (op_load_ptr1 rfl rfl rfl rfl ag3 rfl rfl) ?_ | refine aqR (op_load_rop1 rfl rfl ag3) ?_)
       (first | refine aqP (op_neq rfl rfl rfl) ?_ | refine aqP (op_sneq rfl rfl rfl) ?_)
       refine aqP (op_move rfl rfl) ?_
       refine' aqAnd' [_, _, _, _, _, _, _, _, _, _, _] [54,55,56,57,58,59,60,61,62,63,64] rfl rfl rfl rfl rfl rfl rfl rfl rfl rfl rfl rfl (fun hb => ?_) ?_; rotate_left
       ·
        (try simp only [hcS] at hb)
        refine aqP (op_move rfl rfl) ?_
        refine aqP (op_move rfl rfl) ?_
        (first | refine aqP (op_ia_ro j rfl (.inl rfl) rfl Try.underlying23 rfl (get_of hdj) (by exact sz77) (Nat.le_of_ble_eq_true rfl)) ?_ | refine aqP (op_ia_sl _ _ rfl rfl rfl rfl Try.underlying23 rfl (by omega) (by exact sz77) rfl) ?_)
        (first | refine aqP (op_fa_ptr rfl rfl rfl fl77_5 (by exact sz3) (by decide) rfl) ?_ | refine aqP (op_fa_rop rfl rfl fl77_5 (by exact sz3) (by decide) (Nat.le_of_ble_eq_true rfl) rfl) ?_)
        (first | refine aqR (op_load_ptr1 rfl rfl rfl rfl ag3 rfl rfl) ?_ | refine aqR (op_load_rop1 rfl rfl ag3) ?_)
        refine aqP (op_move rfl rfl) ?_
        refine aqP (op_move rfl rfl) ?_
        (first | refine aqP (op_ia_ro i rfl (.inl rfl) rfl Try.underlying23 rfl (get_of hci) (by exact sz77) (Nat.le_of_ble_eq_true rfl)) ?_ | refine aqP (op_ia_sl _ _ rfl rfl rfl rfl Try.underlying23 rfl (by omega) (by exact sz77) rfl) ?_)
        (first | refine aqP (op_fa_ptr rfl rfl rfl fl77_5 (by exact sz3) (by decide) rfl) ?_ | refine aqP (op_fa_rop rfl rfl fl77_5 (by exact sz3) (by decide) (Nat.le_of_ble_eq_true rfl) rfl) ?_)
        (first | refine aqR (op_load_ptr1 rfl rfl rfl rfl ag3 rfl rfl) ?_ | refine aqR (op_load_rop1 rfl rfl ag3) ?_)
        (first | refine aqP (op_eql rfl rfl rfl) ?_ | refine aqP (op_seql rfl rfl rfl) ?_)
        (refine aqSeg rfl rfl rfl ?_; repeat (first | exact fun _ _ => rfl | refine upd_out rfl ?_ | refine era_out rfl ?_))
       (try simp only [nA, Nat.reduceBEq, Nat.reduceEqDiff, ↓reduceIte, Nat.reduceAdd, Nat.reduceSub])
       refine aqP (op_move rfl rfl) ?_
       refine' aqAnd' [_, _, _, _, _, _, _, _, _, _, _] [67,68,69,70,71,72,73,74,75,76,77] rfl rfl rfl rfl rfl rfl rfl rfl rfl rfl rfl rfl (fun hb => ?_) ?_; rotate_left
       ·
        (try simp only [hcS] at hb)
        refine aqP (op_move rfl rfl) ?_
        refine aqP (op_move rfl rfl) ?_
        (first | refine aqP (op_ia_ro j rfl (.inl rfl) rfl Try.underlying23 rfl (get_of hdj) (by exact sz77) (Nat.le_of_ble_eq_true rfl)) ?_ | refine aqP (op_ia_sl _ _ rfl rfl rfl rfl Try.underlying23 rfl (by omega) (by exact sz77) rfl) ?_)
        (first | refine aqP (op_fa_ptr rfl rfl rfl fl77_1 (by exact sz73) (by decide) rfl) ?_ | refine aqP (op_fa_rop rfl rfl fl77_1 (by exact sz73) (by decide) (Nat.le_of_ble_eq_true rfl) rfl) ?_)
        (first | refine aqR (op_load_ptr rfl rfl rfl rfl ag73 sz73 (Nat.le_of_ble_eq_true rfl) rfl) ?_ | refine aqR (op_load_rop rfl rfl ag73 sz73 (Nat.le_of_ble_eq_true rfl) (by decide) rfl) ?_)
        refine aqP (op_move rfl rfl) ?_
        refine aqP (op_move rfl rfl) ?_
        (first | refine aqP (op_ia_ro i rfl (.inl rfl) rfl Try.underlying23 rfl (get_of hci) (by exact sz77) (Nat.le_of_ble_eq_true rfl)) ?_ | refine aqP (op_ia_sl _ _ rfl rfl rfl rfl Try.underlying23 rfl (by omega) (by exact sz77) rfl) ?_)
        (first | refine aqP (op_fa_ptr rfl rfl rfl fl77_1 (by exact sz73) (by decide) rfl) ?_ | refine aqP (op_fa_rop rfl rfl fl77_1 (by exact sz73) (by decide) (Nat.le_of_ble_eq_true rfl) rfl) ?_)
        (first | refine aqR (op_load_ptr rfl rfl rfl rfl ag73 sz73 (Nat.le_of_ble_eq_true rfl) rfl) ?_ | refine aqR (op_load_rop rfl rfl ag73 sz73 (Nat.le_of_ble_eq_true rfl) (by decide) rfl) ?_)
        refine aqP (op_eq73 rfl rfl rfl) ?_; (try simp only [nA, Nat.reduceBEq, Nat.reduceEqDiff, ↓reduceIte, Nat.reduceAdd, Nat.reduceSub])
        (refine aqSeg rfl rfl rfl ?_; repeat (first | exact fun _ _ => rfl | refine upd_out rfl ?_ | refine era_out rfl ?_))
       (try simp only [nA, Nat.reduceBEq, Nat.reduceEqDiff, ↓reduceIte, Nat.reduceAdd, Nat.reduceSub])
       refine AQ.nil ?_
       (refine hK _ ?_; clear hK K; (try simp only [nA, Nat.reduceBEq, Nat.reduceEqDiff, ↓reduceIte, Nat.reduceAdd, Nat.reduceSub]))
       refine AW.cond rfl rfl rfl (fun hc => ?_) (fun hc => ?_)
       ·
        (try simp only [hcS] at hc); have hc6 := hc; skip
        (refine AW.seq_k ?_; intro K hK)
        refine AW.region ?_
        refine awP (op_assign rfl rfl) ?_
        refine AWL.nil ?_
        (refine hK _ ?_; clear hK K; (try simp only [nA, Nat.reduceBEq, Nat.reduceEqDiff, ↓reduceIte, Nat.reduceAdd, Nat.reduceSub]))
        skip
        refine AW.ret ?_; (try simp only [thenE, inBlk, Nat.reduceEqDiff, ↓reduceIte]); rw [if_pos ⟨hc6.1.1, (hS.2.1 _).2 ⟨d, by rw [← hde]; exact mem_takeI hjl hji, by rw [hc6.1.2]; exact hc6.1.1, spot_iff.2 ⟨flEq_iff.1 hc6.2, hc6.1.2⟩⟩⟩] at hR; rw [hL, hR]; exact RQ.of0 rfl (.tmp (Nat.le_of_ble_eq_true rfl) rfl rfl .nil)
       ·
        (try simp only [hcS] at hc); have hc6 := hc; skip
        refine AW.skip ?_
        (try simp only [thenE, inBlk, Nat.reduceEqDiff, ↓reduceIte])
        (refine hK _ ?_; clear hK K; (try simp only [nA, Nat.reduceBEq, Nat.reduceEqDiff, ↓reduceIte, Nat.reduceAdd, Nat.reduceSub]))
        refine AW.region ?_
        refine awP (op_move rfl rfl) ?_
        (first | refine awP (op_addi rfl rfl rfl (by omega)) ?_ | refine awP (op_add rfl rfl rfl rfl) ?_)
        refine awP (op_assign rfl rfl) ?_
        skip
        refine AWL.nil ?_
        refine ⟨j + 1, ⟨by omega, fun k h hk => by rcases Nat.lt_or_ge k j with h' | h'; exact hJ.2 k h h'; (obtain rfl : k = j := by omega); rintro ⟨h0, h1⟩; rw [hde, spot_iff] at h1; exact absurd (flEq_iff.2 h1.1) (by simpa [h0, h1.2] using hc6)⟩, by omega, ⟨rfl, rfl, rfl, trivial⟩, (by first | rfl | trivial), (by first | rfl | trivial)⟩
      ·
       (try simp only [hcS] at hc); have hc5 := hc; obtain rfl : i = j := (by omega); rw [if_neg (show ¬ (c.position ≠ 0 ∧ spotOf c ∈ sp.map spotOf) from fun ⟨h0, h1⟩ => by obtain ⟨d, hd, h3, h4⟩ := (hS.2.1 _).1 h1; obtain ⟨k, hk, rfl⟩ := List.getElem_of_mem hd; rw [List.getElem_take] at h4; exact hJ.2 k (by simp at hk; omega) (by simp at hk; omega) ⟨h0, h4⟩)] at hR
       refine AW.exit ?_; (try simp only [thenE, inBlk, Nat.reduceEqDiff, ↓reduceIte])
       clear hK K
       (refine hK _ ?_; clear hK K; (try simp only [nA, Nat.reduceBEq, Nat.reduceEqDiff, ↓reduceIte, Nat.reduceAdd, Nat.reduceSub]))
       (refine AW.seq_k ?_; intro K hK)
       refine AW.region ?_
       refine awP (op_assign rfl rfl) ?_
       refine AWL.nil ?_
       (refine hK _ ?_; clear hK K; (try simp only [nA, Nat.reduceBEq, Nat.reduceEqDiff, ↓reduceIte, Nat.reduceAdd, Nat.reduceSub]))
       refine AW.block ?_
       refine AW.loopI (fun (j : Nat) => [(0, .ro (xs.map Container.av)), (3, .v (.int .i64 (i : Nat))), (6, .v (.int .i64 (j : Nat)))]) (fun _ => ⟨[], 1⟩) (fun j => j ≤ c.pieces.length ∧ ∀ k (h : k < c.pieces.length), k < j → c.pieces[k].plate ∉ pl) (fun j => c.pieces.length - j) 0 ⟨by simp, by simp⟩ ⟨rfl, rfl, rfl, trivial⟩ rfl ?_; intro j ρ hJ; simp only [updL]; (try simp only [nA, Nat.reduceBEq, Nat.reduceEqDiff, ↓reduceIte, Nat.reduceAdd, Nat.reduceSub])
       (refine AW.seq_k ?_; intro K hK)
       (refine AW.seq_k ?_; intro K hK)
       refine AW.region ?_
       refine awP (op_move rfl rfl) ?_
       refine awP (op_move rfl rfl) ?_
       refine awP (op_move rfl rfl) ?_
       (first | refine awP (op_ia_ro i rfl (.inl rfl) rfl Try.underlying23 rfl (get_of hci) (by exact sz77) (Nat.le_of_ble_eq_true rfl)) ?_ | refine awP (op_ia_sl _ _ rfl rfl rfl rfl Try.underlying23 rfl (by omega) (by exact sz77) rfl) ?_)
       (first | refine awP (op_fa_ptr rfl rfl rfl fl77_7 (by exact sz53) (by decide) rfl) ?_ | refine awP (op_fa_rop rfl rfl fl77_7 (by exact sz53) (by decide) (Nat.le_of_ble_eq_true rfl) rfl) ?_)
       (first | refine awR (op_load_ptr1 rfl rfl rfl rfl ag53 rfl rfl) ?_ | refine awR (op_load_rop1 rfl rfl ag53) ?_)
       (first | refine awP (op_len_ro rfl rfl Try.underlying53 (by first | exact .inr (.inl ⟨_, rfl, rfl⟩) | exact .inl rfl | exact .inr (.inr (.inl ⟨_, rfl, rfl⟩)) | exact .inr (.inr (.inr ⟨rfl, rfl⟩)))) ?_ | refine awP (op_len_sl rfl rfl rfl Try.underlying53) ?_ | refine awP (op_len_str rfl rfl Try.underlying53) ?_)
       refine awP (op_lss rfl rfl rfl) ?_
       refine AWL.nil ?_
       (refine hK _ ?_; clear hK K; (try simp only [nA, Nat.reduceBEq, Nat.reduceEqDiff, ↓reduceIte, Nat.reduceAdd, Nat.reduceSub]))
       refine AW.cond rfl rfl rfl (fun hc => ?_) (fun hc => ?_)
       ·
        (try simp only [hcS] at hc); have hc7 := hc; have hjl : j < c.pieces.length := (by simpa using hc7); obtain ⟨p, hpj⟩ : ∃ p, c.pieces[j]? = some p := ⟨c.pieces[j], List.getElem?_eq_getElem hjl⟩; have hpe := (List.getElem?_eq_some_iff.1 hpj).2
        refine AW.skip ?_
        (refine hK _ ?_; clear hK K; (try simp only [nA, Nat.reduceBEq, Nat.reduceEqDiff, ↓reduceIte, Nat.reduceAdd, Nat.reduceSub]))
        (refine AW.seq_k ?_; intro K hK)
        refine AW.block ?_
        (refine AW.seq_k ?_; intro K hK)
        refine AW.ad [] mix rfl ?_
        refine adP 0 rfl (fun T' ok => op_move rfl rfl) (by first | exact trivial | exact ⟨rfl, trivial⟩ | exact ⟨rfl, rfl, trivial⟩ | exact ⟨rfl, rfl, rfl, trivial⟩) (by kernel_rfl) (by kernel_rfl) ?_
        refine adP 1 rfl (fun T' ok => op_move rfl rfl) (by first | exact trivial | exact ⟨rfl, trivial⟩ | exact ⟨rfl, rfl, trivial⟩ | exact ⟨rfl, rfl, rfl, trivial⟩) (by kernel_rfl) (by kernel_rfl) ?_
        refine adP 2 rfl (fun T' ok => op_slice_ro 0 i rfl (.inl rfl) (by exact rfl) (by exact ⟨_, rfl⟩) (Nat.zero_le _) (by simp; omega) Try.underlying23 sz77 (cav_len xs) (es' := (xs.take i).map Container.av) (by simp [List.map_take])) (by first | exact trivial | exact ⟨rfl, trivial⟩ | exact ⟨rfl, rfl, trivial⟩ | exact ⟨rfl, rfl, rfl, trivial⟩) (by kernel_rfl) (by kernel_rfl) ?_; (try simp only [nA, Nat.reduceBEq, Nat.reduceEqDiff, ↓reduceIte, Nat.reduceAdd, Nat.reduceSub])
        refine adP 3 rfl (fun T' ok => op_move rfl rfl) (by first | exact trivial | exact ⟨rfl, trivial⟩ | exact ⟨rfl, rfl, trivial⟩ | exact ⟨rfl, rfl, rfl, trivial⟩) (by kernel_rfl) (by kernel_rfl) ?_
        refine adP 4 rfl (fun T' ok => op_move rfl rfl) (by first | exact trivial | exact ⟨rfl, trivial⟩ | exact ⟨rfl, rfl, trivial⟩ | exact ⟨rfl, rfl, rfl, trivial⟩) (by kernel_rfl) (by kernel_rfl) ?_
        (first | refine adP 5 rfl (fun T' ok => op_ia_ro i rfl (.inl rfl) rfl Try.underlying23 rfl (get_of hci) (by exact sz77) (Nat.le_of_ble_eq_true rfl)) (by first | exact trivial | exact ⟨rfl, trivial⟩ | exact ⟨rfl, rfl, trivial⟩ | exact ⟨rfl, rfl, rfl, trivial⟩) (by kernel_rfl) (by kernel_rfl) ?_ | refine adP 5 rfl (fun T' ok => op_ia_sl _ _ rfl rfl rfl (by first | exact ok.1 | exact ok.2.1 | exact ok.2.2.1 | exact ok.2.2.2.1) Try.underlying23 rfl (by omega) (by exact sz77) rfl) (by first | exact trivial | exact ⟨rfl, trivial⟩ | exact ⟨rfl, rfl, trivial⟩ | exact ⟨rfl, rfl, rfl, trivial⟩) (by kernel_rfl) (by kernel_rfl) ?_)
        (first | refine adP 6 rfl (fun T' ok => op_fa_ptr rfl rfl (by first | exact ok.1 | exact ok.2.1 | exact ok.2.2.1 | exact ok.2.2.2.1) fl77_7 (by exact sz53) (by decide) rfl) (by first | exact trivial | exact ⟨rfl, trivial⟩ | exact ⟨rfl, rfl, trivial⟩ | exact ⟨rfl, rfl, rfl, trivial⟩) (by kernel_rfl) (by kernel_rfl) ?_ | refine adP 6 rfl (fun T' ok => op_fa_rop rfl rfl fl77_7 (by exact sz53) (by decide) (Nat.le_of_ble_eq_true rfl) rfl) (by first | exact trivial | exact ⟨rfl, trivial⟩ | exact ⟨rfl, rfl, trivial⟩ | exact ⟨rfl, rfl, rfl, trivial⟩) (by kernel_rfl) (by kernel_rfl) ?_)
        (first | refine adR 7 rfl (fun T' ok => op_load_ptr1 rfl rfl (by first | exact ok.1 | exact ok.2.1 | exact ok.2.2.1 | exact ok.2.2.2.1) rfl ag53 rfl rfl) (by first | exact trivial | exact ⟨rfl, trivial⟩ | exact ⟨rfl, rfl, trivial⟩ | exact ⟨rfl, rfl, rfl, trivial⟩) (by kernel_rfl) (by kernel_rfl) ?_ | refine adR 7 rfl (fun T' ok => op_load_rop1 rfl rfl ag53) (by first | exact trivial | exact ⟨rfl, trivial⟩ | exact ⟨rfl, rfl, trivial⟩ | exact ⟨rfl, rfl, rfl, trivial⟩) (by kernel_rfl) (by kernel_rfl) ?_)
        refine adP 8 rfl (fun T' ok => op_move rfl rfl) (by first | exact trivial | exact ⟨rfl, trivial⟩ | exact ⟨rfl, rfl, trivial⟩ | exact ⟨rfl, rfl, rfl, trivial⟩) (by kernel_rfl) (by kernel_rfl) ?_
        (first | refine adP 9 rfl (fun T' ok => op_ia_ro j rfl (.inl rfl) rfl Try.underlying53 rfl (get_of hpj) (by exact sz31) (Nat.le_of_ble_eq_true rfl)) (by first | exact trivial | exact ⟨rfl, trivial⟩ | exact ⟨rfl, rfl, trivial⟩ | exact ⟨rfl, rfl, rfl, trivial⟩) (by kernel_rfl) (by kernel_rfl) ?_ | refine adP 9 rfl (fun T' ok => op_ia_sl _ _ rfl rfl rfl (by first | exact ok.1 | exact ok.2.1 | exact ok.2.2.1 | exact ok.2.2.2.1) Try.underlying53 rfl (by omega) (by exact sz31) rfl) (by first | exact trivial | exact ⟨rfl, trivial⟩ | exact ⟨rfl, rfl, trivial⟩ | exact ⟨rfl, rfl, rfl, trivial⟩) (by kernel_rfl) (by kernel_rfl) ?_)
        (first | refine adP 10 rfl (fun T' ok => op_fa_ptr rfl rfl (by first | exact ok.1 | exact ok.2.1 | exact ok.2.2.1 | exact ok.2.2.2.1) fl31_0 (by exact sz29) (by decide) rfl) (by first | exact trivial | exact ⟨rfl, trivial⟩ | exact ⟨rfl, rfl, trivial⟩ | exact ⟨rfl, rfl, rfl, trivial⟩) (by kernel_rfl) (by kernel_rfl) ?_ | refine adP 10 rfl (fun T' ok => op_fa_rop rfl rfl fl31_0 (by exact sz29) (by decide) (Nat.le_of_ble_eq_true rfl) rfl) (by first | exact trivial | exact ⟨rfl, trivial⟩ | exact ⟨rfl, rfl, trivial⟩ | exact ⟨rfl, rfl, rfl, trivial⟩) (by kernel_rfl) (by kernel_rfl) ?_)
        (first | refine adR 11 rfl (fun T' ok => op_load_ptr rfl rfl (by first | exact ok.1 | exact ok.2.1 | exact ok.2.2.1 | exact ok.2.2.2.1) rfl ag29 sz29 (Nat.le_of_ble_eq_true rfl) rfl) (by first | exact trivial | exact ⟨rfl, trivial⟩ | exact ⟨rfl, rfl, trivial⟩ | exact ⟨rfl, rfl, rfl, trivial⟩) (by kernel_rfl) (by kernel_rfl) ?_ | refine adR 11 rfl (fun T' ok => op_load_rop rfl rfl ag29 sz29 (Nat.le_of_ble_eq_true rfl) (by decide) rfl) (by first | exact trivial | exact ⟨rfl, trivial⟩ | exact ⟨rfl, rfl, trivial⟩ | exact ⟨rfl, rfl, rfl, trivial⟩) (by kernel_rfl) (by kernel_rfl) ?_)
        refine adF 12 rfl (fun T' ok => op_callS rfl en71 (C71 (xs := xs.take i) (p := p.plate) (by simp; omega) (fun d hd => hb d (List.mem_of_mem_take hd))) (RL.cons (by first | exact View.same rfl | exact View.nil | exact View.rof | exact View.src .ro | exact View.src .rof | exact View.src (.sl rfl rfl) | exact View.ptr rfl rfl rfl) (RL.cons (by first | exact View.same rfl | exact View.nil | exact View.rof | exact View.src .ro | exact View.src .rof | exact View.src (.sl rfl rfl) | exact View.ptr rfl rfl rfl) (RL.nil))) rfl rfl rfl) (by first | exact trivial | exact ⟨rfl, trivial⟩ | exact ⟨rfl, rfl, trivial⟩ | exact ⟨rfl, rfl, rfl, trivial⟩) (by kernel_rfl) (by kernel_rfl) ?_; (try simp only [nA, Nat.reduceBEq, Nat.reduceEqDiff, ↓reduceIte, Nat.reduceAdd, Nat.reduceSub])
        refine adP 13 rfl (fun T' ok => op_move rfl rfl) (by first | exact trivial | exact ⟨rfl, trivial⟩ | exact ⟨rfl, rfl, trivial⟩ | exact ⟨rfl, rfl, rfl, trivial⟩) (by kernel_rfl) (by kernel_rfl) ?_
        refine adP 14 rfl (fun T' ok => op_extract rfl rfl rfl) (by first | exact trivial | exact ⟨rfl, trivial⟩ | exact ⟨rfl, rfl, trivial⟩ | exact ⟨rfl, rfl, rfl, trivial⟩) (by kernel_rfl) (by kernel_rfl) ?_
        refine adP 15 rfl (fun T' ok => op_extract rfl rfl rfl) (by first | exact trivial | exact ⟨rfl, trivial⟩ | exact ⟨rfl, rfl, trivial⟩ | exact ⟨rfl, rfl, rfl, trivial⟩) (by kernel_rfl) (by kernel_rfl) ?_
        refine adP 16 rfl (fun T' ok => op_assign rfl rfl) (by first | exact trivial | exact ⟨rfl, trivial⟩ | exact ⟨rfl, rfl, trivial⟩ | exact ⟨rfl, rfl, rfl, trivial⟩) (by kernel_rfl) (by kernel_rfl) ?_
        refine adP 17 rfl (fun T' ok => op_assign rfl rfl) (by first | exact trivial | exact ⟨rfl, trivial⟩ | exact ⟨rfl, rfl, trivial⟩ | exact ⟨rfl, rfl, rfl, trivial⟩) (by kernel_rfl) (by kernel_rfl) ?_
        refine adDone (by kernel_rfl) ?_
        (refine hK _ ?_; clear hK K; (try simp only [nA, Nat.reduceBEq, Nat.reduceEqDiff, ↓reduceIte, Nat.reduceAdd, Nat.reduceSub]))
        (refine AW.seq_k ?_; intro K hK)
        refine AW.region ?_
        refine awP (op_move rfl rfl) ?_
        refine AWL.nil ?_
        (refine hK _ ?_; clear hK K; (try simp only [nA, Nat.reduceBEq, Nat.reduceEqDiff, ↓reduceIte, Nat.reduceAdd, Nat.reduceSub]))
        refine AW.cond rfl rfl rfl (fun hc => ?_) (fun hc => ?_)
        ·
         (try simp only [hcS] at hc); have hc8 := hc; skip
         (refine AW.seq_k ?_; intro K hK)
         refine AW.region ?_
         refine awP (op_assign rfl rfl) ?_
         refine AWL.nil ?_
         (refine hK _ ?_; clear hK K; (try simp only [nA, Nat.reduceBEq, Nat.reduceEqDiff, ↓reduceIte, Nat.reduceAdd, Nat.reduceSub]))
         skip
         refine AW.ret ?_; (try simp only [thenE, inBlk, Nat.reduceEqDiff, ↓reduceIte]); rw [chkP_no c.pieces pl ⟨p, List.mem_of_getElem? hpj, (hS.2.2 _).2 (findL_snd.1 hc8)⟩] at hR; rw [hL, hR]; exact RQ.of0 rfl (.tmp (Nat.le_of_ble_eq_true rfl) rfl rfl .nil)
        ·
         (try simp only [hcS] at hc); have hc8 := hc; skip
         refine AW.skip ?_
         (try simp only [thenE, inBlk, Nat.reduceEqDiff, ↓reduceIte])
         (refine hK _ ?_; clear hK K; (try simp only [nA, Nat.reduceBEq, Nat.reduceEqDiff, ↓reduceIte, Nat.reduceAdd, Nat.reduceSub]))
         refine AW.region ?_
         refine awP (op_move rfl rfl) ?_
         (first | refine awP (op_addi rfl rfl rfl (by omega)) ?_ | refine awP (op_add rfl rfl rfl rfl) ?_)
         refine awP (op_assign rfl rfl) ?_
         skip
         refine AWL.nil ?_
         refine ⟨j + 1, ⟨by omega, fun k h hk => by rcases Nat.lt_or_ge k j with h' | h'; exact hJ.2 k h h'; (obtain rfl : k = j := by omega); rw [hpe]; intro hm; exact absurd (findL_snd.2 ((hS.2.2 _).1 hm)) (by simpa using hc8)⟩, by omega, ⟨rfl, rfl, rfl, trivial⟩, (by first | rfl | trivial), (by first | rfl | trivial)⟩
       ·
        (try simp only [hcS] at hc); have hc7 := hc; obtain rfl : j = c.pieces.length := (by simp at hc7; omega); obtain ⟨pl', hp1, hp2⟩ := chkP_yes c.pieces pl (ascP_iff.2 hv.2.2.2) (fun x hx => by obtain ⟨k, hk, rfl⟩ := List.getElem_of_mem hx; exact hJ.2 k hk hk); rw [hp1] at hR; simp only at hR
        refine AW.exit ?_; (try simp only [thenE, inBlk, Nat.reduceEqDiff, ↓reduceIte])
        clear hK K
        (try simp only [thenE, inBlk, Nat.reduceEqDiff, ↓reduceIte])
        (refine hK _ ?_; clear hK K; (try simp only [nA, Nat.reduceBEq, Nat.reduceEqDiff, ↓reduceIte, Nat.reduceAdd, Nat.reduceSub]))
        refine AW.region ?_
        refine awP (op_move rfl rfl) ?_
        (first | refine awP (op_addi rfl rfl rfl (by omega)) ?_ | refine awP (op_add rfl rfl rfl rfl) ?_)
        refine awP (op_assign rfl rfl) ?_
        skip
        refine AWL.nil ?_
        refine ⟨i + 1, ⟨by omega, seen_next hS hci hR hp2⟩, by omega, ⟨rfl, rfl, trivial⟩, (by first | rfl | trivial), (by first | rfl | trivial)⟩
   ·
    (try simp only [hcS] at hc); have hc2 := hc; obtain rfl : i = xs.length := (by simp at hc2; omega); have hR : (0 : Int) = chk none xs [] [] := (by rw [← hS.1, List.drop_length]; unfold chk; rfl)
    refine AW.exit ?_; (try simp only [thenE, inBlk, Nat.reduceEqDiff, ↓reduceIte])
    clear hK K
    (refine hK _ ?_; clear hK K; (try simp only [nA, Nat.reduceBEq, Nat.reduceEqDiff, ↓reduceIte, Nat.reduceAdd, Nat.reduceSub]))
    (refine AW.seq_k ?_; intro K hK)
    refine AW.region ?_
    refine awP (op_assign rfl rfl) ?_
    refine AWL.nil ?_
    (refine hK _ ?_; clear hK K; (try simp only [nA, Nat.reduceBEq, Nat.reduceEqDiff, ↓reduceIte, Nat.reduceAdd, Nat.reduceSub]))
    skip
    refine AW.ret ?_; (try simp only [thenE, inBlk, Nat.reduceEqDiff, ↓reduceIte]); rw [hL, ← hR]; exact RQ.of0 rfl (.tmp (Nat.le_of_ble_eq_true rfl) rfl rfl .nil)
end Go.Proofs.Ytdnofpggdddimaa
namespace Go.Proofs.Ytdnofpggdddimaa
open Go.RowKit
set_option linter.unusedSimpArgs false
set_option linter.unusedVariables false
set_option maxRecDepth 100000
instance : Inhabited Flight := ⟨⟨⟨#[]⟩, 0, ⟨#[]⟩, 0⟩⟩
instance : Inhabited Grant := ⟨⟨default, default⟩⟩
instance : Inhabited Op := ⟨⟨0, 0, 0, 0, 0, default⟩⟩
def grBad (l : List Grant) (i : Nat) : Bool := !grB (l.getD i default) || (decide ((i : Int) > 0) && decide (cmpP (l.getD (i - 1) default).piece.plate (l.getD i default).piece.plate ≥ 0))
def grsB (l : List Grant) : Bool := decide ((l.length : Int) ≤ 60) && (List.range l.length).all fun i => !grBad l i
theorem grs_no {l : List Grant} {i : Nat} (h : i < l.length) (hb : grBad l i = true) : grsB l = false := by
  unfold grsB
  rw [all_range_no h (by rw [hb]; rfl), Bool.and_false]
theorem grs_yes {l : List Grant} {i : Nat} (h : ¬ i < l.length) (hb : ∀ k, k < i → grBad l k = false) : grsB l = decide ((l.length : Int) ≤ 60) := by
  unfold grsB
  rw [all_range_yes h (fun k hk => by rw [hb k hk]; rfl), Bool.and_true]
theorem all_f_step {f : Nat → Bool} {i : Nat} (h : ∀ k, k < i → f k = false) (h2 : f i = false) : ∀ k, k < i + 1 → f k = false := fun k hk => by
  by_cases e : k = i
  · rw [e, h2]
  · exact h k (by omega)
theorem C48 {h : Hand} (hs : h.Sm) : Fn Try.prog 48 [] [.agg h.av] [.v (.bool (grsB h.grants))] [] := by
  have h1 := hs.g
  refine Spec.body Try.func48 rfl Try.ntmps48 (by simp) rfl ?_; intro S0 own0 v0 w0
  (refine AW.seq_k ?_; intro K hK)
  refine AW.region ?_
  refine awJ (op_box rfl rfl rfl sz87 rfl) ?_; (try simp only [nA, Nat.reduceBEq, Nat.reduceEqDiff, ↓reduceIte, Nat.reduceAdd, Nat.reduceSub])
  refine awP (op_assign rfl rfl) ?_
  refine AWL.nil ?_
  (refine hK _ ?_; clear hK K; (try simp only [nA, Nat.reduceBEq, Nat.reduceEqDiff, ↓reduceIte, Nat.reduceAdd, Nat.reduceSub]))
  (refine AW.seq_k ?_; intro K hK)
  (refine AW.seq_k ?_; intro K hK)
  refine AW.region ?_
  (first | refine awP (op_fa_ptr rfl rfl rfl fl87_4 (by exact sz22) (by decide) rfl) ?_ | refine awP (op_fa_rop rfl rfl fl87_4 (by exact sz22) (by decide) (Nat.le_of_ble_eq_true rfl) rfl) ?_)
  (first | refine awR (op_load_ptr1 rfl rfl rfl rfl ag22 rfl rfl) ?_ | refine awR (op_load_rop1 rfl rfl ag22) ?_)
  refine awP (op_len_ro (n := h.grants.length) rfl rfl Try.underlying22 (.inr (.inl ⟨_, rfl, by simp⟩))) ?_
  refine awP (op_gtr rfl rfl rfl) ?_
  refine AWL.nil ?_
  (refine hK _ ?_; clear hK K; (try simp only [nA, Nat.reduceBEq, Nat.reduceEqDiff, ↓reduceIte, Nat.reduceAdd, Nat.reduceSub]))
  refine AW.cond rfl rfl rfl (fun hc => ?_) (fun hc => ?_)
  ·
   (try simp only [hcS] at hc); have hc1 := hc; skip
   (refine AW.seq_k ?_; intro K hK)
   refine AW.region ?_
   refine awP (op_assign rfl rfl) ?_
   refine AWL.nil ?_
   (refine hK _ ?_; clear hK K; (try simp only [nA, Nat.reduceBEq, Nat.reduceEqDiff, ↓reduceIte, Nat.reduceAdd, Nat.reduceSub]))
   skip
   refine AW.ret ?_; (try simp only [thenE, inBlk, Nat.reduceEqDiff, ↓reduceIte]); rw [show grsB h.grants = false by unfold grsB; rw [decide_eq_false (by omega)]; rfl]; exact RQ.of0 rfl (.tmp (Nat.le_of_ble_eq_true rfl) rfl rfl .nil)
  ·
   (try simp only [hcS] at hc); have hc1 := hc; skip
   refine AW.skip ?_
   (refine hK _ ?_; clear hK K; (try simp only [nA, Nat.reduceBEq, Nat.reduceEqDiff, ↓reduceIte, Nat.reduceAdd, Nat.reduceSub]))
   (refine AW.seq_k ?_; intro K hK)
   (refine AW.seq_k ?_; intro K hK)
   refine AW.region ?_
   (first | refine awP (op_fa_ptr rfl rfl rfl fl87_4 (by exact sz22) (by decide) rfl) ?_ | refine awP (op_fa_rop rfl rfl fl87_4 (by exact sz22) (by decide) (Nat.le_of_ble_eq_true rfl) rfl) ?_)
   (first | refine awR (op_load_ptr1 rfl rfl rfl rfl ag22 rfl rfl) ?_ | refine awR (op_load_rop1 rfl rfl ag22) ?_)
   refine awP (op_len_ro (n := h.grants.length) rfl rfl Try.underlying22 (.inr (.inl ⟨_, rfl, by simp⟩))) ?_
   refine awP (op_move rfl rfl) ?_
   refine AWL.nil ?_
   (refine hK _ ?_; clear hK K; (try simp only [nA, Nat.reduceBEq, Nat.reduceEqDiff, ↓reduceIte, Nat.reduceAdd, Nat.reduceSub]))
   refine AW.block ?_
   refine AW.loopI (fun i => [(1, .ptr 0 1 0 0), (10, .ro (h.grants.map Grant.av)), (11, .v (.int .i64 h.grants.length)), (12, .v (.int .i64 (i : Nat)))]) (fun i => ⟨[(1, .own 87 [h.av])], 2 + i⟩) (fun i => i ≤ h.grants.length ∧ ∀ k, k < i → grBad h.grants k = false) (fun i => h.grants.length - i) 0 (by simp) ⟨rfl, rfl, rfl, rfl, trivial⟩ rfl ?_; intro i ρ hi; simp only [updL]; (try simp only [nA, Nat.reduceBEq, Nat.reduceEqDiff, ↓reduceIte, Nat.reduceAdd, Nat.reduceSub])
   (refine AW.seq_k ?_; intro K hK)
   refine AW.region ?_
   refine awP (op_lss rfl rfl rfl) ?_
   refine AWL.nil ?_
   (refine hK _ ?_; clear hK K; (try simp only [nA, Nat.reduceBEq, Nat.reduceEqDiff, ↓reduceIte, Nat.reduceAdd, Nat.reduceSub]))
   (refine AW.seq_k ?_; intro K hK)
   refine AW.cond rfl rfl rfl (fun hc => ?_) (fun hc => ?_)
   ·
    (try simp only [hcS] at hc); have hc2 := hc; have hlt : i < h.grants.length := (by simpa using hc2)
    refine AW.skip ?_
    (refine hK _ ?_; clear hK K; (try simp only [nA, Nat.reduceBEq, Nat.reduceEqDiff, ↓reduceIte, Nat.reduceAdd, Nat.reduceSub]))
    (refine AW.seq_k ?_; intro K hK)
    refine AW.block ?_
    (refine AW.seq_k ?_; intro K hK)
    refine AW.region ?_
    refine awP (op_move rfl rfl) ?_
    refine awP (op_ia_ro i rfl (.inl rfl) rfl Try.underlying22 rfl (get_mapD (by omega)) (by exact sz75) (Nat.le_of_ble_eq_true rfl)) ?_
    (first | refine awR (op_load_ptr rfl rfl rfl rfl ag75 sz75 (Nat.le_of_ble_eq_true rfl) rfl) ?_ | refine awR (op_load_rop rfl rfl ag75 sz75 (Nat.le_of_ble_eq_true rfl) (by decide) rfl) ?_)
    refine awJ (op_alloc rfl ze75 rfl) ?_; (try simp only [nA, Nat.reduceBEq, Nat.reduceEqDiff, ↓reduceIte, Nat.reduceAdd, Nat.reduceSub])
    refine awP (op_assign rfl rfl) ?_
    refine awJ (op_store rfl rfl rfl rfl rfl rfl sz75 rfl (Nat.le_of_ble_eq_true rfl) rfl) ?_; (try simp only [nA, Nat.reduceBEq, Nat.reduceEqDiff, ↓reduceIte, Nat.reduceAdd, Nat.reduceSub])
    refine AWL.nil ?_
    (refine hK _ ?_; clear hK K; (try simp only [nA, Nat.reduceBEq, Nat.reduceEqDiff, ↓reduceIte, Nat.reduceAdd, Nat.reduceSub]))
    (refine AW.seq_k ?_; intro K hK)
    refine AW.quiet mix (by kernel_rfl) ?_
    (first | refine aqR (op_load_ptr rfl rfl rfl rfl ag75 sz75 (Nat.le_of_ble_eq_true rfl) rfl) ?_ | refine aqR (op_load_rop rfl rfl ag75 sz75 (Nat.le_of_ble_eq_true rfl) (by decide) rfl) ?_)
    refine aqQ (op_callQ (b := true) rfl en62 (C62 (g := h.grants.getD i default)) (RL.cons (by first | exact View.same rfl | exact View.nil | exact View.rof | exact View.src .ro | exact View.src .rof | exact View.src (.sl rfl rfl) | exact View.ptr rfl rfl rfl) (RL.nil)) rfl) ?_; (try simp only [nA, Nat.reduceBEq, Nat.reduceEqDiff, ↓reduceIte, Nat.reduceAdd, Nat.reduceSub])
    refine aqP (op_not rfl rfl rfl) ?_
    refine aqP (op_move rfl rfl) ?_
    refine' aqOrN' [_, _, _, _, _, _, _, _, _, _, _, _, _, _, _, _, _] [21,22,23,24,25,26,27,28,29,30,31,32,33,34,35,36,37] rfl rfl rfl rfl rfl rfl rfl rfl rfl rfl rfl rfl (fun hb => ?_) ?_; rotate_left
    ·
     (try simp only [hcS] at hb)
     refine aqP (op_move rfl rfl) ?_
     refine aqP (op_gtr rfl rfl rfl) ?_
     refine aqP (op_move rfl rfl) ?_
     refine' aqAnd' [_, _, _, _, _, _, _, _, _, _, _, _, _] [24,25,26,27,28,29,30,31,32,33,34,35,36] rfl rfl rfl rfl rfl rfl rfl rfl rfl rfl rfl rfl (fun hb => ?_) ?_; rotate_left
     ·
      (try simp only [hcS] at hb)
      (first | refine aqP (op_fa_ptr rfl rfl rfl fl87_4 (by exact sz22) (by decide) rfl) ?_ | refine aqP (op_fa_rop rfl rfl fl87_4 (by exact sz22) (by decide) (Nat.le_of_ble_eq_true rfl) rfl) ?_)
      (first | refine aqR (op_load_ptr1 rfl rfl rfl rfl ag22 rfl rfl) ?_ | refine aqR (op_load_rop1 rfl rfl ag22) ?_)
      refine aqP (op_move rfl rfl) ?_
      (first | refine aqP (op_subi rfl rfl rfl (by omega)) ?_ | refine aqP (op_sub rfl rfl rfl rfl) ?_)
      refine aqP (op_ia_ro (i - 1) rfl (.inl rfl) rfl Try.underlying22 (by simp at hb; omega) (get_mapD (by omega)) (by exact sz75) (Nat.le_of_ble_eq_true rfl)) ?_
      (first | refine aqP (op_fa_ptr rfl rfl rfl fl75_0 (by exact sz31) (by decide) rfl) ?_ | refine aqP (op_fa_rop rfl rfl fl75_0 (by exact sz31) (by decide) (Nat.le_of_ble_eq_true rfl) rfl) ?_)
      (first | refine aqP (op_fa_ptr rfl rfl rfl fl31_0 (by exact sz29) (by decide) rfl) ?_ | refine aqP (op_fa_rop rfl rfl fl31_0 (by exact sz29) (by decide) (Nat.le_of_ble_eq_true rfl) rfl) ?_)
      (first | refine aqR (op_load_ptr rfl rfl rfl rfl ag29 sz29 (Nat.le_of_ble_eq_true rfl) rfl) ?_ | refine aqR (op_load_rop rfl rfl ag29 sz29 (Nat.le_of_ble_eq_true rfl) (by decide) rfl) ?_)
      (first | refine aqP (op_fa_ptr rfl rfl rfl fl75_0 (by exact sz31) (by decide) rfl) ?_ | refine aqP (op_fa_rop rfl rfl fl75_0 (by exact sz31) (by decide) (Nat.le_of_ble_eq_true rfl) rfl) ?_)
      (first | refine aqP (op_fa_ptr rfl rfl rfl fl31_0 (by exact sz29) (by decide) rfl) ?_ | refine aqP (op_fa_rop rfl rfl fl31_0 (by exact sz29) (by decide) (Nat.le_of_ble_eq_true rfl) rfl) ?_)
      (first | refine aqR (op_load_ptr rfl rfl rfl rfl ag29 sz29 (Nat.le_of_ble_eq_true rfl) rfl) ?_ | refine aqR (op_load_rop rfl rfl ag29 sz29 (Nat.le_of_ble_eq_true rfl) (by decide) rfl) ?_)
      refine aqQ (op_callQ (b := true) rfl en63 (C63 (p := (h.grants.getD (i - 1) default).piece.plate) (q := (h.grants.getD i default).piece.plate)) (RL.cons (by first | exact View.same rfl | exact View.nil | exact View.rof | exact View.src .ro | exact View.src .rof | exact View.src (.sl rfl rfl) | exact View.ptr rfl rfl rfl) (RL.cons (by first | exact View.same rfl | exact View.nil | exact View.rof | exact View.src .ro | exact View.src .rof | exact View.src (.sl rfl rfl) | exact View.ptr rfl rfl rfl) (RL.nil))) rfl) ?_; (try simp only [nA, Nat.reduceBEq, Nat.reduceEqDiff, ↓reduceIte, Nat.reduceAdd, Nat.reduceSub])
      refine aqP (op_geq rfl rfl rfl) ?_
      (refine aqSeg rfl rfl rfl ?_; repeat (first | exact fun _ _ => rfl | refine upd_out rfl ?_ | refine era_out rfl ?_))
     (try simp only [nA, Nat.reduceBEq, Nat.reduceEqDiff, ↓reduceIte, Nat.reduceAdd, Nat.reduceSub])
     (refine aqSeg rfl rfl rfl ?_; repeat (first | exact fun _ _ => rfl | refine upd_out rfl ?_ | refine era_out rfl ?_))
    (try simp only [nA, Nat.reduceBEq, Nat.reduceEqDiff, ↓reduceIte, Nat.reduceAdd, Nat.reduceSub])
    refine AQ.nil ?_
    (refine hK _ ?_; clear hK K; (try simp only [nA, Nat.reduceBEq, Nat.reduceEqDiff, ↓reduceIte, Nat.reduceAdd, Nat.reduceSub]))
    refine AW.cond rfl rfl rfl (fun hc => ?_) (fun hc => ?_)
    ·
     (try simp only [hcS] at hc); have hc3 := hc; skip
     (refine AW.seq_k ?_; intro K hK)
     refine AW.region ?_
     refine awP (op_assign rfl rfl) ?_
     refine AWL.nil ?_
     (refine hK _ ?_; clear hK K; (try simp only [nA, Nat.reduceBEq, Nat.reduceEqDiff, ↓reduceIte, Nat.reduceAdd, Nat.reduceSub]))
     skip
     refine AW.ret ?_; (try simp only [thenE, inBlk, Nat.reduceEqDiff, ↓reduceIte]); rw [grs_no hlt (by simpa [grBad] using hc3)]; exact RQ.of0 rfl (.tmp (Nat.le_of_ble_eq_true rfl) rfl rfl .nil)
    ·
     (try simp only [hcS] at hc); have hc3 := hc; skip
     refine AW.skip ?_
     (try simp only [thenE, inBlk, Nat.reduceEqDiff, ↓reduceIte])
     (refine hK _ ?_; clear hK K; (try simp only [nA, Nat.reduceBEq, Nat.reduceEqDiff, ↓reduceIte, Nat.reduceAdd, Nat.reduceSub]))
     refine AW.region ?_
     (first | refine awP (op_addi rfl rfl rfl (by omega)) ?_ | refine awP (op_add rfl rfl rfl rfl) ?_)
     refine awP (op_move rfl rfl) ?_
     refine AWL.gh (Gh.drop 1) ?_; (try simp only [nA, Nat.reduceBEq, Nat.reduceEqDiff, ↓reduceIte, Nat.reduceAdd, Nat.reduceSub])
     refine AWL.nil ?_
     refine ⟨i + 1, ⟨by omega, all_f_step hi.2 (by simp at hc3; simp [grBad]; exact ⟨hc3.1, fun c => hc3.2.resolve_left (by omega)⟩)⟩, by omega, ⟨rfl, rfl, rfl, rfl, trivial⟩, (by first | rfl | trivial), (by first | rfl | trivial)⟩
   ·
    (try simp only [hcS] at hc); have hc2 := hc; skip
    refine AW.exit ?_; (try simp only [thenE, inBlk, Nat.reduceEqDiff, ↓reduceIte])
    clear hK K
    (refine hK _ ?_; clear hK K; (try simp only [nA, Nat.reduceBEq, Nat.reduceEqDiff, ↓reduceIte, Nat.reduceAdd, Nat.reduceSub]))
    (refine AW.seq_k ?_; intro K hK)
    refine AW.region ?_
    refine awP (op_assign rfl rfl) ?_
    refine AWL.nil ?_
    (refine hK _ ?_; clear hK K; (try simp only [nA, Nat.reduceBEq, Nat.reduceEqDiff, ↓reduceIte, Nat.reduceAdd, Nat.reduceSub]))
    skip
    refine AW.ret ?_; (try simp only [thenE, inBlk, Nat.reduceEqDiff, ↓reduceIte]); rw [show grsB h.grants = true by rw [grs_yes (i := i) (by simp at hc2; omega) hi.2, decide_eq_true (by omega)]]; exact RQ.of0 rfl (.tmp (Nat.le_of_ble_eq_true rfl) rfl rfl .nil)
theorem C51 {l : List Grant} (h1 : l.length ≤ 1000) : Fn Try.prog 51 [] [.ro (l.map Grant.av)] [.v (.bool (grsB l))] [] := by
  refine Spec.body Try.func51 rfl Try.ntmps51 (by simp) rfl ?_; intro S0 own0 v0 w0
  (refine AW.seq_k ?_; intro K hK)
  refine AW.region ?_
  refine awP (op_assign rfl rfl) ?_
  refine AWL.nil ?_
  (refine hK _ ?_; clear hK K; (try simp only [nA, Nat.reduceBEq, Nat.reduceEqDiff, ↓reduceIte, Nat.reduceAdd, Nat.reduceSub]))
  (refine AW.seq_k ?_; intro K hK)
  (refine AW.seq_k ?_; intro K hK)
  refine AW.region ?_
  refine awP (op_assign rfl rfl) ?_
  refine AWL.nil ?_
  (refine hK _ ?_; clear hK K; (try simp only [nA, Nat.reduceBEq, Nat.reduceEqDiff, ↓reduceIte, Nat.reduceAdd, Nat.reduceSub]))
  refine AW.block ?_
  refine AW.loopI (fun i => [(0, .ro (l.map Grant.av)), (3, .v (.int .i64 (i : Nat)))]) (fun i => ⟨[], 1⟩) (fun i => i ≤ l.length ∧ ∀ k, k < i → grBad l k = false) (fun i => l.length - i) 0 (by simp) ⟨rfl, rfl, trivial⟩ rfl ?_; intro i ρ hi; simp only [updL]; (try simp only [nA, Nat.reduceBEq, Nat.reduceEqDiff, ↓reduceIte, Nat.reduceAdd, Nat.reduceSub])
  (refine AW.seq_k ?_; intro K hK)
  (refine AW.seq_k ?_; intro K hK)
  refine AW.region ?_
  refine awP (op_move rfl rfl) ?_
  refine awP (op_move rfl rfl) ?_
  refine awP (op_len_ro (n := l.length) rfl rfl Try.underlying22 (.inr (.inl ⟨_, rfl, by simp⟩))) ?_
  refine awP (op_lss rfl rfl rfl) ?_
  refine AWL.nil ?_
  (refine hK _ ?_; clear hK K; (try simp only [nA, Nat.reduceBEq, Nat.reduceEqDiff, ↓reduceIte, Nat.reduceAdd, Nat.reduceSub]))
  refine AW.cond rfl rfl rfl (fun hc => ?_) (fun hc => ?_)
  ·
   (try simp only [hcS] at hc); have hc1 := hc; have hlt : i < l.length := (by simpa using hc1)
   refine AW.skip ?_
   (refine hK _ ?_; clear hK K; (try simp only [nA, Nat.reduceBEq, Nat.reduceEqDiff, ↓reduceIte, Nat.reduceAdd, Nat.reduceSub]))
   (refine AW.seq_k ?_; intro K hK)
   refine AW.block ?_
   (refine AW.seq_k ?_; intro K hK)
   refine AW.quiet mix (by kernel_rfl) ?_
   refine aqP (op_move rfl rfl) ?_
   refine aqP (op_move rfl rfl) ?_
   refine aqP (op_ia_ro i rfl (.inl rfl) rfl Try.underlying22 rfl (get_mapD (by omega)) (by exact sz75) (Nat.le_of_ble_eq_true rfl)) ?_
   (first | refine aqR (op_load_ptr rfl rfl rfl rfl ag75 sz75 (Nat.le_of_ble_eq_true rfl) rfl) ?_ | refine aqR (op_load_rop rfl rfl ag75 sz75 (Nat.le_of_ble_eq_true rfl) (by decide) rfl) ?_)
   refine aqQ (op_callQ (b := true) rfl en67 (C67 (g := l.getD i default)) (RL.cons (by first | exact View.same rfl | exact View.nil | exact View.rof | exact View.src .ro | exact View.src .rof | exact View.src (.sl rfl rfl) | exact View.ptr rfl rfl rfl) (RL.nil)) rfl) ?_; (try simp only [nA, Nat.reduceBEq, Nat.reduceEqDiff, ↓reduceIte, Nat.reduceAdd, Nat.reduceSub])
   refine aqP (op_not rfl rfl rfl) ?_
   refine aqP (op_move rfl rfl) ?_
   refine' aqOrN' [_, _, _, _, _, _, _, _, _, _, _, _, _, _, _, _, _, _, _] [17,18,19,20,21,22,23,24,25,26,27,28,29,30,31,32,33,34,35] rfl rfl rfl rfl rfl rfl rfl rfl rfl rfl rfl rfl (fun hb => ?_) ?_; rotate_left
   ·
    (try simp only [hcS] at hb)
    refine aqP (op_move rfl rfl) ?_
    refine aqP (op_gtr rfl rfl rfl) ?_
    refine aqP (op_move rfl rfl) ?_
    refine' aqAnd' [_, _, _, _, _, _, _, _, _, _, _, _, _, _, _] [20,21,22,23,24,25,26,27,28,29,30,31,32,33,34] rfl rfl rfl rfl rfl rfl rfl rfl rfl rfl rfl rfl (fun hb => ?_) ?_; rotate_left
    ·
     (try simp only [hcS] at hb)
     refine aqP (op_move rfl rfl) ?_
     refine aqP (op_move rfl rfl) ?_
     (first | refine aqP (op_subi rfl rfl rfl (by omega)) ?_ | refine aqP (op_sub rfl rfl rfl rfl) ?_)
     refine aqP (op_ia_ro (i - 1) rfl (.inl rfl) rfl Try.underlying22 (by simp at hb; omega) (get_mapD (by omega)) (by exact sz75) (Nat.le_of_ble_eq_true rfl)) ?_
     (first | refine aqP (op_fa_ptr rfl rfl rfl fl75_0 (by exact sz31) (by decide) rfl) ?_ | refine aqP (op_fa_rop rfl rfl fl75_0 (by exact sz31) (by decide) (Nat.le_of_ble_eq_true rfl) rfl) ?_)
     (first | refine aqP (op_fa_ptr rfl rfl rfl fl31_0 (by exact sz29) (by decide) rfl) ?_ | refine aqP (op_fa_rop rfl rfl fl31_0 (by exact sz29) (by decide) (Nat.le_of_ble_eq_true rfl) rfl) ?_)
     (first | refine aqR (op_load_ptr rfl rfl rfl rfl ag29 sz29 (Nat.le_of_ble_eq_true rfl) rfl) ?_ | refine aqR (op_load_rop rfl rfl ag29 sz29 (Nat.le_of_ble_eq_true rfl) (by decide) rfl) ?_)
     refine aqP (op_move rfl rfl) ?_
     refine aqP (op_move rfl rfl) ?_
     refine aqP (op_ia_ro i rfl (.inl rfl) rfl Try.underlying22 rfl (get_mapD (by omega)) (by exact sz75) (Nat.le_of_ble_eq_true rfl)) ?_
     (first | refine aqP (op_fa_ptr rfl rfl rfl fl75_0 (by exact sz31) (by decide) rfl) ?_ | refine aqP (op_fa_rop rfl rfl fl75_0 (by exact sz31) (by decide) (Nat.le_of_ble_eq_true rfl) rfl) ?_)
     (first | refine aqP (op_fa_ptr rfl rfl rfl fl31_0 (by exact sz29) (by decide) rfl) ?_ | refine aqP (op_fa_rop rfl rfl fl31_0 (by exact sz29) (by decide) (Nat.le_of_ble_eq_true rfl) rfl) ?_)
     (first | refine aqR (op_load_ptr rfl rfl rfl rfl ag29 sz29 (Nat.le_of_ble_eq_true rfl) rfl) ?_ | refine aqR (op_load_rop rfl rfl ag29 sz29 (Nat.le_of_ble_eq_true rfl) (by decide) rfl) ?_)
     refine aqQ (op_callQ (b := true) rfl en68 (C68 (p := (l.getD (i - 1) default).piece.plate) (q := (l.getD i default).piece.plate)) (RL.cons (by first | exact View.same rfl | exact View.nil | exact View.rof | exact View.src .ro | exact View.src .rof | exact View.src (.sl rfl rfl) | exact View.ptr rfl rfl rfl) (RL.cons (by first | exact View.same rfl | exact View.nil | exact View.rof | exact View.src .ro | exact View.src .rof | exact View.src (.sl rfl rfl) | exact View.ptr rfl rfl rfl) (RL.nil))) rfl) ?_; (try simp only [nA, Nat.reduceBEq, Nat.reduceEqDiff, ↓reduceIte, Nat.reduceAdd, Nat.reduceSub])
     refine aqP (op_geq rfl rfl rfl) ?_
     (refine aqSeg rfl rfl rfl ?_; repeat (first | exact fun _ _ => rfl | refine upd_out rfl ?_ | refine era_out rfl ?_))
    (try simp only [nA, Nat.reduceBEq, Nat.reduceEqDiff, ↓reduceIte, Nat.reduceAdd, Nat.reduceSub])
    (refine aqSeg rfl rfl rfl ?_; repeat (first | exact fun _ _ => rfl | refine upd_out rfl ?_ | refine era_out rfl ?_))
   (try simp only [nA, Nat.reduceBEq, Nat.reduceEqDiff, ↓reduceIte, Nat.reduceAdd, Nat.reduceSub])
   refine AQ.nil ?_
   (refine hK _ ?_; clear hK K; (try simp only [nA, Nat.reduceBEq, Nat.reduceEqDiff, ↓reduceIte, Nat.reduceAdd, Nat.reduceSub]))
   refine AW.cond rfl rfl rfl (fun hc => ?_) (fun hc => ?_)
   ·
    (try simp only [hcS] at hc); have hc2 := hc; skip
    (refine AW.seq_k ?_; intro K hK)
    refine AW.region ?_
    refine awP (op_assign rfl rfl) ?_
    refine AWL.nil ?_
    (refine hK _ ?_; clear hK K; (try simp only [nA, Nat.reduceBEq, Nat.reduceEqDiff, ↓reduceIte, Nat.reduceAdd, Nat.reduceSub]))
    skip
    refine AW.ret ?_; (try simp only [thenE, inBlk, Nat.reduceEqDiff, ↓reduceIte]); rw [grs_no hlt (by simpa [grBad] using hc2)]; exact RQ.of0 rfl (.tmp (Nat.le_of_ble_eq_true rfl) rfl rfl .nil)
   ·
    (try simp only [hcS] at hc); have hc2 := hc; skip
    refine AW.skip ?_
    (try simp only [thenE, inBlk, Nat.reduceEqDiff, ↓reduceIte])
    (refine hK _ ?_; clear hK K; (try simp only [nA, Nat.reduceBEq, Nat.reduceEqDiff, ↓reduceIte, Nat.reduceAdd, Nat.reduceSub]))
    refine AW.region ?_
    refine awP (op_move rfl rfl) ?_
    (first | refine awP (op_addi rfl rfl rfl (by omega)) ?_ | refine awP (op_add rfl rfl rfl rfl) ?_)
    refine awP (op_assign rfl rfl) ?_
    skip
    refine AWL.nil ?_
    refine ⟨i + 1, ⟨by omega, all_f_step hi.2 (by simp at hc2; simp [grBad]; exact ⟨hc2.1, fun c => hc2.2.resolve_left (by omega)⟩)⟩, by omega, ⟨rfl, rfl, trivial⟩, (by first | rfl | trivial), (by first | rfl | trivial)⟩
  ·
   (try simp only [hcS] at hc); have hc1 := hc; skip
   refine AW.exit ?_; (try simp only [thenE, inBlk, Nat.reduceEqDiff, ↓reduceIte])
   clear hK K
   (refine hK _ ?_; clear hK K; (try simp only [nA, Nat.reduceBEq, Nat.reduceEqDiff, ↓reduceIte, Nat.reduceAdd, Nat.reduceSub]))
   (refine AW.seq_k ?_; intro K hK)
   refine AW.region ?_
   refine awP (op_move rfl rfl) ?_
   refine awP (op_len_ro (n := l.length) rfl rfl Try.underlying22 (.inr (.inl ⟨_, rfl, by simp⟩))) ?_
   refine awP (op_leq rfl rfl rfl) ?_
   refine awP (op_assign rfl rfl) ?_
   refine AWL.nil ?_
   (refine hK _ ?_; clear hK K; (try simp only [nA, Nat.reduceBEq, Nat.reduceEqDiff, ↓reduceIte, Nat.reduceAdd, Nat.reduceSub]))
   skip
   refine AW.ret ?_; (try simp only [thenE, inBlk, Nat.reduceEqDiff, ↓reduceIte]); rw [grs_yes (i := i) (by simp at hc1; omega) hi.2]; exact RQ.of0 rfl (.tmp (Nat.le_of_ble_eq_true rfl) rfl rfl .nil)
def empB (l : List Container) : Bool := l.all (fun c => decide (c.pieces.length = 0)) && decide (chkL l = 0)
theorem emp_no {l : List Container} {i : Nat} (h : i < l.length) (hb : ((l.getD i default).pieces.length : Int) > 0) : empB l = false := by
  unfold empB
  rw [List.all_eq_false.2 ⟨l[i], List.getElem_mem h, by
    rw [List.getD_eq_getElem?_getD, List.getElem?_eq_getElem h] at hb
    simp only [Option.getD_some] at hb
    simp only [decide_eq_true_eq]; omega⟩, Bool.false_and]
theorem emp_yes {l : List Container} {i : Nat} (h : ¬ i < l.length) (hb : ∀ k, k < i → (l.getD k default).pieces.length = 0) : empB l = decide (chkL l = 0) := by
  unfold empB
  rw [List.all_eq_true.2 fun c hc => by
    obtain ⟨k, hk, rfl⟩ := List.getElem_of_mem hc
    have := hb k (by omega)
    rw [List.getD_eq_getElem?_getD, List.getElem?_eq_getElem hk] at this
    simpa using this, Bool.true_and]
theorem C49 {h : Hand} (hs : h.Sm) : Fn Try.prog 49 [] [.agg h.av] [.v (.bool (empB h.conts))] [] := by
  have h1 := hs.c
  refine Spec.body Try.func49 rfl Try.ntmps49 (by simp) rfl ?_; intro S0 own0 v0 w0
  (refine AW.seq_k ?_; intro K hK)
  refine AW.region ?_
  refine awJ (op_box rfl rfl rfl sz87 rfl) ?_; (try simp only [nA, Nat.reduceBEq, Nat.reduceEqDiff, ↓reduceIte, Nat.reduceAdd, Nat.reduceSub])
  refine awP (op_assign rfl rfl) ?_
  refine AWL.nil ?_
  (refine hK _ ?_; clear hK K; (try simp only [nA, Nat.reduceBEq, Nat.reduceEqDiff, ↓reduceIte, Nat.reduceAdd, Nat.reduceSub]))
  (refine AW.seq_k ?_; intro K hK)
  (refine AW.seq_k ?_; intro K hK)
  refine AW.region ?_
  (first | refine awP (op_fa_ptr rfl rfl rfl fl87_5 (by exact sz23) (by decide) rfl) ?_ | refine awP (op_fa_rop rfl rfl fl87_5 (by exact sz23) (by decide) (Nat.le_of_ble_eq_true rfl) rfl) ?_)
  (first | refine awR (op_load_ptr1 rfl rfl rfl rfl ag23 rfl rfl) ?_ | refine awR (op_load_rop1 rfl rfl ag23) ?_)
  refine awP (op_len_ro (n := h.conts.length) rfl rfl Try.underlying23 (.inr (.inl ⟨_, rfl, by simp⟩))) ?_
  refine awP (op_move rfl rfl) ?_
  refine AWL.nil ?_
  (refine hK _ ?_; clear hK K; (try simp only [nA, Nat.reduceBEq, Nat.reduceEqDiff, ↓reduceIte, Nat.reduceAdd, Nat.reduceSub]))
  refine AW.block ?_
  refine AW.loopI (fun i => [(1, .ptr 0 1 0 0), (6, .ro (h.conts.map Container.av)), (7, .v (.int .i64 h.conts.length)), (8, .v (.int .i64 (i : Nat)))]) (fun i => ⟨[(1, .own 87 [h.av])], 2 + i⟩) (fun i => i ≤ h.conts.length ∧ ∀ k, k < i → (h.conts.getD k default).pieces.length = 0) (fun i => h.conts.length - i) 0 (by simp) ⟨rfl, rfl, rfl, rfl, trivial⟩ rfl ?_; intro i ρ hi; simp only [updL]; (try simp only [nA, Nat.reduceBEq, Nat.reduceEqDiff, ↓reduceIte, Nat.reduceAdd, Nat.reduceSub])
  (refine AW.seq_k ?_; intro K hK)
  refine AW.region ?_
  refine awP (op_lss rfl rfl rfl) ?_
  refine AWL.nil ?_
  (refine hK _ ?_; clear hK K; (try simp only [nA, Nat.reduceBEq, Nat.reduceEqDiff, ↓reduceIte, Nat.reduceAdd, Nat.reduceSub]))
  (refine AW.seq_k ?_; intro K hK)
  refine AW.cond rfl rfl rfl (fun hc => ?_) (fun hc => ?_)
  ·
   (try simp only [hcS] at hc); have hc1 := hc; have hlt : i < h.conts.length := (by simpa using hc1)
   refine AW.skip ?_
   (refine hK _ ?_; clear hK K; (try simp only [nA, Nat.reduceBEq, Nat.reduceEqDiff, ↓reduceIte, Nat.reduceAdd, Nat.reduceSub]))
   (refine AW.seq_k ?_; intro K hK)
   refine AW.block ?_
   (refine AW.seq_k ?_; intro K hK)
   refine AW.region ?_
   refine awP (op_ia_ro i rfl (.inl rfl) rfl Try.underlying23 rfl (get_mapD (by omega)) (by exact sz77) (Nat.le_of_ble_eq_true rfl)) ?_
   (first | refine awR (op_load_ptr rfl rfl rfl rfl ag77 sz77 (Nat.le_of_ble_eq_true rfl) rfl) ?_ | refine awR (op_load_rop rfl rfl ag77 sz77 (Nat.le_of_ble_eq_true rfl) (by decide) rfl) ?_)
   refine awJ (op_alloc rfl ze77 rfl) ?_; (try simp only [nA, Nat.reduceBEq, Nat.reduceEqDiff, ↓reduceIte, Nat.reduceAdd, Nat.reduceSub])
   refine awJ (op_store rfl rfl rfl rfl rfl rfl sz77 rfl (Nat.le_of_ble_eq_true rfl) rfl) ?_; (try simp only [nA, Nat.reduceBEq, Nat.reduceEqDiff, ↓reduceIte, Nat.reduceAdd, Nat.reduceSub])
   refine AWL.nil ?_
   (refine hK _ ?_; clear hK K; (try simp only [nA, Nat.reduceBEq, Nat.reduceEqDiff, ↓reduceIte, Nat.reduceAdd, Nat.reduceSub]))
   (refine AW.seq_k ?_; intro K hK)
   refine AW.region ?_
   (first | refine awP (op_fa_ptr rfl rfl rfl fl77_7 (by exact sz53) (by decide) rfl) ?_ | refine awP (op_fa_rop rfl rfl fl77_7 (by exact sz53) (by decide) (Nat.le_of_ble_eq_true rfl) rfl) ?_)
   (first | refine awR (op_load_ptr1 rfl rfl rfl rfl ag53 rfl rfl) ?_ | refine awR (op_load_rop1 rfl rfl ag53) ?_)
   refine awP (op_len_ro (n := (h.conts.getD i default).pieces.length) rfl rfl Try.underlying53 (.inr (.inl ⟨_, rfl, by simp⟩))) ?_
   refine awP (op_gtr rfl rfl rfl) ?_
   refine AWL.nil ?_
   (refine hK _ ?_; clear hK K; (try simp only [nA, Nat.reduceBEq, Nat.reduceEqDiff, ↓reduceIte, Nat.reduceAdd, Nat.reduceSub]))
   refine AW.cond rfl rfl rfl (fun hc => ?_) (fun hc => ?_)
   ·
    (try simp only [hcS] at hc); have hc2 := hc; skip
    (refine AW.seq_k ?_; intro K hK)
    refine AW.region ?_
    refine awP (op_assign rfl rfl) ?_
    refine AWL.nil ?_
    (refine hK _ ?_; clear hK K; (try simp only [nA, Nat.reduceBEq, Nat.reduceEqDiff, ↓reduceIte, Nat.reduceAdd, Nat.reduceSub]))
    skip
    refine AW.ret ?_; (try simp only [thenE, inBlk, Nat.reduceEqDiff, ↓reduceIte]); rw [emp_no hlt (by simpa using hc2)]; exact RQ.of0 rfl (.tmp (Nat.le_of_ble_eq_true rfl) rfl rfl .nil)
   ·
    (try simp only [hcS] at hc); have hc2 := hc; skip
    refine AW.skip ?_
    (try simp only [thenE, inBlk, Nat.reduceEqDiff, ↓reduceIte])
    (refine hK _ ?_; clear hK K; (try simp only [nA, Nat.reduceBEq, Nat.reduceEqDiff, ↓reduceIte, Nat.reduceAdd, Nat.reduceSub]))
    refine AW.region ?_
    (first | refine awP (op_addi rfl rfl rfl (by omega)) ?_ | refine awP (op_add rfl rfl rfl rfl) ?_)
    refine awP (op_move rfl rfl) ?_
    refine AWL.gh (Gh.drop 1) ?_; (try simp only [nA, Nat.reduceBEq, Nat.reduceEqDiff, ↓reduceIte, Nat.reduceAdd, Nat.reduceSub])
    refine AWL.nil ?_
    refine ⟨i + 1, ⟨by omega, fun k hk => ?_⟩, by omega, ⟨rfl, rfl, rfl, rfl, trivial⟩, (by first | rfl | trivial), (by first | rfl | trivial)⟩; (rcases Nat.lt_or_ge k i with h' | h'; exact hi.2 k h'; (obtain rfl : k = i := by omega); (simp at hc2; simpa using hc2))
  ·
   (try simp only [hcS] at hc); have hc1 := hc; skip
   refine AW.exit ?_; (try simp only [thenE, inBlk, Nat.reduceEqDiff, ↓reduceIte])
   clear hK K
   (refine hK _ ?_; clear hK K; (try simp only [nA, Nat.reduceBEq, Nat.reduceEqDiff, ↓reduceIte, Nat.reduceAdd, Nat.reduceSub]))
   (refine AW.seq_k ?_; intro K hK)
   refine AW.region ?_
   (first | refine awP (op_fa_ptr rfl rfl rfl fl87_5 (by exact sz23) (by decide) rfl) ?_ | refine awP (op_fa_rop rfl rfl fl87_5 (by exact sz23) (by decide) (Nat.le_of_ble_eq_true rfl) rfl) ?_)
   (first | refine awR (op_load_ptr1 rfl rfl rfl rfl ag23 rfl rfl) ?_ | refine awR (op_load_rop1 rfl rfl ag23) ?_)
   refine awJ (OpQ.j (op_callQ (b := true) rfl en64 (C64 (xs := h.conts) (by omega)) (RL.cons (by first | exact View.same rfl | exact View.nil | exact View.rof | exact View.src .ro | exact View.src .rof | exact View.src (.sl rfl rfl) | exact View.ptr rfl rfl rfl) (RL.nil)) rfl)) ?_; (try simp only [nA, Nat.reduceBEq, Nat.reduceEqDiff, ↓reduceIte, Nat.reduceAdd, Nat.reduceSub])
   (first | refine awP (op_eql rfl rfl rfl) ?_ | refine awP (op_seql rfl rfl rfl) ?_)
   refine awP (op_assign rfl rfl) ?_
   refine AWL.nil ?_
   (refine hK _ ?_; clear hK K; (try simp only [nA, Nat.reduceBEq, Nat.reduceEqDiff, ↓reduceIte, Nat.reduceAdd, Nat.reduceSub]))
   skip
   refine AW.ret ?_; (try simp only [thenE, inBlk, Nat.reduceEqDiff, ↓reduceIte]); rw [emp_yes (i := i) (by simp at hc1; omega) hi.2]; exact RQ.of0 rfl (.tmp (Nat.le_of_ble_eq_true rfl) rfl rfl .nil)
end Go.Proofs.Ytdnofpggdddimaa
namespace Go.Proofs.Ytdnofpggdddimaa
open Go.RowKit
set_option linter.unusedSimpArgs false
set_option linter.unusedVariables false
set_option maxRecDepth 100000
def lgBad (h : Hand) (i : Nat) : Bool := ((!opB (h.log.getD i default) || !decide ((h.log.getD i default).device = h.number)) || !decide ((h.log.getD i default).seq = (h.next - h.log.length) + i)) || (decide ((i : Int) > 0) && decide ((h.log.getD i default).time < (h.log.getD (i - 1) default).time))
def lgLast (h : Hand) : Bool := decide ((h.log.length : Int) = 0) || decide ((h.log.getD (h.log.length - 1) default).time ≤ h.last)
def logB (h : Hand) : Bool := (decide ((h.log.length : Int) ≤ 60) && (List.range h.log.length).all fun i => !lgBad h i) && lgLast h
theorem log_no {h : Hand} {i : Nat} (hi : i < h.log.length) (hb : lgBad h i = true) : logB h = false := by
  unfold logB
  rw [all_range_no hi (by rw [hb]; rfl), Bool.and_false, Bool.false_and]
theorem log_yes {h : Hand} {i : Nat} (hi : ¬ i < h.log.length) (hb : ∀ k, k < i → lgBad h k = false) : logB h = (decide ((h.log.length : Int) ≤ 60) && lgLast h) := by
  unfold logB
  rw [all_range_yes hi (fun k hk => by rw [hb k hk]; rfl), Bool.and_true]
theorem or_false_of {a b : Bool} (h : (a || b) = false) : a = false ∧ b = false := by simpa using h
theorem C50 {h : Hand} (hs : h.Sm) (hn : 0 ≤ h.next ∧ h.next ≤ 1048576) : Fn Try.prog 50 [] [.agg h.av] [.v (.bool (logB h))] [] := by
  have h1 := hs.l
  refine Spec.body Try.func50 rfl Try.ntmps50 (by simp) rfl ?_; intro S0 own0 v0 w0
  (refine AW.seq_k ?_; intro K hK)
  refine AW.region ?_
  refine awJ (op_box rfl rfl rfl sz87 rfl) ?_; (try simp only [nA, Nat.reduceBEq, Nat.reduceEqDiff, ↓reduceIte, Nat.reduceAdd, Nat.reduceSub])
  refine awP (op_assign rfl rfl) ?_
  refine AWL.nil ?_
  (refine hK _ ?_; clear hK K; (try simp only [nA, Nat.reduceBEq, Nat.reduceEqDiff, ↓reduceIte, Nat.reduceAdd, Nat.reduceSub]))
  (refine AW.seq_k ?_; intro K hK)
  (refine AW.seq_k ?_; intro K hK)
  refine AW.region ?_
  (first | refine awP (op_fa_ptr rfl rfl rfl fl87_6 (by exact sz24) (by decide) rfl) ?_ | refine awP (op_fa_rop rfl rfl fl87_6 (by exact sz24) (by decide) (Nat.le_of_ble_eq_true rfl) rfl) ?_)
  (first | refine awR (op_load_ptr1 rfl rfl rfl rfl ag24 rfl rfl) ?_ | refine awR (op_load_rop1 rfl rfl ag24) ?_)
  refine awP (op_len_ro (n := h.log.length) rfl rfl Try.underlying24 (.inr (.inl ⟨_, rfl, by simp⟩))) ?_
  refine awP (op_gtr rfl rfl rfl) ?_
  refine AWL.nil ?_
  (refine hK _ ?_; clear hK K; (try simp only [nA, Nat.reduceBEq, Nat.reduceEqDiff, ↓reduceIte, Nat.reduceAdd, Nat.reduceSub]))
  refine AW.cond rfl rfl rfl (fun hc => ?_) (fun hc => ?_)
  ·
   (skip); have hc1 := hc; skip
   (refine AW.seq_k ?_; intro K hK)
   refine AW.region ?_
   refine awP (op_assign rfl rfl) ?_
   refine AWL.nil ?_
   (refine hK _ ?_; clear hK K; (try simp only [nA, Nat.reduceBEq, Nat.reduceEqDiff, ↓reduceIte, Nat.reduceAdd, Nat.reduceSub]))
   skip
   refine AW.ret ?_; (try simp only [thenE, inBlk, Nat.reduceEqDiff, ↓reduceIte]); rw [show logB h = false by unfold logB; rw [decide_eq_false (by have := of_decide_eq_true hc1; omega)]; rfl]; exact RQ.of0 rfl (.tmp (Nat.le_of_ble_eq_true rfl) rfl rfl .nil)
  ·
   (skip); have hc1 := hc; skip
   refine AW.skip ?_
   (refine hK _ ?_; clear hK K; (try simp only [nA, Nat.reduceBEq, Nat.reduceEqDiff, ↓reduceIte, Nat.reduceAdd, Nat.reduceSub]))
   (refine AW.seq_k ?_; intro K hK)
   (refine AW.seq_k ?_; intro K hK)
   refine AW.region ?_
   (first | refine awP (op_fa_ptr rfl rfl rfl fl87_6 (by exact sz24) (by decide) rfl) ?_ | refine awP (op_fa_rop rfl rfl fl87_6 (by exact sz24) (by decide) (Nat.le_of_ble_eq_true rfl) rfl) ?_)
   (first | refine awR (op_load_ptr1 rfl rfl rfl rfl ag24 rfl rfl) ?_ | refine awR (op_load_rop1 rfl rfl ag24) ?_)
   refine awP (op_len_ro (n := h.log.length) rfl rfl Try.underlying24 (.inr (.inl ⟨_, rfl, by simp⟩))) ?_
   refine awP (op_move rfl rfl) ?_
   refine AWL.nil ?_
   (refine hK _ ?_; clear hK K; (try simp only [nA, Nat.reduceBEq, Nat.reduceEqDiff, ↓reduceIte, Nat.reduceAdd, Nat.reduceSub]))
   refine AW.block ?_
   refine AW.loopI (fun i => [(1, .ptr 0 1 0 0), (10, .ro (h.log.map Op.av)), (11, .v (.int .i64 h.log.length)), (12, .v (.int .i64 (i : Nat)))]) (fun i => ⟨[(1, .own 87 [h.av])], 2 + i⟩) (fun i => i ≤ h.log.length ∧ ∀ k, k < i → lgBad h k = false) (fun i => h.log.length - i) 0 (by simp) ⟨rfl, rfl, rfl, rfl, trivial⟩ rfl ?_; intro i ρ hi; simp only [updL]; (try simp only [nA, Nat.reduceBEq, Nat.reduceEqDiff, ↓reduceIte, Nat.reduceAdd, Nat.reduceSub])
   (refine AW.seq_k ?_; intro K hK)
   refine AW.region ?_
   refine awP (op_lss rfl rfl rfl) ?_
   refine AWL.nil ?_
   (refine hK _ ?_; clear hK K; (try simp only [nA, Nat.reduceBEq, Nat.reduceEqDiff, ↓reduceIte, Nat.reduceAdd, Nat.reduceSub]))
   (refine AW.seq_k ?_; intro K hK)
   refine AW.cond rfl rfl rfl (fun hc => ?_) (fun hc => ?_)
   ·
    (skip); have hc2 := hc; have hlt : i < h.log.length := (by simpa using hc2)
    refine AW.skip ?_
    (refine hK _ ?_; clear hK K; (try simp only [nA, Nat.reduceBEq, Nat.reduceEqDiff, ↓reduceIte, Nat.reduceAdd, Nat.reduceSub]))
    (refine AW.seq_k ?_; intro K hK)
    refine AW.block ?_
    (refine AW.seq_k ?_; intro K hK)
    refine AW.region ?_
    refine awP (op_move rfl rfl) ?_
    refine awP (op_ia_ro i rfl (.inl rfl) rfl Try.underlying24 rfl (get_mapD (by omega)) (by exact sz33) (Nat.le_of_ble_eq_true rfl)) ?_
    (first | refine awR (op_load_ptr rfl rfl rfl rfl ag33 sz33 (Nat.le_of_ble_eq_true rfl) rfl) ?_ | refine awR (op_load_rop rfl rfl ag33 sz33 (Nat.le_of_ble_eq_true rfl) (by decide) rfl) ?_)
    refine awJ (op_alloc rfl ze33 rfl) ?_; (try simp only [nA, Nat.reduceBEq, Nat.reduceEqDiff, ↓reduceIte, Nat.reduceAdd, Nat.reduceSub])
    refine awP (op_assign rfl rfl) ?_
    refine awJ (op_store rfl rfl rfl rfl rfl rfl sz33 rfl (Nat.le_of_ble_eq_true rfl) rfl) ?_; (try simp only [nA, Nat.reduceBEq, Nat.reduceEqDiff, ↓reduceIte, Nat.reduceAdd, Nat.reduceSub])
    refine AWL.nil ?_
    (refine hK _ ?_; clear hK K; (try simp only [nA, Nat.reduceBEq, Nat.reduceEqDiff, ↓reduceIte, Nat.reduceAdd, Nat.reduceSub]))
    (refine AW.seq_k ?_; intro K hK)
    refine AW.quiet mix (by kernel_rfl) ?_
    (first | refine aqR (op_load_ptr rfl rfl rfl rfl ag33 sz33 (Nat.le_of_ble_eq_true rfl) rfl) ?_ | refine aqR (op_load_rop rfl rfl ag33 sz33 (Nat.le_of_ble_eq_true rfl) (by decide) rfl) ?_)
    refine aqQ (op_callQ (b := true) rfl en20 (C20 (o := h.log.getD i default)) (RL.cons (by first | exact View.same rfl | exact View.nil | exact View.rof | exact View.src .ro | exact View.src .rof | exact View.src (.sl rfl rfl) | exact View.ptr rfl rfl rfl) (RL.nil)) rfl) ?_; (try simp only [nA, Nat.reduceBEq, Nat.reduceEqDiff, ↓reduceIte, Nat.reduceAdd, Nat.reduceSub])
    refine aqP (op_not rfl rfl rfl) ?_
    refine aqP (op_move rfl rfl) ?_
    refine' aqOr' [_, _, _, _, _] [21,22,23,24,25] rfl rfl rfl rfl rfl rfl rfl rfl rfl rfl rfl rfl (fun hb => ?_) ?_; rotate_left
    ·
     (try simp only [hcS] at hb)
     (first | refine aqP (op_fa_ptr rfl rfl rfl fl33_1 (by exact sz3) (by decide) rfl) ?_ | refine aqP (op_fa_rop rfl rfl fl33_1 (by exact sz3) (by decide) (Nat.le_of_ble_eq_true rfl) rfl) ?_)
     (first | refine aqR (op_load_ptr1 rfl rfl rfl rfl ag3 rfl rfl) ?_ | refine aqR (op_load_rop1 rfl rfl ag3) ?_)
     (first | refine aqP (op_fa_ptr rfl rfl rfl fl87_0 (by exact sz3) (by decide) rfl) ?_ | refine aqP (op_fa_rop rfl rfl fl87_0 (by exact sz3) (by decide) (Nat.le_of_ble_eq_true rfl) rfl) ?_)
     (first | refine aqR (op_load_ptr1 rfl rfl rfl rfl ag3 rfl rfl) ?_ | refine aqR (op_load_rop1 rfl rfl ag3) ?_)
     (first | refine aqP (op_neq rfl rfl rfl) ?_ | refine aqP (op_sneq rfl rfl rfl) ?_)
     (refine aqSeg rfl rfl rfl ?_; repeat (first | exact fun _ _ => rfl | refine upd_out rfl ?_ | refine era_out rfl ?_))
    (try simp only [nA, Nat.reduceBEq, Nat.reduceEqDiff, ↓reduceIte, Nat.reduceAdd, Nat.reduceSub])
    refine aqP (op_move rfl rfl) ?_
    refine' aqOr' [_, _, _, _, _, _, _, _, _, _, _] [28,29,30,31,32,33,34,35,36,37,38] rfl rfl rfl rfl rfl rfl rfl rfl rfl rfl rfl rfl (fun hb => ?_) ?_; rotate_left
    ·
     (try simp only [hcS] at hb)
     (first | refine aqP (op_fa_ptr rfl rfl rfl fl33_2 (by exact sz3) (by decide) rfl) ?_ | refine aqP (op_fa_rop rfl rfl fl33_2 (by exact sz3) (by decide) (Nat.le_of_ble_eq_true rfl) rfl) ?_)
     (first | refine aqR (op_load_ptr1 rfl rfl rfl rfl ag3 rfl rfl) ?_ | refine aqR (op_load_rop1 rfl rfl ag3) ?_)
     (first | refine aqP (op_fa_ptr rfl rfl rfl fl87_1 (by exact sz3) (by decide) rfl) ?_ | refine aqP (op_fa_rop rfl rfl fl87_1 (by exact sz3) (by decide) (Nat.le_of_ble_eq_true rfl) rfl) ?_)
     (first | refine aqR (op_load_ptr1 rfl rfl rfl rfl ag3 rfl rfl) ?_ | refine aqR (op_load_rop1 rfl rfl ag3) ?_)
     (first | refine aqP (op_fa_ptr rfl rfl rfl fl87_6 (by exact sz24) (by decide) rfl) ?_ | refine aqP (op_fa_rop rfl rfl fl87_6 (by exact sz24) (by decide) (Nat.le_of_ble_eq_true rfl) rfl) ?_)
     (first | refine aqR (op_load_ptr1 rfl rfl rfl rfl ag24 rfl rfl) ?_ | refine aqR (op_load_rop1 rfl rfl ag24) ?_)
     refine aqP (op_len_ro (n := h.log.length) rfl rfl Try.underlying24 (.inr (.inl ⟨_, rfl, by simp⟩))) ?_
     (first | refine aqP (op_subi rfl rfl rfl (by omega)) ?_ | refine aqP (op_sub rfl rfl rfl rfl) ?_)
     refine aqP (op_move rfl rfl) ?_
     (first | refine aqP (op_addi rfl rfl rfl (by omega)) ?_ | refine aqP (op_add rfl rfl rfl rfl) ?_)
     (first | refine aqP (op_neq rfl rfl rfl) ?_ | refine aqP (op_sneq rfl rfl rfl) ?_)
     (refine aqSeg rfl rfl rfl ?_; repeat (first | exact fun _ _ => rfl | refine upd_out rfl ?_ | refine era_out rfl ?_))
    (try simp only [nA, Nat.reduceBEq, Nat.reduceEqDiff, ↓reduceIte, Nat.reduceAdd, Nat.reduceSub])
    refine aqP (op_move rfl rfl) ?_
    refine' aqOrN' [_, _, _, _, _, _, _, _, _, _, _, _, _, _] [41,42,43,44,45,46,47,48,49,50,51,52,53,54] rfl rfl rfl rfl rfl rfl rfl rfl rfl rfl rfl rfl (fun hb => ?_) ?_; rotate_left
    ·
     (try simp only [hcS] at hb)
     refine aqP (op_move rfl rfl) ?_
     refine aqP (op_gtr rfl rfl rfl) ?_
     refine aqP (op_move rfl rfl) ?_
     refine' aqAnd' [_, _, _, _, _, _, _, _, _, _] [44,45,46,47,48,49,50,51,52,53] rfl rfl rfl rfl rfl rfl rfl rfl rfl rfl rfl rfl (fun hb => ?_) ?_; rotate_left
     ·
      (try simp only [hcS] at hb)
      (first | refine aqP (op_fa_ptr rfl rfl rfl fl33_0 (by exact sz3) (by decide) rfl) ?_ | refine aqP (op_fa_rop rfl rfl fl33_0 (by exact sz3) (by decide) (Nat.le_of_ble_eq_true rfl) rfl) ?_)
      (first | refine aqR (op_load_ptr1 rfl rfl rfl rfl ag3 rfl rfl) ?_ | refine aqR (op_load_rop1 rfl rfl ag3) ?_)
      (first | refine aqP (op_fa_ptr rfl rfl rfl fl87_6 (by exact sz24) (by decide) rfl) ?_ | refine aqP (op_fa_rop rfl rfl fl87_6 (by exact sz24) (by decide) (Nat.le_of_ble_eq_true rfl) rfl) ?_)
      (first | refine aqR (op_load_ptr1 rfl rfl rfl rfl ag24 rfl rfl) ?_ | refine aqR (op_load_rop1 rfl rfl ag24) ?_)
      refine aqP (op_move rfl rfl) ?_
      (first | refine aqP (op_subi rfl rfl rfl (by omega)) ?_ | refine aqP (op_sub rfl rfl rfl rfl) ?_)
      refine aqP (op_ia_ro (i - 1) rfl (.inl rfl) rfl Try.underlying24 (by simp at hb; omega) (get_mapD (by omega)) (by exact sz33) (Nat.le_of_ble_eq_true rfl)) ?_
      (first | refine aqP (op_fa_ptr rfl rfl rfl fl33_0 (by exact sz3) (by decide) rfl) ?_ | refine aqP (op_fa_rop rfl rfl fl33_0 (by exact sz3) (by decide) (Nat.le_of_ble_eq_true rfl) rfl) ?_)
      (first | refine aqR (op_load_ptr1 rfl rfl rfl rfl ag3 rfl rfl) ?_ | refine aqR (op_load_rop1 rfl rfl ag3) ?_)
      refine aqP (op_lss rfl rfl rfl) ?_
      (refine aqSeg rfl rfl rfl ?_; repeat (first | exact fun _ _ => rfl | refine upd_out rfl ?_ | refine era_out rfl ?_))
     (try simp only [nA, Nat.reduceBEq, Nat.reduceEqDiff, ↓reduceIte, Nat.reduceAdd, Nat.reduceSub])
     (refine aqSeg rfl rfl rfl ?_; repeat (first | exact fun _ _ => rfl | refine upd_out rfl ?_ | refine era_out rfl ?_))
    (try simp only [nA, Nat.reduceBEq, Nat.reduceEqDiff, ↓reduceIte, Nat.reduceAdd, Nat.reduceSub])
    refine AQ.nil ?_
    (refine hK _ ?_; clear hK K; (try simp only [nA, Nat.reduceBEq, Nat.reduceEqDiff, ↓reduceIte, Nat.reduceAdd, Nat.reduceSub]))
    refine AW.cond rfl rfl rfl (fun hc => ?_) (fun hc => ?_)
    ·
     (skip); have hc3 := hc; skip
     (refine AW.seq_k ?_; intro K hK)
     refine AW.region ?_
     refine awP (op_assign rfl rfl) ?_
     refine AWL.nil ?_
     (refine hK _ ?_; clear hK K; (try simp only [nA, Nat.reduceBEq, Nat.reduceEqDiff, ↓reduceIte, Nat.reduceAdd, Nat.reduceSub]))
     skip
     refine AW.ret ?_; (try simp only [thenE, inBlk, Nat.reduceEqDiff, ↓reduceIte]); rw [log_no hlt hc3]; exact RQ.of0 rfl (.tmp (Nat.le_of_ble_eq_true rfl) rfl rfl .nil)
    ·
     (skip); have hc3 := hc; skip
     refine AW.skip ?_
     (try simp only [thenE, inBlk, Nat.reduceEqDiff, ↓reduceIte])
     (refine hK _ ?_; clear hK K; (try simp only [nA, Nat.reduceBEq, Nat.reduceEqDiff, ↓reduceIte, Nat.reduceAdd, Nat.reduceSub]))
     refine AW.region ?_
     (first | refine awP (op_addi rfl rfl rfl (by omega)) ?_ | refine awP (op_add rfl rfl rfl rfl) ?_)
     refine awP (op_move rfl rfl) ?_
     refine AWL.gh (Gh.drop 1) ?_; (try simp only [nA, Nat.reduceBEq, Nat.reduceEqDiff, ↓reduceIte, Nat.reduceAdd, Nat.reduceSub])
     refine AWL.nil ?_
     refine ⟨i + 1, ⟨by omega, all_f_step hi.2 hc3⟩, by omega, ⟨rfl, rfl, rfl, rfl, trivial⟩, (by first | rfl | trivial), (by first | rfl | trivial)⟩
   ·
    (skip); have hc2 := hc; have hnl : ¬ i < h.log.length := (by simpa using hc2)
    refine AW.exit ?_; (try simp only [thenE, inBlk, Nat.reduceEqDiff, ↓reduceIte])
    clear hK K
    (refine hK _ ?_; clear hK K; (try simp only [nA, Nat.reduceBEq, Nat.reduceEqDiff, ↓reduceIte, Nat.reduceAdd, Nat.reduceSub]))
    (refine AW.seq_k ?_; intro K hK)
    refine AW.quiet mix (by kernel_rfl) ?_
    (first | refine aqP (op_fa_ptr rfl rfl rfl fl87_6 (by exact sz24) (by decide) rfl) ?_ | refine aqP (op_fa_rop rfl rfl fl87_6 (by exact sz24) (by decide) (Nat.le_of_ble_eq_true rfl) rfl) ?_)
    (first | refine aqR (op_load_ptr1 rfl rfl rfl rfl ag24 rfl rfl) ?_ | refine aqR (op_load_rop1 rfl rfl ag24) ?_)
    refine aqP (op_len_ro (n := h.log.length) rfl rfl Try.underlying24 (.inr (.inl ⟨_, rfl, by simp⟩))) ?_
    (first | refine aqP (op_eql rfl rfl rfl) ?_ | refine aqP (op_seql rfl rfl rfl) ?_)
    refine aqP (op_move rfl rfl) ?_
    refine' aqOr' [_, _, _, _, _, _, _, _, _, _, _, _] [62,63,64,65,66,67,68,69,70,71,72,73] rfl rfl rfl rfl rfl rfl rfl rfl rfl rfl rfl rfl (fun hb => ?_) ?_; rotate_left
    ·
     (try simp only [hcS] at hb)
     (first | refine aqP (op_fa_ptr rfl rfl rfl fl87_6 (by exact sz24) (by decide) rfl) ?_ | refine aqP (op_fa_rop rfl rfl fl87_6 (by exact sz24) (by decide) (Nat.le_of_ble_eq_true rfl) rfl) ?_)
     (first | refine aqR (op_load_ptr1 rfl rfl rfl rfl ag24 rfl rfl) ?_ | refine aqR (op_load_rop1 rfl rfl ag24) ?_)
     (first | refine aqP (op_fa_ptr rfl rfl rfl fl87_6 (by exact sz24) (by decide) rfl) ?_ | refine aqP (op_fa_rop rfl rfl fl87_6 (by exact sz24) (by decide) (Nat.le_of_ble_eq_true rfl) rfl) ?_)
     (first | refine aqR (op_load_ptr1 rfl rfl rfl rfl ag24 rfl rfl) ?_ | refine aqR (op_load_rop1 rfl rfl ag24) ?_)
     refine aqP (op_len_ro (n := h.log.length) rfl rfl Try.underlying24 (.inr (.inl ⟨_, rfl, by simp⟩))) ?_
     (first | refine aqP (op_subi rfl rfl rfl (by omega)) ?_ | refine aqP (op_sub rfl rfl rfl rfl) ?_)
     refine aqP (op_ia_ro (h.log.length - 1) rfl (.inl rfl) rfl Try.underlying24 (by omega) (get_mapD (by omega)) (by exact sz33) (Nat.le_of_ble_eq_true rfl)) ?_
     (first | refine aqP (op_fa_ptr rfl rfl rfl fl33_0 (by exact sz3) (by decide) rfl) ?_ | refine aqP (op_fa_rop rfl rfl fl33_0 (by exact sz3) (by decide) (Nat.le_of_ble_eq_true rfl) rfl) ?_)
     (first | refine aqR (op_load_ptr1 rfl rfl rfl rfl ag3 rfl rfl) ?_ | refine aqR (op_load_rop1 rfl rfl ag3) ?_)
     (first | refine aqP (op_fa_ptr rfl rfl rfl fl87_2 (by exact sz3) (by decide) rfl) ?_ | refine aqP (op_fa_rop rfl rfl fl87_2 (by exact sz3) (by decide) (Nat.le_of_ble_eq_true rfl) rfl) ?_)
     (first | refine aqR (op_load_ptr1 rfl rfl rfl rfl ag3 rfl rfl) ?_ | refine aqR (op_load_rop1 rfl rfl ag3) ?_)
     refine aqP (op_leq rfl rfl rfl) ?_
     (refine aqSeg rfl rfl rfl ?_; repeat (first | exact fun _ _ => rfl | refine upd_out rfl ?_ | refine era_out rfl ?_))
    (try simp only [nA, Nat.reduceBEq, Nat.reduceEqDiff, ↓reduceIte, Nat.reduceAdd, Nat.reduceSub])
    refine aqP (op_assign rfl rfl) ?_
    refine AQ.nil ?_
    (refine hK _ ?_; clear hK K; (try simp only [nA, Nat.reduceBEq, Nat.reduceEqDiff, ↓reduceIte, Nat.reduceAdd, Nat.reduceSub]))
    skip
    refine AW.ret ?_; (try simp only [thenE, inBlk, Nat.reduceEqDiff, ↓reduceIte]); rw [show logB h = lgLast h by rw [log_yes hnl hi.2, decide_eq_true (by have := of_decide_eq_false hc1; omega), Bool.true_and]]; exact RQ.of0 rfl (.tmp (Nat.le_of_ble_eq_true rfl) rfl rfl .nil)
end Go.Proofs.Ytdnofpggdddimaa
namespace Go.Proofs.Ytdnofpggdddimaa
open Go.RowKit
set_option linter.unusedSimpArgs false
set_option linter.unusedVariables false
set_option maxRecDepth 100000
def lgBadR (h : Hand) (i : Nat) : Bool := lgBad h i || decide ((h.log.getD i default).time > h.last)
def logR (h : Hand) : Bool := ((List.range h.log.length).all fun i => !lgBadR h i) && decide ((h.log.length : Int) ≤ 60)
theorem asc_time {h : Hand} (hb : ∀ k, k < h.log.length → lgBad h k = false) : ∀ (d i : Nat), i + d < h.log.length → (h.log.getD i default).time ≤ (h.log.getD (i + d) default).time
  | 0, i, _ => Int.le_refl _
  | d + 1, i, hl => by
    have h1 := asc_time hb d i (by omega)
    have h2 := (or_false_of (hb (i + d + 1) hl)).2
    rw [show i + d + 1 - 1 = i + d by omega, decide_eq_true (by omega), Bool.true_and, decide_eq_false_iff_not] at h2
    rw [show i + (d + 1) = i + d + 1 by omega]
    omega
theorem logR_eq (h : Hand) : logR h = logB h := by
  by_cases hb : ∀ k, k < h.log.length → lgBad h k = false
  · rw [log_yes (i := h.log.length) (by omega) hb]
    unfold logR
    rw [Bool.and_comm]
    congr 1
    by_cases h0 : h.log.length = 0
    · rw [show lgLast h = true by unfold lgLast; rw [decide_eq_true (by omega), Bool.true_or], h0]; rfl
    · have e : lgLast h = decide ((h.log.getD (h.log.length - 1) default).time ≤ h.last) := by unfold lgLast; rw [decide_eq_false (by omega), Bool.false_or]
      rw [e]
      by_cases hl : (h.log.getD (h.log.length - 1) default).time ≤ h.last
      · rw [decide_eq_true hl]
        refine all_range_yes (i := h.log.length) (by omega) fun k hk => ?_
        have := asc_time hb (h.log.length - 1 - k) k (by omega)
        rw [show k + (h.log.length - 1 - k) = h.log.length - 1 by omega] at this
        unfold lgBadR
        rw [hb k hk, decide_eq_false (by omega)]; rfl
      · rw [decide_eq_false hl]
        exact all_range_no (i := h.log.length - 1) (by omega) (by unfold lgBadR; rw [decide_eq_true (by omega)]; simp)
  · have : ∃ k, k < h.log.length ∧ lgBad h k = true := by
      refine Classical.byContradiction fun hc => hb fun k hk => ?_
      cases e : lgBad h k with
      | false => rfl
      | true => exact absurd ⟨k, hk, e⟩ hc
    obtain ⟨k, hk, e⟩ := this
    rw [log_no hk e]
    unfold logR
    rw [all_range_no hk (by unfold lgBadR; rw [e]; rfl), Bool.false_and]
theorem C53r {h : Hand} (hs : h.Sm) (hn : 0 ≤ h.next ∧ h.next ≤ 1048576) : Fn Try.prog 53 [] [.agg h.av] [.v (.bool (logR h))] [] := by
  have h1 := hs.l
  refine Spec.body Try.func53 rfl Try.ntmps53 (by simp) rfl ?_; intro S0 own0 v0 w0
  (refine AW.seq_k ?_; intro K hK)
  refine AW.region ?_
  refine awJ (op_box rfl rfl rfl sz26 rfl) ?_; (try simp only [nA, Nat.reduceBEq, Nat.reduceEqDiff, ↓reduceIte, Nat.reduceAdd, Nat.reduceSub])
  refine awP (op_assign rfl rfl) ?_
  refine AWL.nil ?_
  (refine hK _ ?_; clear hK K; (try simp only [nA, Nat.reduceBEq, Nat.reduceEqDiff, ↓reduceIte, Nat.reduceAdd, Nat.reduceSub]))
  (refine AW.seq_k ?_; intro K hK)
  (refine AW.seq_k ?_; intro K hK)
  refine AW.region ?_
  refine awP (op_assign rfl rfl) ?_
  refine AWL.nil ?_
  (refine hK _ ?_; clear hK K; (try simp only [nA, Nat.reduceBEq, Nat.reduceEqDiff, ↓reduceIte, Nat.reduceAdd, Nat.reduceSub]))
  refine AW.block ?_
  refine AW.loopI (fun i => [(1, .ptr 0 1 0 0), (3, .v (.int .i64 (i : Nat)))]) (fun i => ⟨[(1, .own 26 [h.av])], 2 + i⟩) (fun i => i ≤ h.log.length ∧ ∀ k, k < i → lgBadR h k = false) (fun i => h.log.length - i) 0 (by simp) ⟨rfl, rfl, trivial⟩ rfl ?_; intro i ρ hi; simp only [updL]; (try simp only [nA, Nat.reduceBEq, Nat.reduceEqDiff, ↓reduceIte, Nat.reduceAdd, Nat.reduceSub])
  (refine AW.seq_k ?_; intro K hK)
  (refine AW.seq_k ?_; intro K hK)
  refine AW.region ?_
  refine awP (op_move rfl rfl) ?_
  (first | refine awP (op_fa_ptr rfl rfl rfl fl26_6 (by exact sz24) (by decide) rfl) ?_ | refine awP (op_fa_rop rfl rfl fl26_6 (by exact sz24) (by decide) (Nat.le_of_ble_eq_true rfl) rfl) ?_)
  (first | refine awR (op_load_ptr1 rfl rfl rfl rfl ag24 rfl rfl) ?_ | refine awR (op_load_rop1 rfl rfl ag24) ?_)
  refine awP (op_len_ro (n := h.log.length) rfl rfl Try.underlying24 (.inr (.inl ⟨_, rfl, by simp⟩))) ?_
  refine awP (op_lss rfl rfl rfl) ?_
  refine AWL.nil ?_
  (refine hK _ ?_; clear hK K; (try simp only [nA, Nat.reduceBEq, Nat.reduceEqDiff, ↓reduceIte, Nat.reduceAdd, Nat.reduceSub]))
  refine AW.cond rfl rfl rfl (fun hc => ?_) (fun hc => ?_)
  ·
   (skip); have hc1 := hc; have hlt : i < h.log.length := (by simpa using hc1)
   refine AW.skip ?_
   (refine hK _ ?_; clear hK K; (try simp only [nA, Nat.reduceBEq, Nat.reduceEqDiff, ↓reduceIte, Nat.reduceAdd, Nat.reduceSub]))
   (refine AW.seq_k ?_; intro K hK)
   refine AW.block ?_
   (refine AW.seq_k ?_; intro K hK)
   refine AW.region ?_
   (first | refine awP (op_fa_ptr rfl rfl rfl fl26_6 (by exact sz24) (by decide) rfl) ?_ | refine awP (op_fa_rop rfl rfl fl26_6 (by exact sz24) (by decide) (Nat.le_of_ble_eq_true rfl) rfl) ?_)
   (first | refine awR (op_load_ptr1 rfl rfl rfl rfl ag24 rfl rfl) ?_ | refine awR (op_load_rop1 rfl rfl ag24) ?_)
   refine awP (op_move rfl rfl) ?_
   refine awP (op_ia_ro i rfl (.inl rfl) rfl Try.underlying24 rfl (get_mapD (by omega)) (by exact sz33) (Nat.le_of_ble_eq_true rfl)) ?_
   (first | refine awR (op_load_ptr rfl rfl rfl rfl ag33 sz33 (Nat.le_of_ble_eq_true rfl) rfl) ?_ | refine awR (op_load_rop rfl rfl ag33 sz33 (Nat.le_of_ble_eq_true rfl) (by decide) rfl) ?_)
   refine awJ (op_alloc rfl ze33 rfl) ?_; (try simp only [nA, Nat.reduceBEq, Nat.reduceEqDiff, ↓reduceIte, Nat.reduceAdd, Nat.reduceSub])
   refine awJ (op_store rfl rfl rfl rfl rfl rfl sz33 rfl (Nat.le_of_ble_eq_true rfl) rfl) ?_; (try simp only [nA, Nat.reduceBEq, Nat.reduceEqDiff, ↓reduceIte, Nat.reduceAdd, Nat.reduceSub])
   refine AWL.nil ?_
   (refine hK _ ?_; clear hK K; (try simp only [nA, Nat.reduceBEq, Nat.reduceEqDiff, ↓reduceIte, Nat.reduceAdd, Nat.reduceSub]))
   (refine AW.seq_k ?_; intro K hK)
   refine AW.quiet mix (by kernel_rfl) ?_
   (first | refine aqR (op_load_ptr rfl rfl rfl rfl ag33 sz33 (Nat.le_of_ble_eq_true rfl) rfl) ?_ | refine aqR (op_load_rop rfl rfl ag33 sz33 (Nat.le_of_ble_eq_true rfl) (by decide) rfl) ?_)
   refine aqQ (op_callQ (b := true) rfl en21 (C21 (o := h.log.getD i default)) (RL.cons (by first | exact View.same rfl | exact View.nil | exact View.rof | exact View.src .ro | exact View.src .rof | exact View.src (.sl rfl rfl) | exact View.ptr rfl rfl rfl) (RL.nil)) rfl) ?_; (try simp only [nA, Nat.reduceBEq, Nat.reduceEqDiff, ↓reduceIte, Nat.reduceAdd, Nat.reduceSub])
   refine aqP (op_not rfl rfl rfl) ?_
   refine aqP (op_move rfl rfl) ?_
   refine' aqOr' [_, _, _, _, _] [21,22,23,24,25] rfl rfl rfl rfl rfl rfl rfl rfl rfl rfl rfl rfl (fun hb => ?_) ?_; rotate_left
   ·
    (try simp only [hcS] at hb)
    (first | refine aqP (op_fa_ptr rfl rfl rfl fl33_1 (by exact sz3) (by decide) rfl) ?_ | refine aqP (op_fa_rop rfl rfl fl33_1 (by exact sz3) (by decide) (Nat.le_of_ble_eq_true rfl) rfl) ?_)
    (first | refine aqR (op_load_ptr1 rfl rfl rfl rfl ag3 rfl rfl) ?_ | refine aqR (op_load_rop1 rfl rfl ag3) ?_)
    (first | refine aqP (op_fa_ptr rfl rfl rfl fl26_0 (by exact sz3) (by decide) rfl) ?_ | refine aqP (op_fa_rop rfl rfl fl26_0 (by exact sz3) (by decide) (Nat.le_of_ble_eq_true rfl) rfl) ?_)
    (first | refine aqR (op_load_ptr1 rfl rfl rfl rfl ag3 rfl rfl) ?_ | refine aqR (op_load_rop1 rfl rfl ag3) ?_)
    (first | refine aqP (op_neq rfl rfl rfl) ?_ | refine aqP (op_sneq rfl rfl rfl) ?_)
    (refine aqSeg rfl rfl rfl ?_; repeat (first | exact fun _ _ => rfl | refine upd_out rfl ?_ | refine era_out rfl ?_))
   (try simp only [nA, Nat.reduceBEq, Nat.reduceEqDiff, ↓reduceIte, Nat.reduceAdd, Nat.reduceSub])
   refine aqP (op_move rfl rfl) ?_
   refine' aqOr' [_, _, _, _, _, _, _, _, _, _, _] [28,29,30,31,32,33,34,35,36,37,38] rfl rfl rfl rfl rfl rfl rfl rfl rfl rfl rfl rfl (fun hb => ?_) ?_; rotate_left
   ·
    (try simp only [hcS] at hb)
    (first | refine aqP (op_fa_ptr rfl rfl rfl fl33_2 (by exact sz3) (by decide) rfl) ?_ | refine aqP (op_fa_rop rfl rfl fl33_2 (by exact sz3) (by decide) (Nat.le_of_ble_eq_true rfl) rfl) ?_)
    (first | refine aqR (op_load_ptr1 rfl rfl rfl rfl ag3 rfl rfl) ?_ | refine aqR (op_load_rop1 rfl rfl ag3) ?_)
    (first | refine aqP (op_fa_ptr rfl rfl rfl fl26_1 (by exact sz3) (by decide) rfl) ?_ | refine aqP (op_fa_rop rfl rfl fl26_1 (by exact sz3) (by decide) (Nat.le_of_ble_eq_true rfl) rfl) ?_)
    (first | refine aqR (op_load_ptr1 rfl rfl rfl rfl ag3 rfl rfl) ?_ | refine aqR (op_load_rop1 rfl rfl ag3) ?_)
    (first | refine aqP (op_fa_ptr rfl rfl rfl fl26_6 (by exact sz24) (by decide) rfl) ?_ | refine aqP (op_fa_rop rfl rfl fl26_6 (by exact sz24) (by decide) (Nat.le_of_ble_eq_true rfl) rfl) ?_)
    (first | refine aqR (op_load_ptr1 rfl rfl rfl rfl ag24 rfl rfl) ?_ | refine aqR (op_load_rop1 rfl rfl ag24) ?_)
    refine aqP (op_len_ro (n := h.log.length) rfl rfl Try.underlying24 (.inr (.inl ⟨_, rfl, by simp⟩))) ?_
    (first | refine aqP (op_subi rfl rfl rfl (by omega)) ?_ | refine aqP (op_sub rfl rfl rfl rfl) ?_)
    refine aqP (op_move rfl rfl) ?_
    (first | refine aqP (op_addi rfl rfl rfl (by omega)) ?_ | refine aqP (op_add rfl rfl rfl rfl) ?_)
    (first | refine aqP (op_neq rfl rfl rfl) ?_ | refine aqP (op_sneq rfl rfl rfl) ?_)
    (refine aqSeg rfl rfl rfl ?_; repeat (first | exact fun _ _ => rfl | refine upd_out rfl ?_ | refine era_out rfl ?_))
   (try simp only [nA, Nat.reduceBEq, Nat.reduceEqDiff, ↓reduceIte, Nat.reduceAdd, Nat.reduceSub])
   refine aqP (op_move rfl rfl) ?_
   refine' aqOrN' [_, _, _, _, _, _, _, _, _, _, _, _, _, _] [41,42,43,44,45,46,47,48,49,50,51,52,53,54] rfl rfl rfl rfl rfl rfl rfl rfl rfl rfl rfl rfl (fun hb => ?_) ?_; rotate_left
   ·
    (try simp only [hcS] at hb)
    refine aqP (op_move rfl rfl) ?_
    refine aqP (op_gtr rfl rfl rfl) ?_
    refine aqP (op_move rfl rfl) ?_
    refine' aqAnd' [_, _, _, _, _, _, _, _, _, _] [44,45,46,47,48,49,50,51,52,53] rfl rfl rfl rfl rfl rfl rfl rfl rfl rfl rfl rfl (fun hb => ?_) ?_; rotate_left
    ·
     (try simp only [hcS] at hb)
     (first | refine aqP (op_fa_ptr rfl rfl rfl fl33_0 (by exact sz3) (by decide) rfl) ?_ | refine aqP (op_fa_rop rfl rfl fl33_0 (by exact sz3) (by decide) (Nat.le_of_ble_eq_true rfl) rfl) ?_)
     (first | refine aqR (op_load_ptr1 rfl rfl rfl rfl ag3 rfl rfl) ?_ | refine aqR (op_load_rop1 rfl rfl ag3) ?_)
     (first | refine aqP (op_fa_ptr rfl rfl rfl fl26_6 (by exact sz24) (by decide) rfl) ?_ | refine aqP (op_fa_rop rfl rfl fl26_6 (by exact sz24) (by decide) (Nat.le_of_ble_eq_true rfl) rfl) ?_)
     (first | refine aqR (op_load_ptr1 rfl rfl rfl rfl ag24 rfl rfl) ?_ | refine aqR (op_load_rop1 rfl rfl ag24) ?_)
     refine aqP (op_move rfl rfl) ?_
     (first | refine aqP (op_subi rfl rfl rfl (by omega)) ?_ | refine aqP (op_sub rfl rfl rfl rfl) ?_)
     refine aqP (op_ia_ro (i - 1) rfl (.inl rfl) rfl Try.underlying24 (by simp at hb; omega) (get_mapD (by omega)) (by exact sz33) (Nat.le_of_ble_eq_true rfl)) ?_
     (first | refine aqP (op_fa_ptr rfl rfl rfl fl33_0 (by exact sz3) (by decide) rfl) ?_ | refine aqP (op_fa_rop rfl rfl fl33_0 (by exact sz3) (by decide) (Nat.le_of_ble_eq_true rfl) rfl) ?_)
     (first | refine aqR (op_load_ptr1 rfl rfl rfl rfl ag3 rfl rfl) ?_ | refine aqR (op_load_rop1 rfl rfl ag3) ?_)
     refine aqP (op_lss rfl rfl rfl) ?_
     (refine aqSeg rfl rfl rfl ?_; repeat (first | exact fun _ _ => rfl | refine upd_out rfl ?_ | refine era_out rfl ?_))
    (try simp only [nA, Nat.reduceBEq, Nat.reduceEqDiff, ↓reduceIte, Nat.reduceAdd, Nat.reduceSub])
    (refine aqSeg rfl rfl rfl ?_; repeat (first | exact fun _ _ => rfl | refine upd_out rfl ?_ | refine era_out rfl ?_))
   (try simp only [nA, Nat.reduceBEq, Nat.reduceEqDiff, ↓reduceIte, Nat.reduceAdd, Nat.reduceSub])
   refine aqP (op_move rfl rfl) ?_
   refine' aqOr' [_, _, _, _, _] [57,58,59,60,61] rfl rfl rfl rfl rfl rfl rfl rfl rfl rfl rfl rfl (fun hb => ?_) ?_; rotate_left
   ·
    (try simp only [hcS] at hb)
    (first | refine aqP (op_fa_ptr rfl rfl rfl fl33_0 (by exact sz3) (by decide) rfl) ?_ | refine aqP (op_fa_rop rfl rfl fl33_0 (by exact sz3) (by decide) (Nat.le_of_ble_eq_true rfl) rfl) ?_)
    (first | refine aqR (op_load_ptr1 rfl rfl rfl rfl ag3 rfl rfl) ?_ | refine aqR (op_load_rop1 rfl rfl ag3) ?_)
    (first | refine aqP (op_fa_ptr rfl rfl rfl fl26_2 (by exact sz3) (by decide) rfl) ?_ | refine aqP (op_fa_rop rfl rfl fl26_2 (by exact sz3) (by decide) (Nat.le_of_ble_eq_true rfl) rfl) ?_)
    (first | refine aqR (op_load_ptr1 rfl rfl rfl rfl ag3 rfl rfl) ?_ | refine aqR (op_load_rop1 rfl rfl ag3) ?_)
    refine aqP (op_gtr rfl rfl rfl) ?_
    (refine aqSeg rfl rfl rfl ?_; repeat (first | exact fun _ _ => rfl | refine upd_out rfl ?_ | refine era_out rfl ?_))
   (try simp only [nA, Nat.reduceBEq, Nat.reduceEqDiff, ↓reduceIte, Nat.reduceAdd, Nat.reduceSub])
   refine AQ.nil ?_
   (refine hK _ ?_; clear hK K; (try simp only [nA, Nat.reduceBEq, Nat.reduceEqDiff, ↓reduceIte, Nat.reduceAdd, Nat.reduceSub]))
   refine AW.cond rfl rfl rfl (fun hc => ?_) (fun hc => ?_)
   ·
    (skip); have hc2 := hc; skip
    (refine AW.seq_k ?_; intro K hK)
    refine AW.region ?_
    refine awP (op_assign rfl rfl) ?_
    refine AWL.nil ?_
    (refine hK _ ?_; clear hK K; (try simp only [nA, Nat.reduceBEq, Nat.reduceEqDiff, ↓reduceIte, Nat.reduceAdd, Nat.reduceSub]))
    skip
    refine AW.ret ?_; (try simp only [thenE, inBlk, Nat.reduceEqDiff, ↓reduceIte]); rw [show logR h = false by unfold logR; rw [all_range_no hlt (by rw [show lgBadR h i = true from hc2]; rfl), Bool.false_and]]; exact RQ.of0 rfl (.tmp (Nat.le_of_ble_eq_true rfl) rfl rfl .nil)
   ·
    (skip); have hc2 := hc; skip
    refine AW.skip ?_
    (try simp only [thenE, inBlk, Nat.reduceEqDiff, ↓reduceIte])
    (refine hK _ ?_; clear hK K; (try simp only [nA, Nat.reduceBEq, Nat.reduceEqDiff, ↓reduceIte, Nat.reduceAdd, Nat.reduceSub]))
    refine AW.region ?_
    refine awP (op_move rfl rfl) ?_
    (first | refine awP (op_addi rfl rfl rfl (by omega)) ?_ | refine awP (op_add rfl rfl rfl rfl) ?_)
    refine awP (op_assign rfl rfl) ?_
    refine AWL.gh (Gh.drop 1) ?_; (try simp only [nA, Nat.reduceBEq, Nat.reduceEqDiff, ↓reduceIte, Nat.reduceAdd, Nat.reduceSub])
    refine AWL.nil ?_
    refine ⟨i + 1, ⟨by omega, all_f_step hi.2 hc2⟩, by omega, ⟨rfl, rfl, trivial⟩, (by first | rfl | trivial), (by first | rfl | trivial)⟩
  ·
   (skip); have hc1 := hc; have hnl : ¬ i < h.log.length := (by simpa using hc1)
   refine AW.exit ?_; (try simp only [thenE, inBlk, Nat.reduceEqDiff, ↓reduceIte])
   clear hK K
   (refine hK _ ?_; clear hK K; (try simp only [nA, Nat.reduceBEq, Nat.reduceEqDiff, ↓reduceIte, Nat.reduceAdd, Nat.reduceSub]))
   (refine AW.seq_k ?_; intro K hK)
   refine AW.region ?_
   (first | refine awP (op_fa_ptr rfl rfl rfl fl26_6 (by exact sz24) (by decide) rfl) ?_ | refine awP (op_fa_rop rfl rfl fl26_6 (by exact sz24) (by decide) (Nat.le_of_ble_eq_true rfl) rfl) ?_)
   (first | refine awR (op_load_ptr1 rfl rfl rfl rfl ag24 rfl rfl) ?_ | refine awR (op_load_rop1 rfl rfl ag24) ?_)
   refine awP (op_len_ro (n := h.log.length) rfl rfl Try.underlying24 (.inr (.inl ⟨_, rfl, by simp⟩))) ?_
   refine awP (op_leq rfl rfl rfl) ?_
   refine awP (op_assign rfl rfl) ?_
   refine AWL.nil ?_
   (refine hK _ ?_; clear hK K; (try simp only [nA, Nat.reduceBEq, Nat.reduceEqDiff, ↓reduceIte, Nat.reduceAdd, Nat.reduceSub]))
   skip
   refine AW.ret ?_; (try simp only [thenE, inBlk, Nat.reduceEqDiff, ↓reduceIte]); rw [show logR h = decide ((h.log.length : Int) ≤ 60) by unfold logR; rw [all_range_yes hnl (fun k hk => by rw [hi.2 k hk]; rfl), Bool.true_and]]; exact RQ.of0 rfl (.tmp (Nat.le_of_ble_eq_true rfl) rfl rfl .nil)
theorem C53 {h : Hand} (hs : h.Sm) (hn : 0 ≤ h.next ∧ h.next ≤ 1048576) : Fn Try.prog 53 [] [.agg h.av] [.v (.bool (logB h))] [] := by
  rw [← logR_eq]; exact C53r hs hn
end Go.Proofs.Ytdnofpggdddimaa
