import Derived.Test.YtmdohphcolffmaaGreatAmd
namespace Go.Proofs.YtmdohphcolffmaaGreat
set_option maxHeartbeats 8000000
open Go.RowKit
set_option linter.unusedSimpArgs false
set_option linter.unusedVariables false
set_option maxRecDepth 100000
theorem C119 {c : UInt8} : Fn Tryz.prog 119 [] [.v (.int .u8 c.toNat)] [.v (.bool (upB c))] [] := by
 refine Spec.body Tryz.func119 rfl Tryz.ntmps119 (by simp) rfl ?_; intro S0 own0 v0 w0
 refine zA fun K hK => zB ?_
 refine zF (zD rfl rfl) ?_
 refine zE (hK _ ?_); clear hK K; try simp only [nA, Nat.reduceBEq, Nat.reduceEqDiff, ↓reduceIte, Nat.reduceAdd, Nat.reduceSub]
 refine zA fun K hK => zB (yS ?_)
 refine zQ (zC rfl rfl) ?_
 refine zQ (op_geq rfl rfl rfl) ?_
 refine zQ (zC rfl rfl) ?_
 refine' yK [_, _] [6,7] rfl rfl rfl rfl rfl rfl rfl rfl rfl rfl rfl rfl (fun hb => ?_) ?_; rotate_left
 ·
  (try simp only [z7] at hb)
  refine zQ (zC rfl rfl) ?_
  refine zQ (op_leq rfl rfl rfl) ?_
  (refine yL rfl rfl rfl ?_; repeat (first | exact fun _ _ => rfl | refine zU rfl ?_))
 simp only [nA, ↓reduceIte]
 refine zQ (zD rfl rfl) ?_
 refine yN (hK _ ?_); clear hK K; simp only [nA]
 skip
 refine zO ?_; (try simp only [zI, zJ, Nat.reduceEqDiff, ↓reduceIte]); exact zS rfl (.tmp (bl rfl) rfl rfl .nil)
theorem C120 {c : UInt8} : Fn Tryz.prog 120 [] [.v (.int .u8 c.toNat)] [.v (.bool (dgB c))] [] := by
 refine Spec.body Tryz.func120 rfl Tryz.ntmps120 (by simp) rfl ?_; intro S0 own0 v0 w0
 refine zA fun K hK => zB ?_
 refine zF (zD rfl rfl) ?_
 refine zE (hK _ ?_); clear hK K; try simp only [nA, Nat.reduceBEq, Nat.reduceEqDiff, ↓reduceIte, Nat.reduceAdd, Nat.reduceSub]
 refine zA fun K hK => zB (yS ?_)
 refine zQ (zC rfl rfl) ?_
 refine zQ (op_geq rfl rfl rfl) ?_
 refine zQ (zC rfl rfl) ?_
 refine' yK [_, _] [6,7] rfl rfl rfl rfl rfl rfl rfl rfl rfl rfl rfl rfl (fun hb => ?_) ?_; rotate_left
 ·
  (try simp only [z7] at hb)
  refine zQ (zC rfl rfl) ?_
  refine zQ (op_leq rfl rfl rfl) ?_
  (refine yL rfl rfl rfl ?_; repeat (first | exact fun _ _ => rfl | refine zU rfl ?_))
 simp only [nA, ↓reduceIte]
 refine zQ (zD rfl rfl) ?_
 refine yN (hK _ ?_); clear hK K; simp only [nA]
 skip
 refine zO ?_; (try simp only [zI, zJ, Nat.reduceEqDiff, ↓reduceIte]); exact zS rfl (.tmp (bl rfl) rfl rfl .nil)
def sufR (s : ByteArray) : Bool := (s.toList == (⟨#[]⟩ : ByteArray).toList) || (decide ((s.size : Int) = 1) && upB (chr s 0))
theorem C115r {s : ByteArray} : Fn Tryz.prog 115 [] [.v (.string s)] [.v (.bool (sufR s))] [] := by
 refine Spec.body Tryz.func115 rfl Tryz.ntmps115 (by simp) rfl ?_; intro S0 own0 v0 w0
 refine zA fun K hK => zB ?_
 refine zF (zD rfl rfl) ?_
 refine zE (hK _ ?_); clear hK K; try simp only [nA, Nat.reduceBEq, Nat.reduceEqDiff, ↓reduceIte, Nat.reduceAdd, Nat.reduceSub]
 refine zA fun K hK => zB (yS ?_)
 refine zQ (zC rfl rfl) ?_
 refine zQ (op_seql rfl rfl rfl) ?_
 refine zQ (zC rfl rfl) ?_
 refine' aqOrN' [_, _, _, _, _, _, _, _] [6,7,8,9,10,11,12,13] rfl rfl rfl rfl rfl rfl rfl rfl rfl rfl rfl rfl (fun hb => ?_) ?_; rotate_left
 ·
  (try simp only [z7] at hb)
  refine zQ (zC rfl rfl) ?_
  refine zQ (op_len_str rfl rfl Tryz.underlying9) ?_
  refine zQ (op_eql rfl rfl rfl) ?_
  refine zQ (zC rfl rfl) ?_
  refine' yK [_, _, _] [10,11,12] rfl rfl rfl rfl rfl rfl rfl rfl rfl rfl rfl rfl (fun hb => ?_) ?_; rotate_left
  ·
   (try simp only [z7] at hb)
   refine zQ (zC rfl rfl) ?_
   refine zQ (op_ix_str 0 rfl rfl rfl Tryz.underlying9 rfl (get_chr (s := s) (i := 0) (by omega))) ?_
   refine aqQ (zT (b := true) rfl en119 (C119) (RL.cons (by exact View.same rfl) (RL.nil)) rfl) ?_; simp only [nA, ↓reduceIte]
   (refine yL rfl rfl rfl ?_; repeat (first | exact fun _ _ => rfl | refine zU rfl ?_))
  simp only [nA, ↓reduceIte]
  (refine yL rfl rfl rfl ?_; repeat (first | exact fun _ _ => rfl | refine zU rfl ?_ | refine era_out rfl ?_))
 simp only [nA, ↓reduceIte]
 refine zQ (zD rfl rfl) ?_
 refine yN (hK _ ?_); clear hK K; simp only [nA]
 skip
 refine zO ?_; (try simp only [zI, zJ, Nat.reduceEqDiff, ↓reduceIte]); exact zS rfl (.tmp (bl rfl) rfl rfl .nil)
def carR (s : ByteArray) : Bool := ((upB (chr s 0) || dgB (chr s 0)) && (upB (chr s 1) || dgB (chr s 1))) && (upB (chr s 0) || upB (chr s 1))
def car0 (s : ByteArray) : Bool := if (s.size : Int) ≠ 2 then false else carR s
theorem C114r {s : ByteArray} : Fn Tryz.prog 114 [] [.v (.string s)] [.v (.bool (car0 s))] [] := by
 refine Spec.body Tryz.func114 rfl Tryz.ntmps114 (by simp) rfl ?_; intro S0 own0 v0 w0
 refine zA fun K hK => zB ?_
 refine zF (zD rfl rfl) ?_
 refine zE (hK _ ?_); clear hK K; try simp only [nA, Nat.reduceBEq, Nat.reduceEqDiff, ↓reduceIte, Nat.reduceAdd, Nat.reduceSub]
 refine zA fun K hK => ?_
 refine zA fun K hK => zB ?_
 refine zF (zC rfl rfl) ?_
 refine zF (op_len_str rfl rfl Tryz.underlying9) ?_
 refine zF (op_neq rfl rfl rfl) ?_
 refine zE (hK _ ?_); clear hK K; simp only [nA, ↓reduceIte]
 refine zL rfl rfl rfl (fun hc => ?_) (fun hc => ?_)
 ·
  (try simp only [z7] at hc); have hc1 := hc
  refine zA fun K hK => zB ?_
  refine zF (zD rfl rfl) ?_
  refine zE (hK _ ?_); clear hK K; try simp only [nA, Nat.reduceBEq, Nat.reduceEqDiff, ↓reduceIte, Nat.reduceAdd, Nat.reduceSub]
  skip
  refine zO ?_; (try simp only [zI, zJ, Nat.reduceEqDiff, ↓reduceIte]); rw [show car0 s = false by unfold car0; rw [if_pos (by omega)]]; exact zS rfl (.tmp (bl rfl) rfl rfl .nil)
 (try simp only [z7] at hc); have hc1 := hc
 refine zM ?_
 refine hK _ ?_; clear hK K
 refine zA fun K hK => ?_
 refine AW.quiet mix (by kernel_rfl) ?_
 refine zQ (zC rfl rfl) ?_
 refine zQ (op_ix_str 0 rfl rfl rfl Tryz.underlying9 rfl (get_chr (s := s) (i := 0) (by omega))) ?_
 refine aqQ (zT (b := true) rfl en119 (C119) (RL.cons (by exact View.same rfl) (RL.nil)) rfl) ?_; simp only [nA, ↓reduceIte]
 refine zQ (zC rfl rfl) ?_
 refine zQ (op_ix_str 1 rfl rfl rfl Tryz.underlying9 rfl (get_chr (s := s) (i := 1) (by omega))) ?_
 refine aqQ (zT (b := true) rfl en119 (C119) (RL.cons (by exact View.same rfl) (RL.nil)) rfl) ?_; simp only [nA, ↓reduceIte]
 refine zQ (zD rfl rfl) ?_
 refine zQ (zD rfl rfl) ?_
 refine yN (hK _ ?_); clear hK K; simp only [nA, ↓reduceIte]
 refine zA fun K hK => zB (yS ?_)
 refine zQ (zC rfl rfl) ?_
 refine zQ (zC rfl rfl) ?_
 refine' aqOr' [_, _, _] [16,17,18] rfl rfl rfl rfl rfl rfl rfl rfl rfl rfl rfl rfl (fun hb => ?_) ?_; rotate_left
 ·
  (try simp only [z7] at hb)
  refine zQ (zC rfl rfl) ?_
  refine zQ (op_ix_str 0 rfl rfl rfl Tryz.underlying9 rfl (get_chr (s := s) (i := 0) (by omega))) ?_
  refine aqQ (zT (b := true) rfl en120 (C120) (RL.cons (by exact View.same rfl) (RL.nil)) rfl) ?_; simp only [nA, ↓reduceIte]
  (refine yL rfl rfl rfl ?_; repeat (first | exact fun _ _ => rfl | refine zU rfl ?_))
 simp only [nA, ↓reduceIte]
 refine zQ (zC rfl rfl) ?_
 refine' aqAndN' [_, _, _, _, _, _] [21,22,23,24,25,26] rfl rfl rfl rfl rfl rfl rfl rfl rfl rfl rfl rfl (fun hb => ?_) ?_; rotate_left
 ·
  (try simp only [z7] at hb)
  refine zQ (zC rfl rfl) ?_
  refine zQ (zC rfl rfl) ?_
  refine' aqOr' [_, _, _] [23,24,25] rfl rfl rfl rfl rfl rfl rfl rfl rfl rfl rfl rfl (fun hb => ?_) ?_; rotate_left
  ·
   (try simp only [z7] at hb)
   refine zQ (zC rfl rfl) ?_
   refine zQ (op_ix_str 1 rfl rfl rfl Tryz.underlying9 rfl (get_chr (s := s) (i := 1) (by omega))) ?_
   refine aqQ (zT (b := true) rfl en120 (C120) (RL.cons (by exact View.same rfl) (RL.nil)) rfl) ?_; simp only [nA, Nat.reduceEqDiff, ↓reduceIte]
   (refine yL rfl rfl rfl ?_; repeat (first | exact fun _ _ => rfl | refine zU rfl ?_))
  simp only [nA, Nat.reduceEqDiff, ↓reduceIte]
  (refine yL rfl rfl rfl ?_; repeat (first | exact fun _ _ => rfl | refine zU rfl ?_ | refine era_out rfl ?_))
 simp only [nA]
 refine zQ (zC rfl rfl) ?_
 refine' aqAndN' [_, _, _, _] [29,30,31,32] rfl rfl rfl rfl rfl rfl rfl rfl rfl rfl rfl rfl (fun hb => ?_) ?_; rotate_left
 ·
  (try simp only [z7] at hb)
  refine zQ (zC rfl rfl) ?_
  refine zQ (zC rfl rfl) ?_
  refine' aqOr' [_] [31] rfl rfl rfl rfl rfl rfl rfl rfl rfl rfl rfl rfl (fun hb => ?_) ?_; rotate_left
  ·
   (try simp only [z7] at hb)
   refine zQ (zC rfl rfl) ?_
   (refine yL rfl rfl rfl ?_; repeat (first | exact fun _ _ => rfl | refine zU rfl ?_))
  simp only [nA, Nat.reduceEqDiff, ↓reduceIte]
  (refine yL rfl rfl rfl ?_; repeat (first | exact fun _ _ => rfl | refine zU rfl ?_ | refine era_out rfl ?_))
 simp only [nA]
 refine zQ (zD rfl rfl) ?_
 refine yN (hK _ ?_); clear hK K; simp only [nA]
 skip
 refine zO ?_; (try simp only [zI, zJ, Nat.reduceEqDiff, ↓reduceIte]); rw [show car0 s = carR s by unfold car0; rw [if_neg (by omega)]]; exact zS rfl (.tmp (bl rfl) rfl rfl .nil)
theorem bytes_eq (s : ByteArray) : s.toList = s.data.toList := by
 exact ByteArray.toList_eq s
theorem suf_eq (s : ByteArray) : sufR s = lettersB s 0 1 := by
 unfold sufR lettersB
 rw [bytes_eq, bytes_eq]
 have hs := size_len s
 rcases hd : s.data.toList with _ | ⟨a, _ | ⟨b, t⟩⟩
 · rw [hd] at hs
   simp at hs
   simp [← hs]
 · rw [hd] at hs
   simp at hs
   simp [← hs, chr, hd]
 rw [hd] at hs
 simp at hs
 have h1 : ¬ (s.size : Int) = 1 := by omega
 have h2 : ¬ (s.size : Int) ≤ 1 := by omega
 simp [h1, h2]
theorem car_eq (s : ByteArray) : car0 s = carB s := by
 unfold car0 carB
 have hs := size_len s
 by_cases h2 : s.size = 2
 · rw [if_neg (by omega)]
   rcases hd : s.data.toList with _ | ⟨a, _ | ⟨b, _ | ⟨d, t⟩⟩⟩ <;> rw [hd] at hs <;> simp at hs <;> try omega
   unfold carR chr
   rw [hd]
   simp [h2]
 rw [if_pos (by omega)]
 simp [h2]
theorem C115 {s : ByteArray} : Fn Tryz.prog 115 [] [.v (.string s)] [.v (.bool (lettersB s 0 1))] [] := by
 rw [← suf_eq]; exact C115r
theorem C114 {s : ByteArray} : Fn Tryz.prog 114 [] [.v (.string s)] [.v (.bool (carB s))] [] := by
 rw [← car_eq]; exact C114r
theorem C106 {f : Flight} : Fn Tryz.prog 106 [] [.agg f.av] [.v (.bool (flB f))] [] := by
 refine Spec.body Tryz.func106 rfl Tryz.ntmps106 (by simp) rfl ?_; intro S0 own0 v0 w0
 refine zA fun K hK => zB ?_
 refine yD (yO rfl rfl rfl sz25 rfl) ?_; simp only [nA, Nat.reduceBEq, Nat.reduceEqDiff, ↓reduceIte]
 refine zF (zD rfl rfl) ?_
 refine zE (hK _ ?_); clear hK K; try simp only [nA, Nat.reduceBEq, Nat.reduceEqDiff, ↓reduceIte, Nat.reduceAdd, Nat.reduceSub]
 refine zA fun K hK => zB (yS ?_)
 refine zQ (zH rfl rfl rfl fl25_0 (by exact sz9) (by decide) rfl) ?_
 refine aqR (zG rfl rfl rfl rfl ag9 rfl rfl) ?_
 refine aqQ (zT (b := true) rfl en114 (C114) (RL.cons (by exact View.same rfl) (RL.nil)) rfl) ?_; try simp only [nA, Nat.reduceBEq, Nat.reduceEqDiff, ↓reduceIte, Nat.reduceAdd, Nat.reduceSub]
 refine zQ (zC rfl rfl) ?_
 refine' yK [_, _, _] [7,8,9] rfl rfl rfl rfl rfl rfl rfl rfl rfl rfl rfl rfl (fun hb => ?_) ?_; rotate_left
 ·
  (try simp only [z7] at hb)
  refine zQ (zH rfl rfl rfl fl25_1 (by exact sz3) (by decide) rfl) ?_
  refine aqR (zG rfl rfl rfl rfl ag3 rfl rfl) ?_
  refine zQ (op_geq rfl rfl rfl) ?_
  (refine yL rfl rfl rfl ?_; repeat (first | exact fun _ _ => rfl | refine zU rfl ?_))
 simp only [nA]
 refine zQ (zC rfl rfl) ?_
 refine' yK [_, _, _] [12,13,14] rfl rfl rfl rfl rfl rfl rfl rfl rfl rfl rfl rfl (fun hb => ?_) ?_; rotate_left
 ·
  (try simp only [z7] at hb)
  refine zQ (zH rfl rfl rfl fl25_1 (by exact sz3) (by decide) rfl) ?_
  refine aqR (zG rfl rfl rfl rfl ag3 rfl rfl) ?_
  refine zQ (op_leq rfl rfl rfl) ?_
  (refine yL rfl rfl rfl ?_; repeat (first | exact fun _ _ => rfl | refine zU rfl ?_))
 simp only [nA]
 refine zQ (zC rfl rfl) ?_
 refine' yK [_, _, _] [17,18,19] rfl rfl rfl rfl rfl rfl rfl rfl rfl rfl rfl rfl (fun hb => ?_) ?_; rotate_left
 ·
  (try simp only [z7] at hb)
  refine zQ (zH rfl rfl rfl fl25_2 (by exact sz9) (by decide) rfl) ?_
  refine aqR (zG rfl rfl rfl rfl ag9 rfl rfl) ?_
  refine aqQ (zT (b := true) rfl en115 (C115) (RL.cons (by exact View.same rfl) (RL.nil)) rfl) ?_; simp only [nA]
  (refine yL rfl rfl rfl ?_; repeat (first | exact fun _ _ => rfl | refine zU rfl ?_))
 simp only [nA]
 refine zQ (zC rfl rfl) ?_
 refine' yK [_, _, _] [22,23,24] rfl rfl rfl rfl rfl rfl rfl rfl rfl rfl rfl rfl (fun hb => ?_) ?_; rotate_left
 ·
  (try simp only [z7] at hb)
  refine zQ (zH rfl rfl rfl fl25_3 (by exact sz3) (by decide) rfl) ?_
  refine aqR (zG rfl rfl rfl rfl ag3 rfl rfl) ?_
  refine zQ (op_geq rfl rfl rfl) ?_
  (refine yL rfl rfl rfl ?_; repeat (first | exact fun _ _ => rfl | refine zU rfl ?_))
 simp only [nA]
 refine zQ (zC rfl rfl) ?_
 refine' yK [_, _, _] [27,28,29] rfl rfl rfl rfl rfl rfl rfl rfl rfl rfl rfl rfl (fun hb => ?_) ?_; rotate_left
 ·
  (try simp only [z7] at hb)
  refine zQ (zH rfl rfl rfl fl25_3 (by exact sz3) (by decide) rfl) ?_
  refine aqR (zG rfl rfl rfl rfl ag3 rfl rfl) ?_
  refine zQ (op_leq rfl rfl rfl) ?_
  (refine yL rfl rfl rfl ?_; repeat (first | exact fun _ _ => rfl | refine zU rfl ?_))
 simp only [nA]
 refine zQ (zD rfl rfl) ?_
 refine yN (hK _ ?_); clear hK K; simp only [nA]
 skip
 refine zO ?_; (try simp only [zI, zJ, Nat.reduceEqDiff, ↓reduceIte]); exact zS rfl (.tmp (bl rfl) rfl rfl .nil)
theorem C107 {a b : Int} : Fn Tryz.prog 107 [] [.v (.int .i64 a), .v (.int .i64 b)] [.v (.int .i64 (cmpI a b))] [] := by
 refine Spec.body Tryz.func107 rfl Tryz.ntmps107 (by simp) rfl ?_; intro S0 own0 v0 w0
 refine zA fun K hK => zB ?_
 refine zF (zD rfl rfl) ?_
 refine zE (hK _ ?_); clear hK K; try simp only [nA, Nat.reduceBEq, Nat.reduceEqDiff, ↓reduceIte, Nat.reduceAdd, Nat.reduceSub]
 refine zA fun K hK => ?_
 refine zA fun K hK => zB ?_
 refine zF (zC rfl rfl) ?_
 refine zF (zC rfl rfl) ?_
 refine zF (yP rfl rfl rfl) ?_
 refine zE (hK _ ?_); clear hK K; simp only [nA, ↓reduceIte]
 refine zL rfl rfl rfl (fun hc => ?_) (fun hc => ?_)
 ·
  (try simp only [z7] at hc); have hc1 := hc
  refine zA fun K hK => zB ?_
  refine zF (zD rfl rfl) ?_
  refine zE (hK _ ?_); clear hK K; try simp only [nA, Nat.reduceBEq, Nat.reduceEqDiff, ↓reduceIte, Nat.reduceAdd, Nat.reduceSub]
  skip
  refine zO ?_; (try simp only [zI, zJ, Nat.reduceEqDiff, ↓reduceIte]); rw [show cmpI a b = -1 by unfold cmpI; rw [if_pos (by omega)]]; exact zS rfl (.tmp (bl rfl) rfl rfl .nil)
 (try simp only [z7] at hc); have hc1 := hc
 refine zM ?_
 refine hK _ ?_; clear hK K
 refine zA fun K hK => ?_
 refine zA fun K hK => zB ?_
 refine zF (zC rfl rfl) ?_
 refine zF (zC rfl rfl) ?_
 refine zF (op_gtr rfl rfl rfl) ?_
 refine zE (hK _ ?_); clear hK K; simp only [nA, ↓reduceIte]
 refine zL rfl rfl rfl (fun hc => ?_) (fun hc => ?_)
 ·
  (try simp only [z7] at hc); have hc2 := hc
  refine zA fun K hK => zB ?_
  refine zF (zD rfl rfl) ?_
  refine zE (hK _ ?_); clear hK K; try simp only [nA, Nat.reduceBEq, Nat.reduceEqDiff, ↓reduceIte, Nat.reduceAdd, Nat.reduceSub]
  skip
  refine zO ?_; (try simp only [zI, zJ, Nat.reduceEqDiff, ↓reduceIte]); rw [show cmpI a b = 1 by unfold cmpI; rw [if_neg (by omega), if_pos (by omega)]]; exact zS rfl (.tmp (bl rfl) rfl rfl .nil)
 (try simp only [z7] at hc); have hc2 := hc
 refine zM ?_
 refine hK _ ?_; clear hK K
 refine zA fun K hK => zB ?_
 refine zF (zD rfl rfl) ?_
 refine zE (hK _ ?_); clear hK K; try simp only [nA, Nat.reduceBEq, Nat.reduceEqDiff, ↓reduceIte, Nat.reduceAdd, Nat.reduceSub]
 skip
 refine zO ?_; (try simp only [zI, zJ, Nat.reduceEqDiff, ↓reduceIte]); rw [show cmpI a b = 0 by unfold cmpI; rw [if_neg (by omega), if_neg (by omega)]]; exact zS rfl (.tmp (bl rfl) rfl rfl .nil)
theorem cmpP_1 {p q : Plate} (h : cmpI p.lead q.lead ≠ 0) : cmpP p q = cmpI p.lead q.lead := by unfold cmpP orL; simp [h]
theorem cmpP_2 {p q : Plate} (h0 : cmpI p.lead q.lead = 0) (h : cmpI p.airline q.airline ≠ 0) : cmpP p q = cmpI p.airline q.airline := by unfold cmpP orL; simp [h, h0]
theorem cmpP_3 {p q : Plate} (h0 : cmpI p.lead q.lead = 0) (h1 : cmpI p.airline q.airline = 0) : cmpP p q = cmpI p.serial q.serial := by
 unfold cmpP orL
 by_cases h : cmpI p.serial q.serial = 0 <;> simp [h, h0, h1]
theorem C82 {p q : Plate} : Fn Tryz.prog 82 [] [.agg p.av, .agg q.av] [.v (.int .i64 (cmpP p q))] [] := by
 refine Spec.body Tryz.func82 rfl Tryz.ntmps82 (by simp) rfl ?_; intro S0 own0 v0 w0
 refine zA fun K hK => zB ?_
 refine yD (yO rfl rfl rfl sz23 rfl) ?_; simp only [nA, Nat.reduceBEq, Nat.reduceEqDiff, ↓reduceIte]
 refine yD (yO rfl rfl rfl sz23 rfl) ?_; simp only [nA, Nat.reduceBEq, Nat.reduceEqDiff, ↓reduceIte]
 refine zF (zD rfl rfl) ?_
 refine zE (hK _ ?_); clear hK K; try simp only [nA, Nat.reduceBEq, Nat.reduceEqDiff, ↓reduceIte, Nat.reduceAdd, Nat.reduceSub]
 refine zA fun K hK => ?_
 refine zA fun K hK => zB ?_
 refine zF (zH rfl rfl rfl fl23_0 (by exact sz3) (by decide) rfl) ?_
 refine awR (zG rfl rfl rfl rfl ag3 rfl rfl) ?_
 refine zF (zH rfl rfl rfl fl23_0 (by exact sz3) (by decide) rfl) ?_
 refine awR (zG rfl rfl rfl rfl ag3 rfl rfl) ?_
 refine yD (OpQ.j (zT (b := true) rfl en107 (C107 (a := p.lead) (b := q.lead)) (RL.cons (by exact View.same rfl) (RL.cons (by exact View.same rfl) (RL.nil))) rfl)) ?_; try simp only [nA, Nat.reduceBEq, Nat.reduceEqDiff, ↓reduceIte, Nat.reduceAdd, Nat.reduceSub]
 refine zF (zD rfl rfl) ?_
 refine zE (hK _ ?_); clear hK K; simp only [nA]
 refine zA fun K hK => zB ?_
 refine zF (zC rfl rfl) ?_
 refine zF (op_neq rfl rfl rfl) ?_
 refine zE (hK _ ?_); clear hK K; simp only [nA]
 refine zL rfl rfl rfl (fun hc => ?_) (fun hc => ?_)
 ·
  (try simp only [z7] at hc); have hc1 := hc
  refine zA fun K hK => zB ?_
  refine zF (zC rfl rfl) ?_
  refine zF (zD rfl rfl) ?_
  refine zE (hK _ ?_); clear hK K; simp only [nA, ↓reduceIte]
  skip
  refine zO ?_; (try simp only [zI, zJ, Nat.reduceEqDiff, ↓reduceIte]); rw [cmpP_1 hc1]; exact zS rfl (.tmp (bl rfl) rfl rfl .nil)
 (try simp only [z7] at hc); have hc1 := hc
 refine zM ?_
 refine hK _ ?_; clear hK K
 refine zA fun K hK => ?_
 refine zA fun K hK => zB ?_
 refine zF (zH rfl rfl rfl fl23_1 (by exact sz3) (by decide) rfl) ?_
 refine awR (zG rfl rfl rfl rfl ag3 rfl rfl) ?_
 refine zF (zH rfl rfl rfl fl23_1 (by exact sz3) (by decide) rfl) ?_
 refine awR (zG rfl rfl rfl rfl ag3 rfl rfl) ?_
 refine yD (OpQ.j (zT (b := true) rfl en107 (C107 (a := p.airline) (b := q.airline)) (RL.cons (by exact View.same rfl) (RL.cons (by exact View.same rfl) (RL.nil))) rfl)) ?_; try simp only [nA, Nat.reduceBEq, Nat.reduceEqDiff, ↓reduceIte, Nat.reduceAdd, Nat.reduceSub]
 refine zF (zD rfl rfl) ?_
 refine zE (hK _ ?_); clear hK K; simp only [nA]
 refine zA fun K hK => zB ?_
 refine zF (zC rfl rfl) ?_
 refine zF (op_neq rfl rfl rfl) ?_
 refine zE (hK _ ?_); clear hK K; simp only [nA]
 refine zL rfl rfl rfl (fun hc => ?_) (fun hc => ?_)
 ·
  (try simp only [z7] at hc); have hc2 := hc
  refine zA fun K hK => zB ?_
  refine zF (zC rfl rfl) ?_
  refine zF (zD rfl rfl) ?_
  refine zE (hK _ ?_); clear hK K; simp only [nA, ↓reduceIte]
  skip
  refine zO ?_; (try simp only [zI, zJ, Nat.reduceEqDiff, ↓reduceIte]); rw [cmpP_2 hc1 hc2]; exact zS rfl (.tmp (bl rfl) rfl rfl .nil)
 (try simp only [z7] at hc); have hc2 := hc
 refine zM ?_
 refine hK _ ?_; clear hK K
 refine zA fun K hK => zB ?_
 refine zF (zH rfl rfl rfl fl23_2 (by exact sz3) (by decide) rfl) ?_
 refine awR (zG rfl rfl rfl rfl ag3 rfl rfl) ?_
 refine zF (zH rfl rfl rfl fl23_2 (by exact sz3) (by decide) rfl) ?_
 refine awR (zG rfl rfl rfl rfl ag3 rfl rfl) ?_
 refine yD (OpQ.j (zT (b := true) rfl en107 (C107 (a := p.serial) (b := q.serial)) (RL.cons (by exact View.same rfl) (RL.cons (by exact View.same rfl) (RL.nil))) rfl)) ?_; try simp only [nA, Nat.reduceBEq, Nat.reduceEqDiff, ↓reduceIte, Nat.reduceAdd, Nat.reduceSub]
 refine zF (zD rfl rfl) ?_
 refine zE (hK _ ?_); clear hK K; simp only [nA]
 skip
 refine zO ?_; (try simp only [zI, zJ, Nat.reduceEqDiff, ↓reduceIte]); rw [cmpP_3 hc1 hc2]; exact zS rfl (.tmp (bl rfl) rfl rfl .nil)
def plR (p : Plate) : Bool := ((((decide (p.lead ≥ 0) && decide (p.lead ≤ 9)) && decide (p.airline ≥ 1)) && decide (p.airline ≤ 999)) && decide (p.serial ≥ 0)) && decide (p.serial ≤ 999999)
theorem plR_eq (p : Plate) : plR p = plB p := by
 unfold plR plB
 rw [show decide (p.serial ≤ 999999) = decide (p.serial < 1000000) from decide_eq_decide.2 (by omega)]
theorem C66r {p : Plate} : Fn Tryz.prog 66 [] [.agg p.av] [.v (.bool (plR p))] [] := by
 refine Spec.body Tryz.func66 rfl Tryz.ntmps66 (by simp) rfl ?_; intro S0 own0 v0 w0
 refine zA fun K hK => zB ?_
 refine yD (yO rfl rfl rfl sz23 rfl) ?_; simp only [nA, Nat.reduceBEq, Nat.reduceEqDiff, ↓reduceIte]
 refine zF (zD rfl rfl) ?_
 refine zE (hK _ ?_); clear hK K; try simp only [nA, Nat.reduceBEq, Nat.reduceEqDiff, ↓reduceIte, Nat.reduceAdd, Nat.reduceSub]
 refine zA fun K hK => zB (yS ?_)
 refine zQ (zH rfl rfl rfl fl23_0 (by exact sz3) (by decide) rfl) ?_
 refine aqR (zG rfl rfl rfl rfl ag3 rfl rfl) ?_
 refine zQ (op_geq rfl rfl rfl) ?_
 refine zQ (zC rfl rfl) ?_
 refine' yK [_, _, _] [7,8,9] rfl rfl rfl rfl rfl rfl rfl rfl rfl rfl rfl rfl (fun hb => ?_) ?_; rotate_left
 ·
  (try simp only [z7] at hb)
  refine zQ (zH rfl rfl rfl fl23_0 (by exact sz3) (by decide) rfl) ?_
  refine aqR (zG rfl rfl rfl rfl ag3 rfl rfl) ?_
  refine zQ (op_leq rfl rfl rfl) ?_
  (refine yL rfl rfl rfl ?_; repeat (first | exact fun _ _ => rfl | refine zU rfl ?_))
 simp only [nA]
 refine zQ (zC rfl rfl) ?_
 refine' yK [_, _, _] [12,13,14] rfl rfl rfl rfl rfl rfl rfl rfl rfl rfl rfl rfl (fun hb => ?_) ?_; rotate_left
 ·
  (try simp only [z7] at hb)
  refine zQ (zH rfl rfl rfl fl23_1 (by exact sz3) (by decide) rfl) ?_
  refine aqR (zG rfl rfl rfl rfl ag3 rfl rfl) ?_
  refine zQ (op_geq rfl rfl rfl) ?_
  (refine yL rfl rfl rfl ?_; repeat (first | exact fun _ _ => rfl | refine zU rfl ?_))
 simp only [nA]
 refine zQ (zC rfl rfl) ?_
 refine' yK [_, _, _] [17,18,19] rfl rfl rfl rfl rfl rfl rfl rfl rfl rfl rfl rfl (fun hb => ?_) ?_; rotate_left
 ·
  (try simp only [z7] at hb)
  refine zQ (zH rfl rfl rfl fl23_1 (by exact sz3) (by decide) rfl) ?_
  refine aqR (zG rfl rfl rfl rfl ag3 rfl rfl) ?_
  refine zQ (op_leq rfl rfl rfl) ?_
  (refine yL rfl rfl rfl ?_; repeat (first | exact fun _ _ => rfl | refine zU rfl ?_))
 simp only [nA]
 refine zQ (zC rfl rfl) ?_
 refine' yK [_, _, _] [22,23,24] rfl rfl rfl rfl rfl rfl rfl rfl rfl rfl rfl rfl (fun hb => ?_) ?_; rotate_left
 ·
  (try simp only [z7] at hb)
  refine zQ (zH rfl rfl rfl fl23_2 (by exact sz3) (by decide) rfl) ?_
  refine aqR (zG rfl rfl rfl rfl ag3 rfl rfl) ?_
  refine zQ (op_geq rfl rfl rfl) ?_
  (refine yL rfl rfl rfl ?_; repeat (first | exact fun _ _ => rfl | refine zU rfl ?_))
 simp only [nA]
 refine zQ (zC rfl rfl) ?_
 refine' yK [_, _, _] [27,28,29] rfl rfl rfl rfl rfl rfl rfl rfl rfl rfl rfl rfl (fun hb => ?_) ?_; rotate_left
 ·
  (try simp only [z7] at hb)
  refine zQ (zH rfl rfl rfl fl23_2 (by exact sz3) (by decide) rfl) ?_
  refine aqR (zG rfl rfl rfl rfl ag3 rfl rfl) ?_
  refine zQ (op_leq rfl rfl rfl) ?_
  (refine yL rfl rfl rfl ?_; repeat (first | exact fun _ _ => rfl | refine zU rfl ?_))
 simp only [nA]
 refine zQ (zD rfl rfl) ?_
 refine yN (hK _ ?_); clear hK K; simp only [nA]
 skip
 refine zO ?_; (try simp only [zI, zJ, Nat.reduceEqDiff, ↓reduceIte]); exact zS rfl (.tmp (bl rfl) rfl rfl .nil)
theorem C66 {p : Plate} : Fn Tryz.prog 66 [] [.agg p.av] [.v (.bool (plB p))] [] := by
 rw [← plR_eq]; exact C66r
def piR (p : Piece) : Bool := (((plB p.plate && decide (p.weight ≥ 1)) && decide (p.weight ≤ 999)) && decide (p.category ≥ 0)) && decide (p.category ≤ 4)
theorem piR_eq (p : Piece) : piR p = piB p := by unfold piR piB inB; simp only [Bool.and_assoc]
theorem C44r {p : Piece} : Fn Tryz.prog 44 [] [.agg p.av] [.v (.bool (piR p))] [] := by
 refine Spec.body Tryz.func44 rfl Tryz.ntmps44 (by simp) rfl ?_; intro S0 own0 v0 w0
 refine zA fun K hK => zB ?_
 refine yD (yO rfl rfl rfl yR rfl) ?_; simp only [nA, Nat.reduceBEq, Nat.reduceEqDiff, ↓reduceIte]
 refine zF (zD rfl rfl) ?_
 refine zE (hK _ ?_); clear hK K; try simp only [nA, Nat.reduceBEq, Nat.reduceEqDiff, ↓reduceIte, Nat.reduceAdd, Nat.reduceSub]
 refine zA fun K hK => zB (yS ?_)
 refine zQ (zH rfl rfl rfl fl35_0 (by exact sz23) (by decide) rfl) ?_
 refine aqR (zK rfl rfl rfl rfl ag23 sz23 (bl rfl) rfl) ?_
 refine aqQ (zT (b := true) rfl en66 (C66 (p := p.plate)) (RL.cons (by exact View.same rfl) (RL.nil)) rfl) ?_; try simp only [nA, Nat.reduceBEq, Nat.reduceEqDiff, ↓reduceIte, Nat.reduceAdd, Nat.reduceSub]
 refine zQ (zC rfl rfl) ?_
 refine' yK [_, _, _] [7,8,9] rfl rfl rfl rfl rfl rfl rfl rfl rfl rfl rfl rfl (fun hb => ?_) ?_; rotate_left
 ·
  (try simp only [z7] at hb)
  refine zQ (zH rfl rfl rfl fl35_1 (by exact sz3) (by decide) rfl) ?_
  refine aqR (zG rfl rfl rfl rfl ag3 rfl rfl) ?_
  refine zQ (op_geq rfl rfl rfl) ?_
  (refine yL rfl rfl rfl ?_; repeat (first | exact fun _ _ => rfl | refine zU rfl ?_))
 simp only [nA]
 refine zQ (zC rfl rfl) ?_
 refine' yK [_, _, _] [12,13,14] rfl rfl rfl rfl rfl rfl rfl rfl rfl rfl rfl rfl (fun hb => ?_) ?_; rotate_left
 ·
  (try simp only [z7] at hb)
  refine zQ (zH rfl rfl rfl fl35_1 (by exact sz3) (by decide) rfl) ?_
  refine aqR (zG rfl rfl rfl rfl ag3 rfl rfl) ?_
  refine zQ (op_leq rfl rfl rfl) ?_
  (refine yL rfl rfl rfl ?_; repeat (first | exact fun _ _ => rfl | refine zU rfl ?_))
 simp only [nA]
 refine zQ (zC rfl rfl) ?_
 refine' yK [_, _, _] [17,18,19] rfl rfl rfl rfl rfl rfl rfl rfl rfl rfl rfl rfl (fun hb => ?_) ?_; rotate_left
 ·
  (try simp only [z7] at hb)
  refine zQ (zH rfl rfl rfl fl35_2 (by exact sz3) (by decide) rfl) ?_
  refine aqR (zG rfl rfl rfl rfl ag3 rfl rfl) ?_
  refine zQ (op_geq rfl rfl rfl) ?_
  (refine yL rfl rfl rfl ?_; repeat (first | exact fun _ _ => rfl | refine zU rfl ?_))
 simp only [nA]
 refine zQ (zC rfl rfl) ?_
 refine' yK [_, _, _] [22,23,24] rfl rfl rfl rfl rfl rfl rfl rfl rfl rfl rfl rfl (fun hb => ?_) ?_; rotate_left
 ·
  (try simp only [z7] at hb)
  refine zQ (zH rfl rfl rfl fl35_2 (by exact sz3) (by decide) rfl) ?_
  refine aqR (zG rfl rfl rfl rfl ag3 rfl rfl) ?_
  refine zQ (op_leq rfl rfl rfl) ?_
  (refine yL rfl rfl rfl ?_; repeat (first | exact fun _ _ => rfl | refine zU rfl ?_))
 simp only [nA]
 refine zQ (zD rfl rfl) ?_
 refine yN (hK _ ?_); clear hK K; simp only [nA]
 skip
 refine zO ?_; (try simp only [zI, zJ, Nat.reduceEqDiff, ↓reduceIte]); exact zS rfl (.tmp (bl rfl) rfl rfl .nil)
theorem C44 {p : Piece} : Fn Tryz.prog 44 [] [.agg p.av] [.v (.bool (piB p))] [] := by
 rw [← piR_eq]; exact C44r
def coR (c : Container) : Bool := (((((((((((decide (c.number ≥ 1) && decide (c.number ≤ 999)) && flB c.flight) && decide (c.categories ≥ 0)) && decide (c.categories < 32)) && decide (c.limit ≥ 0)) && decide (c.limit ≤ 20000)) && decide (c.most ≥ 0)) && decide (c.most ≤ 60)) && decide (c.position ≥ 0)) && decide (c.position ≤ 24)) && decide (c.arm ≥ -50)) && decide (c.arm ≤ 50)
theorem coR_eq (c : Container) : coR c = coB c := by
 unfold coR coB inB
 rw [show decide (c.categories < 32) = decide (c.categories ≤ 31) from decide_eq_decide.2 (by omega)]
 simp only [Bool.and_assoc]
theorem C81r {c : Container} : Fn Tryz.prog 81 [] [.agg c.av] [.v (.bool (coR c))] [] := by
 refine Spec.body Tryz.func81 rfl Tryz.ntmps81 (by simp) rfl ?_; intro S0 own0 v0 w0
 refine zA fun K hK => zB ?_
 refine yD (yO rfl rfl rfl yH rfl) ?_; simp only [nA, Nat.reduceBEq, Nat.reduceEqDiff, ↓reduceIte]
 refine zF (zD rfl rfl) ?_
 refine zE (hK _ ?_); clear hK K; try simp only [nA, Nat.reduceBEq, Nat.reduceEqDiff, ↓reduceIte, Nat.reduceAdd, Nat.reduceSub]
 refine zA fun K hK => zB (yS ?_)
 refine zQ (zH rfl rfl rfl fl33_0 (by exact sz3) (by decide) rfl) ?_
 refine aqR (zG rfl rfl rfl rfl ag3 rfl rfl) ?_
 refine zQ (op_geq rfl rfl rfl) ?_
 refine zQ (zC rfl rfl) ?_
 refine' yK [_, _, _] [7,8,9] rfl rfl rfl rfl rfl rfl rfl rfl rfl rfl rfl rfl (fun hb => ?_) ?_; rotate_left
 ·
  (try simp only [z7] at hb)
  refine zQ (zH rfl rfl rfl fl33_0 (by exact sz3) (by decide) rfl) ?_
  refine aqR (zG rfl rfl rfl rfl ag3 rfl rfl) ?_
  refine zQ (op_leq rfl rfl rfl) ?_
  (refine yL rfl rfl rfl ?_; repeat (first | exact fun _ _ => rfl | refine zU rfl ?_))
 simp only [nA]
 refine zQ (zC rfl rfl) ?_
 refine' yK [_, _, _] [12,13,14] rfl rfl rfl rfl rfl rfl rfl rfl rfl rfl rfl rfl (fun hb => ?_) ?_; rotate_left
 ·
  (try simp only [z7] at hb)
  refine zQ (zH rfl rfl rfl fl33_1 (by exact sz25) (by decide) rfl) ?_
  refine aqR (zK rfl rfl rfl rfl ag25 sz25 (bl rfl) rfl) ?_
  refine aqQ (zT (b := true) rfl en106 (C106 (f := c.flight)) (RL.cons (by exact View.same rfl) (RL.nil)) rfl) ?_; simp only [nA]
  (refine yL rfl rfl rfl ?_; repeat (first | exact fun _ _ => rfl | refine zU rfl ?_))
 simp only [nA]
 refine zQ (zC rfl rfl) ?_
 refine' yK [_, _, _] [17,18,19] rfl rfl rfl rfl rfl rfl rfl rfl rfl rfl rfl rfl (fun hb => ?_) ?_; rotate_left
 ·
  (try simp only [z7] at hb)
  refine zQ (zH rfl rfl rfl fl33_2 (by exact sz3) (by decide) rfl) ?_
  refine aqR (zG rfl rfl rfl rfl ag3 rfl rfl) ?_
  refine zQ (op_geq rfl rfl rfl) ?_
  (refine yL rfl rfl rfl ?_; repeat (first | exact fun _ _ => rfl | refine zU rfl ?_))
 simp only [nA]
 refine zQ (zC rfl rfl) ?_
 refine' yK [_, _, _] [22,23,24] rfl rfl rfl rfl rfl rfl rfl rfl rfl rfl rfl rfl (fun hb => ?_) ?_; rotate_left
 ·
  (try simp only [z7] at hb)
  refine zQ (zH rfl rfl rfl fl33_2 (by exact sz3) (by decide) rfl) ?_
  refine aqR (zG rfl rfl rfl rfl ag3 rfl rfl) ?_
  refine zQ (yP rfl rfl rfl) ?_
  (refine yL rfl rfl rfl ?_; repeat (first | exact fun _ _ => rfl | refine zU rfl ?_))
 simp only [nA]
 refine zQ (zC rfl rfl) ?_
 refine' yK [_, _, _] [27,28,29] rfl rfl rfl rfl rfl rfl rfl rfl rfl rfl rfl rfl (fun hb => ?_) ?_; rotate_left
 ·
  (try simp only [z7] at hb)
  refine zQ (zH rfl rfl rfl fl33_3 (by exact sz3) (by decide) rfl) ?_
  refine aqR (zG rfl rfl rfl rfl ag3 rfl rfl) ?_
  refine zQ (op_geq rfl rfl rfl) ?_
  (refine yL rfl rfl rfl ?_; repeat (first | exact fun _ _ => rfl | refine zU rfl ?_))
 simp only [nA]
 refine zQ (zC rfl rfl) ?_
 refine' yK [_, _, _] [32,33,34] rfl rfl rfl rfl rfl rfl rfl rfl rfl rfl rfl rfl (fun hb => ?_) ?_; rotate_left
 ·
  (try simp only [z7] at hb)
  refine zQ (zH rfl rfl rfl fl33_3 (by exact sz3) (by decide) rfl) ?_
  refine aqR (zG rfl rfl rfl rfl ag3 rfl rfl) ?_
  refine zQ (op_leq rfl rfl rfl) ?_
  (refine yL rfl rfl rfl ?_; repeat (first | exact fun _ _ => rfl | refine zU rfl ?_))
 simp only [nA]
 refine zQ (zC rfl rfl) ?_
 refine' yK [_, _, _] [37,38,39] rfl rfl rfl rfl rfl rfl rfl rfl rfl rfl rfl rfl (fun hb => ?_) ?_; rotate_left
 ·
  (try simp only [z7] at hb)
  refine zQ (zH rfl rfl rfl fl33_4 (by exact sz3) (by decide) rfl) ?_
  refine aqR (zG rfl rfl rfl rfl ag3 rfl rfl) ?_
  refine zQ (op_geq rfl rfl rfl) ?_
  (refine yL rfl rfl rfl ?_; repeat (first | exact fun _ _ => rfl | refine zU rfl ?_))
 simp only [nA]
 refine zQ (zC rfl rfl) ?_
 refine' yK [_, _, _] [42,43,44] rfl rfl rfl rfl rfl rfl rfl rfl rfl rfl rfl rfl (fun hb => ?_) ?_; rotate_left
 ·
  (try simp only [z7] at hb)
  refine zQ (zH rfl rfl rfl fl33_4 (by exact sz3) (by decide) rfl) ?_
  refine aqR (zG rfl rfl rfl rfl ag3 rfl rfl) ?_
  refine zQ (op_leq rfl rfl rfl) ?_
  (refine yL rfl rfl rfl ?_; repeat (first | exact fun _ _ => rfl | refine zU rfl ?_))
 simp only [nA]
 refine zQ (zC rfl rfl) ?_
 refine' yK [_, _, _] [47,48,49] rfl rfl rfl rfl rfl rfl rfl rfl rfl rfl rfl rfl (fun hb => ?_) ?_; rotate_left
 ·
  (try simp only [z7] at hb)
  refine zQ (zH rfl rfl rfl fl33_5 (by exact sz3) (by decide) rfl) ?_
  refine aqR (zG rfl rfl rfl rfl ag3 rfl rfl) ?_
  refine zQ (op_geq rfl rfl rfl) ?_
  (refine yL rfl rfl rfl ?_; repeat (first | exact fun _ _ => rfl | refine zU rfl ?_))
 simp only [nA]
 refine zQ (zC rfl rfl) ?_
 refine' yK [_, _, _] [52,53,54] rfl rfl rfl rfl rfl rfl rfl rfl rfl rfl rfl rfl (fun hb => ?_) ?_; rotate_left
 ·
  (try simp only [z7] at hb)
  refine zQ (zH rfl rfl rfl fl33_5 (by exact sz3) (by decide) rfl) ?_
  refine aqR (zG rfl rfl rfl rfl ag3 rfl rfl) ?_
  refine zQ (op_leq rfl rfl rfl) ?_
  (refine yL rfl rfl rfl ?_; repeat (first | exact fun _ _ => rfl | refine zU rfl ?_))
 simp only [nA]
 refine zQ (zC rfl rfl) ?_
 refine' yK [_, _, _] [57,58,59] rfl rfl rfl rfl rfl rfl rfl rfl rfl rfl rfl rfl (fun hb => ?_) ?_; rotate_left
 ·
  (try simp only [z7] at hb)
  refine zQ (zH rfl rfl rfl fl33_6 (by exact sz3) (by decide) rfl) ?_
  refine aqR (zG rfl rfl rfl rfl ag3 rfl rfl) ?_
  refine zQ (op_geq rfl rfl rfl) ?_
  (refine yL rfl rfl rfl ?_; repeat (first | exact fun _ _ => rfl | refine zU rfl ?_))
 simp only [nA]
 refine zQ (zC rfl rfl) ?_
 refine' yK [_, _, _] [62,63,64] rfl rfl rfl rfl rfl rfl rfl rfl rfl rfl rfl rfl (fun hb => ?_) ?_; rotate_left
 ·
  (try simp only [z7] at hb)
  refine zQ (zH rfl rfl rfl fl33_6 (by exact sz3) (by decide) rfl) ?_
  refine aqR (zG rfl rfl rfl rfl ag3 rfl rfl) ?_
  refine zQ (op_leq rfl rfl rfl) ?_
  (refine yL rfl rfl rfl ?_; repeat (first | exact fun _ _ => rfl | refine zU rfl ?_))
 simp only [nA]
 refine zQ (zD rfl rfl) ?_
 refine yN (hK _ ?_); clear hK K; simp only [nA]
 skip
 refine zO ?_; (try simp only [zI, zJ, Nat.reduceEqDiff, ↓reduceIte]); exact zS rfl (.tmp (bl rfl) rfl rfl .nil)
theorem C81 {c : Container} : Fn Tryz.prog 81 [] [.agg c.av] [.v (.bool (coB c))] [] := by
 rw [← coR_eq]; exact C81r
theorem C57 {c : Container} {cat : Int} : Fn Tryz.prog 57 [] [.agg c.av, .v (.int .i64 cat)] [.v (.bool ((decide (cat ≥ 0) && decide (cat ≤ 4)) && bitB c.categories cat))] [] := by
 refine Spec.body Tryz.func57 rfl Tryz.ntmps57 (by simp) rfl ?_; intro S0 own0 v0 w0
 refine zA fun K hK => zB ?_
 refine yD (yO rfl rfl rfl yH rfl) ?_; simp only [nA, Nat.reduceBEq, Nat.reduceEqDiff, ↓reduceIte]
 refine zF (zD rfl rfl) ?_
 refine zE (hK _ ?_); clear hK K; try simp only [nA, Nat.reduceBEq, Nat.reduceEqDiff, ↓reduceIte, Nat.reduceAdd, Nat.reduceSub]
 refine zA fun K hK => zB (yS ?_)
 refine zQ (zC rfl rfl) ?_
 refine zQ (op_geq rfl rfl rfl) ?_
 refine zQ (zC rfl rfl) ?_
 refine' yK [_, _] [8,9] rfl rfl rfl rfl rfl rfl rfl rfl rfl rfl rfl rfl (fun hb => ?_) ?_; rotate_left
 ·
  (try simp only [z7] at hb)
  refine zQ (zC rfl rfl) ?_
  refine zQ (op_leq rfl rfl rfl) ?_
  (refine yL rfl rfl rfl ?_; repeat (first | exact fun _ _ => rfl | refine zU rfl ?_))
 simp only [nA, ↓reduceIte]
 refine zQ (zC rfl rfl) ?_
 refine' yK [_, _, _, _, _, _] [12,13,14,15,16,17] rfl rfl rfl rfl rfl rfl rfl rfl rfl rfl rfl rfl (fun hb => ?_) ?_; rotate_left
 ·
  (try simp only [z7] at hb)
  refine zQ (zH rfl rfl rfl fl33_2 (by exact sz3) (by decide) rfl) ?_
  refine aqR (zG rfl rfl rfl rfl ag3 rfl rfl) ?_
  refine zQ (zC rfl rfl) ?_
  refine zQ (op_shr rfl rfl rfl (by omega) rfl) ?_
  refine zQ (op_and rfl rfl rfl rfl) ?_
  refine zQ (op_eql rfl rfl rfl) ?_
  (refine yL rfl rfl rfl ?_; repeat (first | exact fun _ _ => rfl | refine zU rfl ?_))
 simp only [nA]
 refine zQ (zD rfl rfl) ?_
 refine yN (hK _ ?_); clear hK K; simp only [nA]
 skip
 refine zO ?_; (try simp only [zI, zJ, Nat.reduceEqDiff, ↓reduceIte]); exact zS rfl (.tmp (bl rfl) rfl rfl .nil)
theorem C58 {l : List Piece} (hl : l.length ≤ 1000) (hw : ∀ p ∈ l, 0 ≤ p.weight ∧ p.weight ≤ 1000) : Fn Tryz.prog 58 [] [.ro (l.map Piece.av)] [.v (.int .i64 (sumW l))] [] := by
 refine Spec.body Tryz.func58 rfl Tryz.ntmps58 (by simp) rfl ?_; intro S0 own0 v0 w0
 refine zA fun K hK => zB ?_
 refine zF (zD rfl rfl) ?_
 refine zE (hK _ ?_); clear hK K; try simp only [nA, Nat.reduceBEq, Nat.reduceEqDiff, ↓reduceIte, Nat.reduceAdd, Nat.reduceSub]
 refine zA fun K hK => zB ?_
 refine zF (zD rfl rfl) ?_
 refine zE (hK _ ?_); clear hK K; try simp only [nA, Nat.reduceBEq, Nat.reduceEqDiff, ↓reduceIte, Nat.reduceAdd, Nat.reduceSub]
 refine zA fun K hK => ?_
 refine zA fun K hK => zB ?_
 refine zF (zD rfl rfl) ?_
 refine zE (hK _ ?_); clear hK K; try simp only [nA, Nat.reduceBEq, Nat.reduceEqDiff, ↓reduceIte, Nat.reduceAdd, Nat.reduceSub]
 refine zN ?_
 refine yC (fun i => [(0, .ro (l.map Piece.av)), (3, .v (.int .i64 (sumW (l.take i)))), (4, .v (.int .i64 (i : Nat)))]) (fun i => ⟨[], 1⟩) (fun i => i ≤ l.length) (fun i => l.length - i) 0 (by simp) ⟨rfl, rfl, rfl, trivial⟩ rfl ?_; intro i ρ hi; simp only [updL]; have hsb := sum_bd (l.take i) fun p hp => hw p (List.mem_of_mem_take hp); have hli : ((l.take i).length : Int) ≤ 1000 := (by simp; omega)
 refine zA fun K hK => ?_
 refine zA fun K hK => zB ?_
 refine zF (zC rfl rfl) ?_
 refine zF (zC rfl rfl) ?_
 refine zF (zX rfl rfl Tryz.underlying31 (by exact .inr (.inl ⟨_, rfl, rfl⟩))) ?_
 refine zF (yP rfl rfl rfl) ?_
 refine zE (hK _ ?_); clear hK K; simp only [nA, ↓reduceIte]
 refine zL rfl rfl rfl (fun hc => ?_) (fun hc => ?_)
 ·
  (try simp only [z7] at hc); have hc1 := hc; have hlt : i < l.length := (by simpa using hc1); have hwi := hw l[i] (List.getElem_mem hlt)
  refine zM ?_
  refine hK _ ?_; clear hK K
  refine zA fun K hK => zN ?_
  refine zB ?_
  refine zF (zC rfl rfl) ?_
  refine zF (zC rfl rfl) ?_
  refine zF (zC rfl rfl) ?_
  refine zF (zW _ rfl (.inl rfl) rfl Tryz.underlying31 rfl (get_map (by omega)) (by exact yR) (bl rfl)) ?_
  refine zF (yM rfl rfl fl35_1 (by exact sz3) (by decide) (bl rfl) rfl) ?_
  refine awR (yA rfl rfl ag3) ?_
  refine zF (zR rfl rfl rfl (by omega)) ?_
  refine zF (zD rfl rfl) ?_
  refine zE ?_
  (try simp only [zI, zJ, Nat.reduceEqDiff, ↓reduceIte])
  refine hK _ ?_; clear hK K; simp only [nA, ↓reduceIte]
  refine zB ?_
  refine zF (zC rfl rfl) ?_
  refine zF (zR rfl rfl rfl (by omega)) ?_
  refine zF (zD rfl rfl) ?_
  skip
  refine zE ?_
  refine ⟨i + 1, by omega, by omega, ⟨rfl, (by rw [sum_step (by omega)]; rfl), rfl, trivial⟩, rfl, rfl⟩
 (try simp only [z7] at hc); have hc1 := hc
 refine yE ?_; try simp only [zI, zJ, Nat.reduceEqDiff, ↓reduceIte]
 clear hK K
 refine hK _ ?_; clear hK K
 refine zA fun K hK => zB ?_
 refine zF (zC rfl rfl) ?_
 refine zF (zD rfl rfl) ?_
 refine zE (hK _ ?_); clear hK K; simp only [nA, ↓reduceIte]
 skip
 refine zO ?_; (try simp only [zI, zJ, Nat.reduceEqDiff, ↓reduceIte]); rw [show sumW l = sumW (l.take i) by rw [List.take_of_length_le (by omega)]]; exact zS rfl (.tmp (bl rfl) rfl rfl .nil)
theorem C56 {c : Container} {p : Plate} (hcl : c.pieces.length ≤ 1000000000) : Fn Tryz.prog 56 [] [.agg c.av, .agg p.av] [.v (.bool (hasB c.pieces p))] [] := by
 refine Spec.body Tryz.func56 rfl Tryz.ntmps56 (by simp) rfl ?_; intro S0 own0 v0 w0
 refine zA fun K hK => zB ?_
 refine yD (yO rfl rfl rfl yH rfl) ?_; simp only [nA, Nat.reduceBEq, Nat.reduceEqDiff, ↓reduceIte]
 refine yD (yO rfl rfl rfl sz23 rfl) ?_; simp only [nA, Nat.reduceBEq, Nat.reduceEqDiff, ↓reduceIte]
 refine zF (zD rfl rfl) ?_
 refine zE (hK _ ?_); clear hK K; try simp only [nA, Nat.reduceBEq, Nat.reduceEqDiff, ↓reduceIte, Nat.reduceAdd, Nat.reduceSub]
 refine zA fun K hK => ?_
 refine zA fun K hK => zB ?_
 refine zF (zD rfl rfl) ?_
 refine zE (hK _ ?_); clear hK K; try simp only [nA, Nat.reduceBEq, Nat.reduceEqDiff, ↓reduceIte, Nat.reduceAdd, Nat.reduceSub]
 refine zN ?_
 refine yC (fun (i : Nat) => [(2, .ptr 0 1 0 0), (3, .ptr 1 2 0 0), (5, .v (.int .i64 (i : Nat)))]) (fun i => ⟨[(1, .own 33 [c.av]), (2, .own 23 [p.av])], 3⟩) (fun i => i ≤ c.pieces.length ∧ ∀ k (h : k < c.pieces.length), k < i → c.pieces[k].plate ≠ p) (fun i => c.pieces.length - i) 0 (by simp) ⟨rfl, rfl, rfl, trivial⟩ rfl ?_; intro i ρ hi; simp only [updL]
 refine zA fun K hK => ?_
 refine zA fun K hK => zB ?_
 refine zF (zC rfl rfl) ?_
 refine zF (zH rfl rfl rfl fl33_7 (by exact sz31) (by decide) rfl) ?_
 refine awR (zG rfl rfl rfl rfl ag31 rfl rfl) ?_
 refine zF (zX rfl rfl Tryz.underlying31 (by exact .inr (.inl ⟨_, rfl, rfl⟩))) ?_
 refine zF (yP rfl rfl rfl) ?_
 refine zE (hK _ ?_); clear hK K; simp only [nA, ↓reduceIte]
 refine zL rfl rfl rfl (fun hc => ?_) (fun hc => ?_)
 ·
  (try simp only [z7] at hc); have hc1 := hc; have hlt : i < c.pieces.length := (by simpa using hc1)
  refine zM ?_
  refine hK _ ?_; clear hK K
  refine zA fun K hK => zN ?_
  refine zA fun K hK => ?_
  refine AW.quiet mix (by kernel_rfl) ?_
  refine zQ (zH rfl rfl rfl fl33_7 (by exact sz31) (by decide) rfl) ?_
  refine aqR (zG rfl rfl rfl rfl ag31 rfl rfl) ?_
  refine zQ (zC rfl rfl) ?_
  refine zQ (zW _ rfl (.inl rfl) rfl Tryz.underlying31 rfl (get_map (by omega)) (by exact yR) (bl rfl)) ?_
  refine zQ (yM rfl rfl fl35_0 (by exact sz23) (by decide) (bl rfl) rfl) ?_
  refine aqR (zY rfl rfl ag23 sz23 (bl rfl) (by decide) rfl) ?_
  refine aqR (zK rfl rfl rfl rfl ag23 sz23 (bl rfl) rfl) ?_
  refine zQ (op_eq23 rfl rfl rfl) ?_; simp only [nA, ↓reduceIte]
  refine yN (hK _ ?_); clear hK K
  refine zL rfl rfl rfl (fun hc => ?_) (fun hc => ?_)
  ·
   (try simp only [z7] at hc); have hc2 := hc
   refine zA fun K hK => zB ?_
   refine zF (zD rfl rfl) ?_
   refine zE (hK _ ?_); clear hK K; try simp only [nA, Nat.reduceBEq, Nat.reduceEqDiff, ↓reduceIte, Nat.reduceAdd, Nat.reduceSub]
   skip
   refine zO ?_; (try simp only [zI, zJ, Nat.reduceEqDiff, ↓reduceIte]); rw [show hasB c.pieces p = true by unfold hasB; rw [List.any_eq_true]; exact ⟨c.pieces[i], List.getElem_mem _, by simpa using hc2⟩]; exact zS rfl (.tmp (bl rfl) rfl rfl .nil)
  (try simp only [z7] at hc); have hc2 := hc
  refine zM ?_
  (try simp only [zI, zJ, Nat.reduceEqDiff, ↓reduceIte])
  refine hK _ ?_; clear hK K
  refine zB ?_
  refine zF (zC rfl rfl) ?_
  refine zF (zR rfl rfl rfl (by omega)) ?_
  refine zF (zD rfl rfl) ?_
  skip
  refine zE ?_
  refine ⟨i + 1, ⟨by omega, fun k h hk => by rcases Nat.lt_or_ge k i with h' | h'; exact hi.2 k h h'; (obtain rfl : k = i := by omega); exact hc2⟩, by omega, ⟨rfl, rfl, rfl, trivial⟩, (by rfl), (by rfl)⟩
 (try simp only [z7] at hc); have hc1 := hc
 refine yE ?_; try simp only [zI, zJ, Nat.reduceEqDiff, ↓reduceIte]
 clear hK K
 refine hK _ ?_; clear hK K
 refine zA fun K hK => zB ?_
 refine zF (zD rfl rfl) ?_
 refine zE (hK _ ?_); clear hK K; try simp only [nA, Nat.reduceBEq, Nat.reduceEqDiff, ↓reduceIte, Nat.reduceAdd, Nat.reduceSub]
 skip
 refine zO ?_; (try simp only [zI, zJ, Nat.reduceEqDiff, ↓reduceIte]); rw [show hasB c.pieces p = false by unfold hasB; rw [List.any_eq_false]; intro x hx; obtain ⟨k, hk, rfl⟩ := List.getElem_of_mem hx; have := hi.2 k hk (by simp at hc1; omega); simpa using this]; exact zS rfl (.tmp (bl rfl) rfl rfl .nil)
set_option maxRecDepth 100000
theorem cmpP_bd (p q : Plate) : cmpP p q = -1 ∨ cmpP p q = 0 ∨ cmpP p q = 1 := by
 rcases cmpP_cases p q with ⟨_, e⟩ | ⟨_, e⟩ | ⟨_, e⟩ <;> omega
theorem C55 {c : Container} : Fn Tryz.prog 55 [] [.agg c.av] [.v (.int .i64 (valC c))] [] := by
 refine Spec.body Tryz.func55 rfl Tryz.ntmps55 (by simp) rfl ?_; intro S0 own0 v0 w0
 refine zA fun K hK => zB ?_
 refine yD (yO rfl rfl rfl yH rfl) ?_; simp only [nA, Nat.reduceBEq, Nat.reduceEqDiff, ↓reduceIte]
 refine zF (zD rfl rfl) ?_; try simp only [nA, Nat.reduceBEq, Nat.reduceEqDiff, ↓reduceIte, Nat.reduceAdd, Nat.reduceSub]
 refine zE (hK _ ?_); clear hK K; try simp only [nA, Nat.reduceBEq, Nat.reduceEqDiff, ↓reduceIte, Nat.reduceAdd, Nat.reduceSub]
 refine zA fun K hK => ?_
 refine zA fun K hK => zB ?_
 (refine awR (zK rfl rfl rfl rfl ag33 yH (bl rfl) rfl) ?_); try simp only [nA, Nat.reduceBEq, Nat.reduceEqDiff, ↓reduceIte, Nat.reduceAdd, Nat.reduceSub]
 refine yD (OpQ.j (zT (b := true) rfl en81 (C81 (c := c)) (RL.cons (by exact View.same rfl) (RL.nil)) rfl)) ?_; try simp only [nA, Nat.reduceBEq, Nat.reduceEqDiff, ↓reduceIte, Nat.reduceAdd, Nat.reduceSub]
 refine zF (op_not rfl rfl rfl) ?_; try simp only [nA, Nat.reduceBEq, Nat.reduceEqDiff, ↓reduceIte, Nat.reduceAdd, Nat.reduceSub]
 refine zE (hK _ ?_); clear hK K
 refine zL rfl rfl rfl (fun hc => ?_) (fun hc => ?_)
 ·
  (try simp only [z7] at hc); have hc1 := hc
  refine zA fun K hK => zB ?_
  refine zF (zD rfl rfl) ?_; try simp only [nA, Nat.reduceBEq, Nat.reduceEqDiff, ↓reduceIte, Nat.reduceAdd, Nat.reduceSub]
  refine zE (hK _ ?_); clear hK K
  skip
  refine zO ?_; (try simp only [zI, zJ, Nat.reduceEqDiff, ↓reduceIte]); rw [show valC c = 1 by unfold valC; rw [if_pos hc]]; exact zS rfl (.tmp (bl rfl) rfl rfl .nil)
 (try simp only [z7] at hc); have hc1 := hc
 refine zM ?_
 refine hK _ ?_; clear hK K
 refine zA fun K hK => ?_
 refine zA fun K hK => zB ?_
 (refine zF (zH rfl rfl rfl fl33_7 (by exact sz31) (by decide) rfl) ?_); try simp only [nA, Nat.reduceBEq, Nat.reduceEqDiff, ↓reduceIte, Nat.reduceAdd, Nat.reduceSub]
 (refine awR (zG rfl rfl rfl rfl ag31 rfl rfl) ?_); try simp only [nA, Nat.reduceBEq, Nat.reduceEqDiff, ↓reduceIte, Nat.reduceAdd, Nat.reduceSub]
 (refine zF (zX rfl rfl Tryz.underlying31 (by exact .inr (.inl ⟨_, rfl, rfl⟩))) ?_); try simp only [nA, Nat.reduceBEq, Nat.reduceEqDiff, ↓reduceIte, Nat.reduceAdd, Nat.reduceSub]
 refine zF (op_gtr rfl rfl rfl) ?_; try simp only [nA, Nat.reduceBEq, Nat.reduceEqDiff, ↓reduceIte, Nat.reduceAdd, Nat.reduceSub]
 refine zE (hK _ ?_); clear hK K
 refine zL rfl rfl rfl (fun hc => ?_) (fun hc => ?_)
 ·
  (try simp only [z7] at hc); have hc2 := hc
  refine zA fun K hK => zB ?_
  refine zF (zD rfl rfl) ?_; try simp only [nA, Nat.reduceBEq, Nat.reduceEqDiff, ↓reduceIte, Nat.reduceAdd, Nat.reduceSub]
  refine zE (hK _ ?_); clear hK K
  skip
  refine zO ?_; (try simp only [zI, zJ, Nat.reduceEqDiff, ↓reduceIte]); rw [show valC c = 2 by unfold valC; rw [if_neg (by simp [hc1]), if_pos (by omega)]]; exact zS rfl (.tmp (bl rfl) rfl rfl .nil)
 (try simp only [z7] at hc); have hc2 := hc
 refine zM ?_
 refine hK _ ?_; clear hK K
 refine zA fun K hK => ?_
 refine zA fun K hK => zB ?_
 refine zF (zD rfl rfl) ?_; try simp only [nA, Nat.reduceBEq, Nat.reduceEqDiff, ↓reduceIte, Nat.reduceAdd, Nat.reduceSub]
 refine zE (hK _ ?_); clear hK K
 refine zN ?_
 refine yC (fun (i : Nat) => [(1, .ptr 0 1 0 0), (3, .v (.int .i64 (i : Nat)))]) (fun i => ⟨[(1, .own 33 [c.av])], 2⟩) (fun i => i ≤ c.pieces.length ∧ ∀ k, k < i → errI c.pieces k = 0) (fun i => c.pieces.length - i) 0 (by simp) ⟨rfl, rfl, trivial⟩ rfl ?_; intro i ρ hi; simp only [updL]
 refine zA fun K hK => ?_
 refine zA fun K hK => zB ?_
 refine zF (zC rfl rfl) ?_; simp only [nA, ↓reduceIte]
 (refine zF (zH rfl rfl rfl fl33_7 (by exact sz31) (by decide) rfl) ?_); try simp only [nA, Nat.reduceBEq, Nat.reduceEqDiff, ↓reduceIte, Nat.reduceAdd, Nat.reduceSub]
 (refine awR (zG rfl rfl rfl rfl ag31 rfl rfl) ?_); try simp only [nA, Nat.reduceBEq, Nat.reduceEqDiff, ↓reduceIte, Nat.reduceAdd, Nat.reduceSub]
 (refine zF (zX rfl rfl Tryz.underlying31 (by exact .inr (.inl ⟨_, rfl, rfl⟩))) ?_); try simp only [nA, Nat.reduceBEq, Nat.reduceEqDiff, ↓reduceIte, Nat.reduceAdd, Nat.reduceSub]
 refine zF (yP rfl rfl rfl) ?_; try simp only [nA, Nat.reduceBEq, Nat.reduceEqDiff, ↓reduceIte, Nat.reduceAdd, Nat.reduceSub]
 refine zE (hK _ ?_); clear hK K
 refine zL rfl rfl rfl (fun hc => ?_) (fun hc => ?_)
 ·
  (try simp only [z7] at hc); have hc3 := hc; have hlt : i < c.pieces.length := (by simpa using hc3)
  refine zM ?_
  refine hK _ ?_; clear hK K
  refine zA fun K hK => zN ?_
  refine zA fun K hK => ?_
  refine zA fun K hK => zB ?_
  (refine zF (zH rfl rfl rfl fl33_7 (by exact sz31) (by decide) rfl) ?_); try simp only [nA, Nat.reduceBEq, Nat.reduceEqDiff, ↓reduceIte, Nat.reduceAdd, Nat.reduceSub]
  (refine awR (zG rfl rfl rfl rfl ag31 rfl rfl) ?_); try simp only [nA, Nat.reduceBEq, Nat.reduceEqDiff, ↓reduceIte, Nat.reduceAdd, Nat.reduceSub]
  refine zF (zC rfl rfl) ?_; simp only [nA, ↓reduceIte]
  (refine zF (zW i rfl (.inl rfl) rfl Tryz.underlying31 rfl (get_map (by omega)) (by exact yR) (bl rfl)) ?_); try simp only [nA, Nat.reduceBEq, Nat.reduceEqDiff, ↓reduceIte, Nat.reduceAdd, Nat.reduceSub]
  (refine awR (zY rfl rfl ag35 yR (bl rfl) (by decide) rfl) ?_); try simp only [nA, Nat.reduceBEq, Nat.reduceEqDiff, ↓reduceIte, Nat.reduceAdd, Nat.reduceSub]
  refine yD (OpQ.j (zT (b := true) rfl en44 (C44) (RL.cons (by exact View.same rfl) (RL.nil)) rfl)) ?_; try simp only [nA, Nat.reduceBEq, Nat.reduceEqDiff, ↓reduceIte, Nat.reduceAdd, Nat.reduceSub]
  refine zF (op_not rfl rfl rfl) ?_; try simp only [nA, Nat.reduceBEq, Nat.reduceEqDiff, ↓reduceIte, Nat.reduceAdd, Nat.reduceSub]
  refine zE (hK _ ?_); clear hK K
  refine zL rfl rfl rfl (fun hc => ?_) (fun hc => ?_)
  ·
   (try simp only [z7] at hc); have hc4 := hc
   refine zA fun K hK => zB ?_
   refine zF (zD rfl rfl) ?_; try simp only [nA, Nat.reduceBEq, Nat.reduceEqDiff, ↓reduceIte, Nat.reduceAdd, Nat.reduceSub]
   refine zE (hK _ ?_); clear hK K
   skip
   refine zO ?_; (try simp only [zI, zJ, Nat.reduceEqDiff, ↓reduceIte]); rw [val_err (e := 1) hc1 (by omega) (i := i) (by omega) hi.2 (by rw [errI_at (by omega), if_pos hc4]) (by decide)]; exact zS rfl (.tmp (bl rfl) rfl rfl .nil)
  (try simp only [z7] at hc); have hc4 := hc
  refine zM ?_
  refine hK _ ?_; clear hK K
  refine zA fun K hK => ?_
  refine zA fun K hK => zB ?_
  refine zF (zC rfl rfl) ?_; simp only [nA, ↓reduceIte]
  (refine zF (op_eql rfl rfl rfl) ?_); try simp only [nA, Nat.reduceBEq, Nat.reduceEqDiff, ↓reduceIte, Nat.reduceAdd, Nat.reduceSub]
  refine zE (hK _ ?_); clear hK K
  refine zL rfl rfl rfl (fun hc => ?_) (fun hc => ?_)
  ·
   (try simp only [z7] at hc); have hc5 := hc
   refine yE ?_; try simp only [zI, zJ, Nat.reduceEqDiff, ↓reduceIte]
   clear hK K
   refine hK _ ?_; clear hK K
   refine zB ?_
   refine zF (zC rfl rfl) ?_; simp only [nA, ↓reduceIte]
   (refine zF (zR rfl rfl rfl (by omega)) ?_); try simp only [nA, Nat.reduceBEq, Nat.reduceEqDiff, ↓reduceIte, Nat.reduceAdd, Nat.reduceSub]
   refine zF (zD rfl rfl) ?_; simp only [nA]
   skip
   refine zE ?_
   refine ⟨i + 1, ⟨by omega, all_step hi.2 (by rw [errI_at (by omega), if_neg (by simp [hc4]), if_pos (by omega)])⟩, by omega, ⟨rfl, rfl, trivial⟩, (by rfl), (by rfl)⟩
  (try simp only [z7] at hc); have hc5 := hc
  refine zM ?_
  refine hK _ ?_; clear hK K
  refine zA fun K hK => ?_
  refine AW.quiet mix (by kernel_rfl) ?_
  (refine zQ (zH rfl rfl rfl fl33_7 (by exact sz31) (by decide) rfl) ?_); try simp only [nA, Nat.reduceBEq, Nat.reduceEqDiff, ↓reduceIte, Nat.reduceAdd, Nat.reduceSub]
  (refine aqR (zG rfl rfl rfl rfl ag31 rfl rfl) ?_); try simp only [nA, Nat.reduceBEq, Nat.reduceEqDiff, ↓reduceIte, Nat.reduceAdd, Nat.reduceSub]
  refine zQ (zC rfl rfl) ?_; simp only [nA, ↓reduceIte]
  (refine zQ (op_subi rfl rfl rfl (by omega)) ?_); try simp only [nA, Nat.reduceBEq, Nat.reduceEqDiff, ↓reduceIte, Nat.reduceAdd, Nat.reduceSub]
  (refine zQ (zW (i - 1) rfl (.inl rfl) rfl Tryz.underlying31 (by omega) (get_map (by omega)) (by exact yR) (bl rfl)) ?_); try simp only [nA, Nat.reduceBEq, Nat.reduceEqDiff, ↓reduceIte, Nat.reduceAdd, Nat.reduceSub]
  (refine zQ (yM rfl rfl fl35_0 (by exact sz23) (by decide) (bl rfl) rfl) ?_); try simp only [nA, Nat.reduceBEq, Nat.reduceEqDiff, ↓reduceIte, Nat.reduceAdd, Nat.reduceSub]
  (refine aqR (zY rfl rfl ag23 sz23 (bl rfl) (by decide) rfl) ?_); try simp only [nA, Nat.reduceBEq, Nat.reduceEqDiff, ↓reduceIte, Nat.reduceAdd, Nat.reduceSub]
  (refine zQ (zH rfl rfl rfl fl33_7 (by exact sz31) (by decide) rfl) ?_); try simp only [nA, Nat.reduceBEq, Nat.reduceEqDiff, ↓reduceIte, Nat.reduceAdd, Nat.reduceSub]
  (refine aqR (zG rfl rfl rfl rfl ag31 rfl rfl) ?_); try simp only [nA, Nat.reduceBEq, Nat.reduceEqDiff, ↓reduceIte, Nat.reduceAdd, Nat.reduceSub]
  refine zQ (zC rfl rfl) ?_; simp only [nA, ↓reduceIte]
  (refine zQ (zW _ rfl (.inl rfl) rfl Tryz.underlying31 rfl (get_map (by omega)) (by exact yR) (bl rfl)) ?_); try simp only [nA, Nat.reduceBEq, Nat.reduceEqDiff, ↓reduceIte, Nat.reduceAdd, Nat.reduceSub]
  (refine zQ (yM rfl rfl fl35_0 (by exact sz23) (by decide) (bl rfl) rfl) ?_); try simp only [nA, Nat.reduceBEq, Nat.reduceEqDiff, ↓reduceIte, Nat.reduceAdd, Nat.reduceSub]
  (refine aqR (zY rfl rfl ag23 sz23 (bl rfl) (by decide) rfl) ?_); try simp only [nA, Nat.reduceBEq, Nat.reduceEqDiff, ↓reduceIte, Nat.reduceAdd, Nat.reduceSub]
  refine aqQ (zT (b := true) rfl en82 (C82) (RL.cons (by exact View.same rfl) (RL.cons (by exact View.same rfl) (RL.nil))) rfl) ?_; try simp only [nA, Nat.reduceBEq, Nat.reduceEqDiff, ↓reduceIte, Nat.reduceAdd, Nat.reduceSub]
  refine zQ (zD rfl rfl) ?_; simp only [nA]
  refine yN (hK _ ?_); clear hK K
  refine zA fun K hK => zB ?_
  refine zF (zC rfl rfl) ?_; simp only [nA]
  (refine zF (op_eql rfl rfl rfl) ?_); try simp only [nA, Nat.reduceBEq, Nat.reduceEqDiff, ↓reduceIte, Nat.reduceAdd, Nat.reduceSub]
  refine zE (hK _ ?_); clear hK K
  refine zL rfl rfl rfl (fun hc => ?_) (fun hc => ?_)
  ·
   (try simp only [z7] at hc); have hc6 := hc
   refine zA fun K hK => zB ?_
   refine zF (zD rfl rfl) ?_; try simp only [nA, Nat.reduceBEq, Nat.reduceEqDiff, ↓reduceIte, Nat.reduceAdd, Nat.reduceSub]
   refine zE (hK _ ?_); clear hK K
   skip
   refine zO ?_; (try simp only [zI, zJ, Nat.reduceEqDiff, ↓reduceIte]); rw [val_err (e := 5) hc1 (by omega) (i := i) (by omega) hi.2 (by rw [errI_at (by omega), if_neg (by simp [hc4]), if_neg (by omega), if_pos hc6]) (by decide)]; exact zS rfl (.tmp (bl rfl) rfl rfl .nil)
  (try simp only [z7] at hc); have hc6 := hc; have hcb := cmpP_bd c.pieces[i - 1].plate c.pieces[i].plate
  refine zA fun K hK => zB ?_
  refine zF (zC rfl rfl) ?_; simp only [nA, ↓reduceIte]
  refine zF (op_gtr rfl rfl rfl) ?_; try simp only [nA, Nat.reduceBEq, Nat.reduceEqDiff, ↓reduceIte, Nat.reduceAdd, Nat.reduceSub]
  refine zE (hK _ ?_); clear hK K
  refine zL rfl rfl rfl (fun hc => ?_) (fun hc => ?_)
  ·
   (try simp only [z7] at hc); have hc7 := hc
   refine zA fun K hK => zB ?_
   refine zF (zD rfl rfl) ?_; try simp only [nA, Nat.reduceBEq, Nat.reduceEqDiff, ↓reduceIte, Nat.reduceAdd, Nat.reduceSub]
   refine zE (hK _ ?_); clear hK K
   skip
   refine zO ?_; (try simp only [zI, zJ, Nat.reduceEqDiff, ↓reduceIte]); rw [val_err (e := 9) hc1 (by omega) (i := i) (by omega) hi.2 (by rw [errI_at (by omega), if_neg (by simp [hc4]), if_neg (by omega), if_neg hc6, if_pos (by omega)]) (by decide)]; exact zS rfl (.tmp (bl rfl) rfl rfl .nil)
  (try simp only [z7] at hc); have hc7 := hc
  refine zM ?_
  (try simp only [zI, zJ, Nat.reduceEqDiff, ↓reduceIte])
  refine hK _ ?_; clear hK K
  refine zB ?_
  refine zF (zC rfl rfl) ?_; simp only [nA, ↓reduceIte]
  (refine zF (zR rfl rfl rfl (by omega)) ?_); try simp only [nA, Nat.reduceBEq, Nat.reduceEqDiff, ↓reduceIte, Nat.reduceAdd, Nat.reduceSub]
  refine zF (zD rfl rfl) ?_; simp only [nA]
  skip
  refine zE ?_
  refine ⟨i + 1, ⟨by omega, all_step hi.2 (by rw [errI_at (by omega), if_neg (by simp [hc4]), if_neg (by omega), if_neg hc6, if_neg (by omega)])⟩, by omega, ⟨rfl, rfl, trivial⟩, (by rfl), (by rfl)⟩
 (try simp only [z7] at hc); have hc3 := hc
 refine yE ?_; try simp only [zI, zJ, Nat.reduceEqDiff, ↓reduceIte]
 clear hK K
 refine hK _ ?_; clear hK K
 refine zA fun K hK => zB ?_
 refine zF (zD rfl rfl) ?_; try simp only [nA, Nat.reduceBEq, Nat.reduceEqDiff, ↓reduceIte, Nat.reduceAdd, Nat.reduceSub]
 refine zE (hK _ ?_); clear hK K
 skip
 refine zO ?_; (try simp only [zI, zJ, Nat.reduceEqDiff, ↓reduceIte]); rw [val_ok hc1 (by omega) (i := i) (by omega) hi.2]; exact zS rfl (.tmp (bl rfl) rfl rfl .nil)
abbrev setP (c : Container) (l : List Piece) : Container := ⟨c.number, c.flight, c.categories, c.limit, c.most, c.position, c.arm, l⟩
set_option maxRecDepth 100000
def smallB (xs : List Container) : Bool := xs.all (fun c => decide (c.pieces.length ≤ 70)) && decide ((xs.length : Int) ≤ 30)
theorem C15 {xs : List Container} (hx : xs.length ≤ 9223372036854775807) : Fn Tryz.prog 15 [] [.ro (xs.map Container.av)] [.v (.bool (smallB xs))] [] := by
 refine Spec.body Tryz.func15 rfl Tryz.ntmps15 (by simp) rfl ?_; intro S0 own0 v0 w0
 refine zA fun K hK => zB ?_
 refine zF (zD rfl rfl) ?_
 refine zE (hK _ ?_); clear hK K; try simp only [nA, Nat.reduceBEq, Nat.reduceEqDiff, ↓reduceIte, Nat.reduceAdd, Nat.reduceSub]
 refine zA fun K hK => ?_
 refine zA fun K hK => zB ?_
 refine zF (zC rfl rfl) ?_
 refine zF (zX rfl rfl Tryz.underlying42 (by exact .inr (.inl ⟨_, rfl, rfl⟩))) ?_
 refine zF (zC rfl rfl) ?_
 refine zE (hK _ ?_); clear hK K; simp only [nA, ↓reduceIte]
 refine zN ?_
 refine yC (fun (i : Nat) => [(0, .ro (xs.map Container.av)), (5, .v (.int .i64 (xs.length : Nat))), (6, .v (.int .i64 (i : Nat)))]) (fun _ => ⟨[], 1⟩) (fun i => i ≤ xs.length ∧ ∀ k (h : k < xs.length), k < i → xs[k].pieces.length ≤ 70) (fun i => xs.length - i) 0 (by simp) ⟨rfl, rfl, rfl, trivial⟩ rfl ?_; intro i ρ hI; simp only [updL]
 refine zA fun K hK => zB ?_
 refine zF (yP rfl rfl rfl) ?_
 refine zE (hK _ ?_); clear hK K; try simp only [nA, Nat.reduceBEq, Nat.reduceEqDiff, ↓reduceIte, Nat.reduceAdd, Nat.reduceSub]
 refine zA fun K hK => ?_
 refine zL rfl rfl rfl (fun hc => ?_) (fun hc => ?_)
 ·
  (try simp only [z7] at hc); have hc1 := hc; have hlt : i < xs.length := (by simpa using hc1); obtain ⟨c, hci⟩ : ∃ c, xs[i]? = some c := ⟨xs[i], List.getElem?_eq_getElem hlt⟩; obtain ⟨h0, h00⟩ := List.getElem?_eq_some_iff.1 hci
  refine zM ?_
  refine hK _ ?_; clear hK K
  refine zA fun K hK => zN ?_
  refine zA fun K hK => zB ?_
  refine zF (zC rfl rfl) ?_
  refine zF (zD rfl rfl) ?_
  refine zE (hK _ ?_); clear hK K; simp only [nA, ↓reduceIte]
  refine zA fun K hK => zB ?_
  refine zF (zC rfl rfl) ?_
  refine zF (zC rfl rfl) ?_
  refine zF (zW i rfl (.inl rfl) rfl Tryz.underlying42 rfl (get_of hci) (by exact yH) (bl rfl)) ?_
  refine zF (yM rfl rfl fl33_7 (by exact sz31) (by decide) (bl rfl) rfl) ?_
  refine awR (yA rfl rfl ag31) ?_
  refine zF (zX rfl rfl Tryz.underlying31 (by exact .inr (.inl ⟨_, rfl, rfl⟩))) ?_
  refine zF (op_gtr rfl rfl rfl) ?_
  refine zE (hK _ ?_); clear hK K; simp only [nA, ↓reduceIte]
  refine zL rfl rfl rfl (fun hc => ?_) (fun hc => ?_)
  ·
   (try simp only [z7] at hc); have hc2 := hc
   refine zA fun K hK => zB ?_
   refine zF (zD rfl rfl) ?_
   refine zE (hK _ ?_); clear hK K; try simp only [nA, Nat.reduceBEq, Nat.reduceEqDiff, ↓reduceIte, Nat.reduceAdd, Nat.reduceSub]
   skip
   refine zO ?_; (try simp only [zI, zJ, Nat.reduceEqDiff, ↓reduceIte]); rw [show smallB xs = false by unfold smallB; rw [Bool.and_eq_false_iff]; left; rw [List.all_eq_false]; exact ⟨c, List.mem_of_getElem? hci, by simp; omega⟩]; exact zS rfl (.tmp (bl rfl) rfl rfl .nil)
  (try simp only [z7] at hc); have hc2 := hc
  refine zM ?_
  (try simp only [zI, zJ, Nat.reduceEqDiff, ↓reduceIte])
  refine hK _ ?_; clear hK K
  refine zB ?_
  refine zF (zR rfl rfl rfl (by omega)) ?_
  refine zF (zC rfl rfl) ?_
  skip
  refine zE ?_
  refine ⟨i + 1, ⟨by omega, fun k h hk => by rcases Nat.lt_or_ge k i with h' | h'; exact hI.2 k h h'; (obtain rfl : k = i := by omega); (rw [h00]; omega)⟩, by omega, ⟨rfl, rfl, rfl, trivial⟩, (by rfl), (by rfl)⟩
 (try simp only [z7] at hc); have hc1 := hc
 refine yE ?_; try simp only [zI, zJ, Nat.reduceEqDiff, ↓reduceIte]
 clear hK K
 refine hK _ ?_; clear hK K
 refine zA fun K hK => zB ?_
 refine zF (zC rfl rfl) ?_
 refine zF (zX rfl rfl Tryz.underlying42 (by exact .inr (.inl ⟨_, rfl, rfl⟩))) ?_
 refine zF (op_leq rfl rfl rfl) ?_
 refine zF (zD rfl rfl) ?_
 refine zE (hK _ ?_); clear hK K; simp only [nA, ↓reduceIte]
 skip
 refine zO ?_; (try simp only [zI, zJ, Nat.reduceEqDiff, ↓reduceIte]); rw [show smallB xs = decide ((xs.length : Int) ≤ 30) by unfold smallB; rw [List.all_eq_true.2 (fun x hx => by obtain ⟨k, hk, rfl⟩ := List.getElem_of_mem hx; exact decide_eq_true (hI.2 k hk (by omega)))]; rfl]; exact zS rfl (.tmp (bl rfl) rfl rfl .nil)
theorem C45 {xs : List Container} {p : Plate} (hx : xs.length ≤ 1000000) (hb : ∀ c ∈ xs, c.pieces.length ≤ 1000000000) : Fn Tryz.prog 45 [] [.ro (xs.map Container.av), .agg p.av] [.v (.int .i64 (findL xs p).1), .v (.bool (findL xs p).2)] [] := by
 refine Spec.body Tryz.func45 rfl Tryz.ntmps45 (by simp) rfl ?_; intro S0 own0 v0 w0
 refine zA fun K hK => zB ?_
 refine yD (yO rfl rfl rfl sz23 rfl) ?_; simp only [nA, Nat.reduceBEq, Nat.reduceEqDiff, ↓reduceIte]
 refine zF (zD rfl rfl) ?_
 refine zF (zD rfl rfl) ?_
 refine zE (hK _ ?_); clear hK K; try simp only [nA, Nat.reduceBEq, Nat.reduceEqDiff, ↓reduceIte, Nat.reduceAdd, Nat.reduceSub]
 refine zA fun K hK => ?_
 refine zA fun K hK => zB ?_
 refine zF (zD rfl rfl) ?_
 refine zE (hK _ ?_); clear hK K; try simp only [nA, Nat.reduceBEq, Nat.reduceEqDiff, ↓reduceIte, Nat.reduceAdd, Nat.reduceSub]
 refine zN ?_
 refine yC (fun (i : Nat) => [(0, .ro (xs.map Container.av)), (3, .ptr 0 1 0 0), (6, .v (.int .i64 (i : Nat)))]) (fun _ => ⟨[(1, .own 23 [p.av])], 2⟩) (fun i => i ≤ xs.length ∧ ∀ k (h : k < xs.length), k < i → hasB xs[k].pieces p = false) (fun i => xs.length - i) 0 ⟨by simp, by simp⟩ ⟨rfl, rfl, rfl, trivial⟩ rfl ?_; intro i ρ hI; simp only [updL]
 refine zA fun K hK => ?_
 refine zA fun K hK => zB ?_
 refine zF (zC rfl rfl) ?_
 refine zF (zC rfl rfl) ?_
 refine zF (zX rfl rfl Tryz.underlying42 (by exact .inr (.inl ⟨_, rfl, rfl⟩))) ?_
 refine zF (yP rfl rfl rfl) ?_
 refine zE (hK _ ?_); clear hK K; simp only [nA, ↓reduceIte]
 refine zL rfl rfl rfl (fun hc => ?_) (fun hc => ?_)
 ·
  (try simp only [z7] at hc); have hc1 := hc; have hlt : i < xs.length := (by simpa using hc1); obtain ⟨c, hci⟩ : ∃ c, xs[i]? = some c := ⟨xs[i], List.getElem?_eq_getElem hlt⟩; have hcl := hb c (List.mem_of_getElem? hci)
  refine zM ?_
  refine hK _ ?_; clear hK K
  refine zA fun K hK => zN ?_
  refine zA fun K hK => ?_
  refine AW.quiet mix (by kernel_rfl) ?_
  refine zQ (zC rfl rfl) ?_
  refine zQ (zC rfl rfl) ?_
  refine zQ (zW i rfl (.inl rfl) rfl Tryz.underlying42 rfl (get_of hci) (by exact yH) (bl rfl)) ?_
  refine aqR (zY rfl rfl ag33 yH (bl rfl) (by decide) rfl) ?_
  refine aqR (zK rfl rfl rfl rfl ag23 sz23 (bl rfl) rfl) ?_
  refine aqQ (zT (b := true) rfl en56 (C56 (c := c) (p := p) hcl) (RL.cons (by exact View.same rfl) (RL.cons (by exact View.same rfl) (RL.nil))) rfl) ?_; simp only [nA, ↓reduceIte]
  refine yN (hK _ ?_); clear hK K
  refine zL rfl rfl rfl (fun hc => ?_) (fun hc => ?_)
  ·
   (try simp only [z7] at hc); have hc2 := hc
   refine zA fun K hK => zB ?_
   refine zF (zC rfl rfl) ?_
   refine zF (zC rfl rfl) ?_
   refine zF (zW i rfl (.inl rfl) rfl Tryz.underlying42 rfl (get_of hci) (by exact yH) (bl rfl)) ?_
   refine zF (yM rfl rfl fl33_0 (by exact sz3) (by decide) (bl rfl) rfl) ?_
   refine awR (yA rfl rfl ag3) ?_
   refine zF (zD rfl rfl) ?_
   refine zF (zD rfl rfl) ?_
   refine zE (hK _ ?_); clear hK K; simp only [nA, ↓reduceIte]
   skip
   refine zO ?_; (try simp only [zI, zJ, Nat.reduceEqDiff, ↓reduceIte]); rw [find_yes hci hI.2 hc2]; exact zS rfl (.tmp (bl rfl) rfl rfl (.tmp (bl rfl) rfl rfl .nil))
  (try simp only [z7] at hc); have hc2 := hc
  refine zM ?_
  (try simp only [zI, zJ, Nat.reduceEqDiff, ↓reduceIte])
  refine hK _ ?_; clear hK K
  refine zB ?_
  refine zF (zC rfl rfl) ?_
  refine zF (zR rfl rfl rfl (by omega)) ?_
  refine zF (zD rfl rfl) ?_
  skip
  refine zE ?_
  refine ⟨i + 1, ⟨by omega, fun k h hk => by rcases Nat.lt_or_ge k i with h' | h'; exact hI.2 k h h'; (obtain rfl : k = i := by omega); (rw [(List.getElem?_eq_some_iff.1 hci).2]; exact hc2)⟩, by omega, ⟨rfl, rfl, rfl, trivial⟩, (by rfl), (by rfl)⟩
 (try simp only [z7] at hc); have hc1 := hc
 refine yE ?_; try simp only [zI, zJ, Nat.reduceEqDiff, ↓reduceIte]
 clear hK K
 refine hK _ ?_; clear hK K
 refine zA fun K hK => zB ?_
 refine zF (zD rfl rfl) ?_
 refine zF (zD rfl rfl) ?_
 refine zE (hK _ ?_); clear hK K; try simp only [nA, Nat.reduceBEq, Nat.reduceEqDiff, ↓reduceIte, Nat.reduceAdd, Nat.reduceSub]
 skip
 refine zO ?_; (try simp only [zI, zJ, Nat.reduceEqDiff, ↓reduceIte]); rw [find_none (xs := xs) (p := p) (fun k h => hI.2 k h (by simp at hc1; omega))]; exact zS rfl (.tmp (bl rfl) rfl rfl (.tmp (bl rfl) rfl rfl .nil))
theorem C62 {c : Container} : Fn Tryz.prog 62 [] [.agg c.av] [.v (.int .i64 (weightC c))] [] := by
 refine Spec.body Tryz.func62 rfl Tryz.ntmps62 (by simp) rfl ?_; intro S0 own0 v0 w0
 refine zA fun K hK => zB ?_
 refine yD (yO rfl rfl rfl yH rfl) ?_; simp only [nA, Nat.reduceBEq, Nat.reduceEqDiff, ↓reduceIte]
 refine zF (zD rfl rfl) ?_
 refine zE (hK _ ?_); clear hK K; try simp only [nA, Nat.reduceBEq, Nat.reduceEqDiff, ↓reduceIte, Nat.reduceAdd, Nat.reduceSub]
 refine zA fun K hK => ?_
 refine zA fun K hK => zB ?_
 refine awR (zK rfl rfl rfl rfl ag33 yH (bl rfl) rfl) ?_
 refine yD (OpQ.j (zT (b := true) rfl en55 (C55) (RL.cons (by exact View.same rfl) (RL.nil)) rfl)) ?_; try simp only [nA, Nat.reduceBEq, Nat.reduceEqDiff, ↓reduceIte, Nat.reduceAdd, Nat.reduceSub]
 refine zF (op_neq rfl rfl rfl) ?_
 refine zE (hK _ ?_); clear hK K; try simp only [nA, Nat.reduceBEq, Nat.reduceEqDiff, ↓reduceIte, Nat.reduceAdd, Nat.reduceSub]
 refine zL rfl rfl rfl (fun hc => ?_) (fun hc => ?_)
 ·
  (try simp only [z7] at hc); have hc1 := hc
  refine zA fun K hK => zB ?_
  refine zF (zD rfl rfl) ?_
  refine zE (hK _ ?_); clear hK K; try simp only [nA, Nat.reduceBEq, Nat.reduceEqDiff, ↓reduceIte, Nat.reduceAdd, Nat.reduceSub]
  skip
  refine zO ?_; (try simp only [zI, zJ, Nat.reduceEqDiff, ↓reduceIte]); rw [show weightC c = 0 by unfold weightC; rw [if_pos (by simpa using hc)]]; exact zS rfl (.tmp (bl rfl) rfl rfl .nil)
 (try simp only [z7] at hc); have hc1 := hc; have hv := val_inv (c := c) (by simpa using hc1); have hvw := val_w (c := c) (by simpa using hc1)
 refine zM ?_
 refine hK _ ?_; clear hK K
 refine zA fun K hK => zB ?_
 refine zF (zH rfl rfl rfl fl33_7 (by exact sz31) (by decide) rfl) ?_
 refine awR (zG rfl rfl rfl rfl ag31 rfl rfl) ?_
 refine yD (OpQ.j (zT (b := true) rfl en58 (C58 (l := c.pieces) (by omega) hvw) (RL.cons (by exact View.same rfl) (RL.nil)) rfl)) ?_; try simp only [nA, Nat.reduceBEq, Nat.reduceEqDiff, ↓reduceIte, Nat.reduceAdd, Nat.reduceSub]
 refine zF (zD rfl rfl) ?_
 refine zE (hK _ ?_); clear hK K; simp only [nA]
 skip
 refine zO ?_; (try simp only [zI, zJ, Nat.reduceEqDiff, ↓reduceIte]); rw [show weightC c = sumW c.pieces by unfold weightC; rw [if_neg (by simpa using hc1)]]; exact zS rfl (.tmp (bl rfl) rfl rfl .nil)
set_option maxRecDepth 100000
theorem bl_loop (a : ByteArray) : ∀ (n i : Nat) (r : List UInt8), a.size - i = n → ByteArray.toList.loop a i r = r.reverse ++ a.data.toList.drop i
 | 0, i, r, h => by
   have hs : a.data.toList.length = a.size := by rw [Array.length_toList]; rfl
   unfold ByteArray.toList.loop
   rw [if_neg (by omega), List.drop_eq_nil_of_le (by omega), List.append_nil]
 | n + 1, i, r, h => by
   have hs : a.data.toList.length = a.size := by rw [Array.length_toList]; rfl
   have hi : i < a.data.toList.length := by omega
   unfold ByteArray.toList.loop
   rw [if_pos (by omega), bl_loop a n (i + 1) _ (by omega), List.drop_eq_getElem_cons hi]
   have : a.get! i = a.data.toList[i] := by
     show a.data[i]! = _
     rw [getElem!_pos a.data i (by simpa using hi)]
     simp
   rw [this, List.reverse_cons, List.append_assoc]
   rfl
theorem bl_inj {a b : ByteArray} (h : a.toList = b.toList) : a = b := by
 unfold ByteArray.toList at h
 rw [bl_loop a _ 0 [] rfl, bl_loop b _ 0 [] rfl] at h
 exact bytes_ext (by simpa using h)
theorem flEq_iff {f g : Flight} : flEq f g = true ↔ f = g := by
 obtain ⟨a, b, c, d⟩ := f
 obtain ⟨a', b', c', d'⟩ := g
 unfold flEq
 simp only [Bool.and_eq_true, beq_iff_eq, Flight.mk.injEq]
 constructor
 · rintro ⟨h1, h2, h3, h4⟩; exact ⟨bl_inj h1, h2, bl_inj h3, h4⟩
 rintro ⟨h1, h2, h3, h4⟩; exact ⟨by rw [h1], h2, by rw [h3], h4⟩
theorem spot_iff {c d : Container} : spotOf d = spotOf c ↔ d.flight = c.flight ∧ d.position = c.position := by
 unfold spotOf
 obtain ⟨n, ⟨a, b, s, e⟩, _, _, _, p, _, _⟩ := c
 obtain ⟨n', ⟨a', b', s', e'⟩, _, _, _, p', _, _⟩ := d
 simp only [Spot.mk.injEq, Flight.mk.injEq]
 constructor
 · rintro ⟨h1, h2, h3, h4, h5⟩; exact ⟨⟨bytes_ext h1, h2, bytes_ext h3, h4⟩, h5⟩
 rintro ⟨⟨h1, h2, h3, h4⟩, h5⟩; exact ⟨by rw [h1], h2, by rw [h3], h4, h5⟩
theorem run_eq25 (p q : Flight) (w : World) : (binOp .eql 25 (.agg #[.string p.carrier, .int .i64 p.number, .string p.suffix, .int .i64 p.day]) (.agg #[.string q.carrier, .int .i64 q.number, .string q.suffix, .int .i64 q.day])).run Tryz.prog w = .ok (.bool (flEq p q)) w := by
 obtain ⟨a, b, c, d⟩ := p
 obtain ⟨a', b', c', d'⟩ := q
 unfold binOp
 simp only [Op.equal]
 rw [Sem.run_bind, show Op.maxDepth = 9998 + 1 + 1 from rfl, run_equalIn_struct w _ 25 _ _ fo25 st25]
 unfold Program.fieldsOf; rw [Tryz.underlying25]
 simp only [Op.eqFields]
 go_simp
 unfold flEq
 by_cases h1 : a.toList = a'.toList <;> by_cases h2 : b = b' <;> by_cases h3 : c.toList = c'.toList <;> by_cases h4 : d = d' <;> simp [h1, h2, h3, h4]
theorem run_tye25 (p q : Operand) (x y : Array Value) (w : World) : (eqGuard .eql 25 p q (.agg x) (.agg y)).run Tryz.prog w = .ok () w := by
 unfold eqGuard
 simp [ty25, run_program]
section
variable {S0 : Nat → Prop} {own0 : List Nat} {v0 : List Value} {w0 : World} {o : Oper} {ev : Operand → AV} {T : Sl} {yt : TypeId} {y z : Operand}
theorem op_eq25 {p q : Flight} (ho : o.op = .binOp .eql 25 y z yt) (hy : ev y = .agg p.av) (hz : ev z = .agg q.av) : OpP ⟨Tryz.prog, S0, own0, v0, w0⟩ o ev T (.v (.bool (flEq p q))) :=
 op_bin_agg (xs := [.string p.carrier, .int .i64 p.number, .string p.suffix, .int .i64 p.day]) (ys := [.string q.carrier, .int .i64 q.number, .string q.suffix, .int .i64 q.day]) ho hy hz (fun w => run_tye25 _ _ _ _ w) (fun w => run_eq25 p q w) rfl
end
def Seen (xs : List Container) (i : Nat) (sp : List Container) (pl : List Plate) : Prop :=
 chk (prevN xs i) (xs.drop i) sp pl = chk none xs [] [] ∧ (∀ s, s ∈ sp.map spotOf ↔ ∃ c ∈ xs.take i, c.position ≠ 0 ∧ spotOf c = s) ∧ ∀ p, p ∈ pl ↔ ∃ c ∈ xs.take i, hasB c.pieces p = true
theorem seen_zero (xs : List Container) : Seen xs 0 [] [] := ⟨rfl, fun s => by simp, fun p => by simp⟩
theorem seen_step {xs : List Container} {i : Nat} {sp : List Container} {pl : List Plate} {c : Container} (hS : Seen xs i sp pl) (hci : xs[i]? = some c) :
   chk none xs [] [] = (if valC c ≠ 0 then valC c else if prevBad (prevN xs i) c.number = true then 9 else if c.position ≠ 0 ∧ spotOf c ∈ sp.map spotOf then 7 else
     match chkP c.pieces pl with
     | none => 5
     | some pl' => chk (some c.number) (xs.drop (i + 1)) (if c.position ≠ 0 then c :: sp else sp) pl') := by
 rw [← hS.1, drop_cons hci]
 rfl
theorem chkP_no : ∀ (l : List Piece) (pl : List Plate), (∃ x ∈ l, x.plate ∈ pl) → chkP l pl = none
 | [], _, ⟨x, hx, _⟩ => by cases hx
 | y :: l, pl, ⟨x, hx, h⟩ => by
   rw [chkP_cons]
   by_cases hy : y.plate ∈ pl
   · rw [if_pos hy]
   rw [if_neg hy]
   rcases List.mem_cons.1 hx with rfl | hx
   · exact absurd h hy
   exact chkP_no l _ ⟨x, hx, List.mem_cons_of_mem _ h⟩
theorem chkP_yes : ∀ (l : List Piece) (pl : List Plate), AscP l → (∀ x ∈ l, x.plate ∉ pl) → ∃ pl', chkP l pl = some pl' ∧ ∀ q, q ∈ pl' ↔ q ∈ pl ∨ ∃ x ∈ l, x.plate = q
 | [], pl, _, _ => ⟨pl, rfl, fun q => by simp⟩
 | y :: l, pl, ha, hn => by
   have ha' := List.pairwise_cons.1 ha
   obtain ⟨pl', h1, h2⟩ := chkP_yes l (y.plate :: pl) ha'.2 fun x hx hm => by
     rcases List.mem_cons.1 hm with hm | hm
     · have := ha'.1 x hx
       rw [hm] at this
       exact PLt.irrefl _ this
     exact hn x (List.mem_cons_of_mem _ hx) hm
   refine ⟨pl', by rw [chkP_cons, if_neg (hn y (by simp))]; exact h1, fun q => ?_⟩
   rw [h2 q]
   simp only [List.mem_cons, exists_eq_or_imp]
   constructor
   · rintro ((h | h) | h)
     · exact .inr (.inl h.symm)
     · exact .inl h
     exact .inr (.inr h)
   rintro (h | h | h)
   · exact .inl (.inr h)
   · exact .inl (.inl h.symm)
   exact .inr h
theorem take_mem {xs : List Container} {i : Nat} {c d : Container} (hci : xs[i]? = some c) : d ∈ xs.take (i + 1) ↔ d ∈ xs.take i ∨ d = c := by
 rw [List.take_add_one, hci, List.mem_append]
 simp
theorem seen_next {xs : List Container} {i : Nat} {sp : List Container} {pl pl' : List Plate} {c : Container} (hS : Seen xs i sp pl) (hci : xs[i]? = some c)
   (hR : chk none xs [] [] = chk (some c.number) (xs.drop (i + 1)) (if c.position ≠ 0 then c :: sp else sp) pl') (hp : ∀ q, q ∈ pl' ↔ q ∈ pl ∨ ∃ x ∈ c.pieces, x.plate = q) : ∃ sp pl, Seen xs (i + 1) sp pl := by
 refine ⟨_, pl', by rw [prevN_succ hci]; exact hR.symm, fun s => ?_, fun q => ?_⟩
 · have h2 := hS.2.1 s
   constructor
   · intro h
     by_cases h0 : c.position ≠ 0
     · rw [if_pos h0, List.map_cons, List.mem_cons] at h
       rcases h with h | h
       · exact ⟨c, (take_mem hci).2 (.inr rfl), h0, h.symm⟩
       obtain ⟨d, hd, h3⟩ := h2.1 h
       exact ⟨d, (take_mem hci).2 (.inl hd), h3⟩
     rw [if_neg h0] at h
     obtain ⟨d, hd, h3⟩ := h2.1 h
     exact ⟨d, (take_mem hci).2 (.inl hd), h3⟩
   rintro ⟨d, hd, h3, h4⟩
   rcases (take_mem hci).1 hd with hd | rfl
   · have := h2.2 ⟨d, hd, h3, h4⟩
     split
     · exact List.mem_cons_of_mem _ this
     exact this
   rw [if_pos h3, List.map_cons]; exact List.mem_cons.2 (.inl h4.symm)
 rw [hp q, hS.2.2 q]
 constructor
 · rintro (⟨d, hd, h⟩ | h)
   · exact ⟨d, (take_mem hci).2 (.inl hd), h⟩
   exact ⟨c, (take_mem hci).2 (.inr rfl), hasB_iff.2 h⟩
 rintro ⟨d, hd, h⟩
 rcases (take_mem hci).1 hd with hd | rfl
 · exact .inl ⟨d, hd, h⟩
 exact .inr (hasB_iff.1 h)
theorem findL_snd {xs : List Container} {p : Plate} : (findL xs p).2 = true ↔ ∃ c ∈ xs, hasB c.pieces p = true := by
 unfold findL
 cases h : xs.find? fun c => hasB c.pieces p with
 | none =>
   rw [List.find?_eq_none] at h
   constructor
   · intro h; cases h
   rintro ⟨c, hc, h2⟩; exact absurd h2 (h c hc)
 | some c => exact ⟨fun _ => ⟨c, List.mem_of_find?_eq_some h, List.find?_some (p := fun (d : Container) => hasB d.pieces p) h⟩, fun _ => rfl⟩
theorem mem_takeI {xs : List Container} {i k : Nat} (h : k < xs.length) (hk : k < i) : xs[k] ∈ xs.take i := by
 rw [show xs[k] = (xs.take i)[k]'(by simp; omega) by simp]
 exact List.getElem_mem _
set_option maxHeartbeats 4000000 in
theorem C39 {xs : List Container} (hx : xs.length ≤ 1000000) (hb : ∀ c ∈ xs, c.pieces.length ≤ 1000000000) : Fn Tryz.prog 39 [] [.ro (xs.map Container.av)] [.v (.int .i64 (chkL xs))] [] := by
 refine Spec.body Tryz.func39 rfl Tryz.ntmps39 (by simp) rfl ?_; intro S0 own0 v0 w0
 refine zA fun K hK => zB ?_
 refine zF (zD rfl rfl) ?_
 refine zE (hK _ ?_); clear hK K; try simp only [nA, Nat.reduceBEq, Nat.reduceEqDiff, ↓reduceIte, Nat.reduceAdd, Nat.reduceSub]
 refine zA fun K hK => ?_
 refine zA fun K hK => zB ?_
 refine zF (zC rfl rfl) ?_
 refine zF (zX rfl rfl Tryz.underlying42 (by exact .inr (.inl ⟨_, rfl, rfl⟩))) ?_
 refine zF (op_gtr rfl rfl rfl) ?_
 refine zE (hK _ ?_); clear hK K; simp only [nA, ↓reduceIte]
 refine zL rfl rfl rfl (fun hc => ?_) (fun hc => ?_)
 ·
  (try simp only [z7] at hc); have hc1 := hc
  refine zA fun K hK => zB ?_
  refine zF (zD rfl rfl) ?_
  refine zE (hK _ ?_); clear hK K; try simp only [nA, Nat.reduceBEq, Nat.reduceEqDiff, ↓reduceIte, Nat.reduceAdd, Nat.reduceSub]
  skip
  refine zO ?_; (try simp only [zI, zJ, Nat.reduceEqDiff, ↓reduceIte]); rw [show chkL xs = 2 by unfold chkL; rw [if_pos (by omega)]]; exact zS rfl (.tmp (bl rfl) rfl rfl .nil)
 (try simp only [z7] at hc); have hc1 := hc; have hL : chkL xs = chk none xs [] [] := (by unfold chkL; rw [if_neg (by omega)])
 refine zM ?_
 refine hK _ ?_; clear hK K
 refine zA fun K hK => ?_
 refine zA fun K hK => zB ?_
 refine zF (zD rfl rfl) ?_
 refine zE (hK _ ?_); clear hK K; try simp only [nA, Nat.reduceBEq, Nat.reduceEqDiff, ↓reduceIte, Nat.reduceAdd, Nat.reduceSub]
 refine zN ?_
 refine yC (fun (i : Nat) => [(0, .ro (xs.map Container.av)), (3, .v (.int .i64 (i : Nat)))]) (fun _ => ⟨[], 1⟩) (fun i => i ≤ xs.length ∧ ∃ sp pl, Seen xs i sp pl) (fun i => xs.length - i) 0 ⟨Nat.zero_le _, _, _, seen_zero xs⟩ ⟨rfl, rfl, trivial⟩ rfl ?_; rintro i ρ ⟨hi, sp, pl, hS⟩; simp only [updL]
 refine zA fun K hK => ?_
 refine zA fun K hK => zB ?_
 refine zF (zC rfl rfl) ?_
 refine zF (zC rfl rfl) ?_
 refine zF (zX rfl rfl Tryz.underlying42 (by exact .inr (.inl ⟨_, rfl, rfl⟩))) ?_
 refine zF (yP rfl rfl rfl) ?_
 refine zE (hK _ ?_); clear hK K; simp only [nA, ↓reduceIte]
 refine zL rfl rfl rfl (fun hc => ?_) (fun hc => ?_)
 ·
  (try simp only [z7] at hc); have hc2 := hc; have hlt : i < xs.length := (by simpa using hc2); obtain ⟨c, hci⟩ : ∃ c, xs[i]? = some c := ⟨xs[i], List.getElem?_eq_getElem hlt⟩; have hR := seen_step hS hci
  refine zM ?_
  refine hK _ ?_; clear hK K
  refine zA fun K hK => zN ?_
  refine zA fun K hK => ?_
  refine zA fun K hK => zB ?_
  refine zF (zC rfl rfl) ?_
  refine zF (zC rfl rfl) ?_
  refine zF (zW i rfl (.inl rfl) rfl Tryz.underlying42 rfl (get_of hci) (by exact yH) (bl rfl)) ?_
  refine awR (zY rfl rfl ag33 yH (bl rfl) (by decide) rfl) ?_
  refine yD (OpQ.j (zT (b := true) rfl en55 (C55 (c := c)) (RL.cons (by exact View.same rfl) (RL.nil)) rfl)) ?_; simp only [nA, ↓reduceIte]
  refine zF (zD rfl rfl) ?_
  refine zE (hK _ ?_); clear hK K; simp only [nA]
  refine zA fun K hK => zB ?_
  refine zF (zC rfl rfl) ?_
  refine zF (op_neq rfl rfl rfl) ?_
  refine zE (hK _ ?_); clear hK K; simp only [nA]
  refine zL rfl rfl rfl (fun hc => ?_) (fun hc => ?_)
  ·
   (try simp only [z7] at hc); have hc3 := hc
   refine zA fun K hK => zB ?_
   refine zF (zC rfl rfl) ?_
   refine zF (zD rfl rfl) ?_
   refine zE (hK _ ?_); clear hK K; simp only [nA, ↓reduceIte]
   skip
   refine zO ?_; (try simp only [zI, zJ, Nat.reduceEqDiff, ↓reduceIte]); rw [hL, hR, if_pos (by simpa using hc3)]; exact zS rfl (.tmp (bl rfl) rfl rfl .nil)
  (try simp only [z7] at hc); have hc3 := hc; have hv0 : valC c = 0 := (by simpa using hc3); have hv := val_inv hv0; rw [if_neg (by simp [hv0])] at hR
  refine zM ?_
  refine hK _ ?_; clear hK K
  refine zA fun K hK => ?_
  refine zA fun K hK => ?_
  refine AW.quiet mix (by kernel_rfl) ?_
  refine zQ (zC rfl rfl) ?_
  refine zQ (op_gtr rfl rfl rfl) ?_
  refine zQ (zC rfl rfl) ?_
  refine' yK [_, _, _, _, _, _, _, _, _, _, _, _] [29,30,31,32,33,34,35,36,37,38,39,40] rfl rfl rfl rfl rfl rfl rfl rfl rfl rfl rfl rfl (fun hb => ?_) ?_; rotate_left
  ·
   (try simp only [z7] at hb)
   refine zQ (zC rfl rfl) ?_
   refine zQ (zC rfl rfl) ?_
   refine zQ (zW i rfl (.inl rfl) rfl Tryz.underlying42 rfl (get_of hci) (by exact yH) (bl rfl)) ?_
   refine zQ (yM rfl rfl fl33_0 (by exact sz3) (by decide) (bl rfl) rfl) ?_
   refine aqR (yA rfl rfl ag3) ?_
   refine zQ (zC rfl rfl) ?_
   refine zQ (zC rfl rfl) ?_
   refine zQ (op_subi rfl rfl rfl (by omega)) ?_
   refine zQ (zW (i - 1) rfl (.inl rfl) rfl Tryz.underlying42 (by omega) (yF (by omega)) (by exact yH) (bl rfl)) ?_
   refine zQ (yM rfl rfl fl33_0 (by exact sz3) (by decide) (bl rfl) rfl) ?_
   refine aqR (yA rfl rfl ag3) ?_
   refine zQ (op_leq rfl rfl rfl) ?_
   (refine yL rfl rfl rfl ?_; repeat (first | exact fun _ _ => rfl | refine zU rfl ?_))
  simp only [nA, ↓reduceIte]
  refine yN (hK _ ?_); clear hK K
  refine zL rfl rfl rfl (fun hc => ?_) (fun hc => ?_)
  ·
   (try simp only [z7] at hc); have hc4 := hc
   refine zA fun K hK => zB ?_
   refine zF (zD rfl rfl) ?_
   refine zE (hK _ ?_); clear hK K; try simp only [nA, Nat.reduceBEq, Nat.reduceEqDiff, ↓reduceIte, Nat.reduceAdd, Nat.reduceSub]
   skip
   refine zO ?_; (try simp only [zI, zJ, Nat.reduceEqDiff, ↓reduceIte]); rw [if_pos (by rw [prevBad_eq]; simpa using hc)] at hR; rw [hL, hR]; exact zS rfl (.tmp (bl rfl) rfl rfl .nil)
  (try simp only [z7] at hc); have hc4 := hc; rw [if_neg (by rw [prevBad_eq]; simp only [Bool.and_eq_true, decide_eq_true_eq]; omega)] at hR
  refine zM ?_
  refine hK _ ?_; clear hK K
  refine zA fun K hK => ?_
  refine zA fun K hK => zB ?_
  refine zF (zD rfl rfl) ?_
  refine zE (hK _ ?_); clear hK K; try simp only [nA, Nat.reduceBEq, Nat.reduceEqDiff, ↓reduceIte, Nat.reduceAdd, Nat.reduceSub]
  refine zN ?_
  refine yC (fun (j : Nat) => [(0, .ro (xs.map Container.av)), (3, .v (.int .i64 (i : Nat))), (5, .v (.int .i64 (j : Nat)))]) (fun _ => ⟨[], 1⟩) (fun j => j ≤ i ∧ ∀ k (h : k < xs.length), k < j → ¬ (c.position ≠ 0 ∧ spotOf xs[k] = spotOf c)) (fun j => i - j) 0 ⟨by simp, by simp⟩ ⟨rfl, rfl, rfl, trivial⟩ rfl ?_; intro j ρ hJ; simp only [updL]
  refine zA fun K hK => ?_
  refine zA fun K hK => zB ?_
  refine zF (zC rfl rfl) ?_
  refine zF (zC rfl rfl) ?_
  refine zF (yP rfl rfl rfl) ?_
  refine zE (hK _ ?_); clear hK K; simp only [nA, ↓reduceIte]
  refine zL rfl rfl rfl (fun hc => ?_) (fun hc => ?_)
  ·
   (try simp only [z7] at hc); have hc5 := hc; have hji : j < i := (by omega); have hjl : j < xs.length := (by omega); obtain ⟨d, hdj⟩ : ∃ d, xs[j]? = some d := ⟨xs[j], List.getElem?_eq_getElem hjl⟩; have hde := (List.getElem?_eq_some_iff.1 hdj).2
   refine zM ?_
   refine hK _ ?_; clear hK K
   refine zA fun K hK => zN ?_
   refine zA fun K hK => ?_
   refine AW.quiet mix (by kernel_rfl) ?_
   refine zQ (zC rfl rfl) ?_
   refine zQ (zC rfl rfl) ?_
   refine zQ (zW i rfl (.inl rfl) rfl Tryz.underlying42 rfl (get_of hci) (by exact yH) (bl rfl)) ?_
   refine zQ (yM rfl rfl fl33_5 (by exact sz3) (by decide) (bl rfl) rfl) ?_
   refine aqR (yA rfl rfl ag3) ?_
   refine zQ (op_neq rfl rfl rfl) ?_
   refine zQ (zC rfl rfl) ?_
   refine' yK [_, _, _, _, _, _, _, _, _, _, _] [54,55,56,57,58,59,60,61,62,63,64] rfl rfl rfl rfl rfl rfl rfl rfl rfl rfl rfl rfl (fun hb => ?_) ?_; rotate_left
   ·
    (try simp only [z7] at hb)
    refine zQ (zC rfl rfl) ?_
    refine zQ (zC rfl rfl) ?_
    refine zQ (zW j rfl (.inl rfl) rfl Tryz.underlying42 rfl (get_of hdj) (by exact yH) (bl rfl)) ?_
    refine zQ (yM rfl rfl fl33_5 (by exact sz3) (by decide) (bl rfl) rfl) ?_
    refine aqR (yA rfl rfl ag3) ?_
    refine zQ (zC rfl rfl) ?_
    refine zQ (zC rfl rfl) ?_
    refine zQ (zW i rfl (.inl rfl) rfl Tryz.underlying42 rfl (get_of hci) (by exact yH) (bl rfl)) ?_
    refine zQ (yM rfl rfl fl33_5 (by exact sz3) (by decide) (bl rfl) rfl) ?_
    refine aqR (yA rfl rfl ag3) ?_
    refine zQ (op_eql rfl rfl rfl) ?_
    (refine yL rfl rfl rfl ?_; repeat (first | exact fun _ _ => rfl | refine zU rfl ?_))
   simp only [nA, ↓reduceIte]
   refine zQ (zC rfl rfl) ?_
   refine' yK [_, _, _, _, _, _, _, _, _, _, _] [67,68,69,70,71,72,73,74,75,76,77] rfl rfl rfl rfl rfl rfl rfl rfl rfl rfl rfl rfl (fun hb => ?_) ?_; rotate_left
   ·
    (try simp only [z7] at hb)
    refine zQ (zC rfl rfl) ?_
    refine zQ (zC rfl rfl) ?_
    refine zQ (zW j rfl (.inl rfl) rfl Tryz.underlying42 rfl (get_of hdj) (by exact yH) (bl rfl)) ?_
    refine zQ (yM rfl rfl fl33_1 (by exact sz25) (by decide) (bl rfl) rfl) ?_
    refine aqR (zY rfl rfl ag25 sz25 (bl rfl) (by decide) rfl) ?_
    refine zQ (zC rfl rfl) ?_
    refine zQ (zC rfl rfl) ?_
    refine zQ (zW i rfl (.inl rfl) rfl Tryz.underlying42 rfl (get_of hci) (by exact yH) (bl rfl)) ?_
    refine zQ (yM rfl rfl fl33_1 (by exact sz25) (by decide) (bl rfl) rfl) ?_
    refine aqR (zY rfl rfl ag25 sz25 (bl rfl) (by decide) rfl) ?_
    refine zQ (op_eq25 rfl rfl rfl) ?_; simp only [nA, Nat.reduceEqDiff, ↓reduceIte]
    (refine yL rfl rfl rfl ?_; repeat (first | exact fun _ _ => rfl | refine zU rfl ?_))
   simp only [nA]
   refine yN (hK _ ?_); clear hK K
   refine zL rfl rfl rfl (fun hc => ?_) (fun hc => ?_)
   ·
    (try simp only [z7] at hc); have hc6 := hc
    refine zA fun K hK => zB ?_
    refine zF (zD rfl rfl) ?_
    refine zE (hK _ ?_); clear hK K; try simp only [nA, Nat.reduceBEq, Nat.reduceEqDiff, ↓reduceIte, Nat.reduceAdd, Nat.reduceSub]
    skip
    refine zO ?_; (try simp only [zI, zJ, Nat.reduceEqDiff, ↓reduceIte]); rw [if_pos ⟨hc6.1.1, (hS.2.1 _).2 ⟨d, by rw [← hde]; exact mem_takeI hjl hji, by rw [hc6.1.2]; exact hc6.1.1, spot_iff.2 ⟨flEq_iff.1 hc6.2, hc6.1.2⟩⟩⟩] at hR; rw [hL, hR]; exact zS rfl (.tmp (bl rfl) rfl rfl .nil)
   (try simp only [z7] at hc); have hc6 := hc
   refine zM ?_
   (try simp only [zI, zJ, Nat.reduceEqDiff, ↓reduceIte])
   refine hK _ ?_; clear hK K
   refine zB ?_
   refine zF (zC rfl rfl) ?_
   refine zF (zR rfl rfl rfl (by omega)) ?_
   refine zF (zD rfl rfl) ?_
   skip
   refine zE ?_
   refine ⟨j + 1, ⟨by omega, fun k h hk => by rcases Nat.lt_or_ge k j with h' | h'; exact hJ.2 k h h'; (obtain rfl : k = j := by omega); rintro ⟨h0, h1⟩; rw [hde, spot_iff] at h1; exact absurd (flEq_iff.2 h1.1) (by simpa [h0, h1.2] using hc6)⟩, by omega, ⟨rfl, rfl, rfl, trivial⟩, (by rfl), (by rfl)⟩
  (try simp only [z7] at hc); have hc5 := hc; obtain rfl : i = j := (by omega); rw [if_neg (show ¬ (c.position ≠ 0 ∧ spotOf c ∈ sp.map spotOf) from fun ⟨h0, h1⟩ => by obtain ⟨d, hd, h3, h4⟩ := (hS.2.1 _).1 h1; obtain ⟨k, hk, rfl⟩ := List.getElem_of_mem hd; rw [List.getElem_take] at h4; exact hJ.2 k (by simp at hk; omega) (by simp at hk; omega) ⟨h0, h4⟩)] at hR
  refine yE ?_; try simp only [zI, zJ, Nat.reduceEqDiff, ↓reduceIte]
  clear hK K
  refine hK _ ?_; clear hK K
  refine zA fun K hK => zB ?_
  refine zF (zD rfl rfl) ?_
  refine zE (hK _ ?_); clear hK K; try simp only [nA, Nat.reduceBEq, Nat.reduceEqDiff, ↓reduceIte, Nat.reduceAdd, Nat.reduceSub]
  refine zN ?_
  refine yC (fun (j : Nat) => [(0, .ro (xs.map Container.av)), (3, .v (.int .i64 (i : Nat))), (6, .v (.int .i64 (j : Nat)))]) (fun _ => ⟨[], 1⟩) (fun j => j ≤ c.pieces.length ∧ ∀ k (h : k < c.pieces.length), k < j → c.pieces[k].plate ∉ pl) (fun j => c.pieces.length - j) 0 ⟨by simp, by simp⟩ ⟨rfl, rfl, rfl, trivial⟩ rfl ?_; intro j ρ hJ; simp only [updL]
  refine zA fun K hK => ?_
  refine zA fun K hK => zB ?_
  refine zF (zC rfl rfl) ?_
  refine zF (zC rfl rfl) ?_
  refine zF (zC rfl rfl) ?_
  refine zF (zW i rfl (.inl rfl) rfl Tryz.underlying42 rfl (get_of hci) (by exact yH) (bl rfl)) ?_
  refine zF (yM rfl rfl fl33_7 (by exact sz31) (by decide) (bl rfl) rfl) ?_
  refine awR (yA rfl rfl ag31) ?_
  refine zF (zX rfl rfl Tryz.underlying31 (by exact .inr (.inl ⟨_, rfl, rfl⟩))) ?_
  refine zF (yP rfl rfl rfl) ?_
  refine zE (hK _ ?_); clear hK K; simp only [nA, ↓reduceIte]
  refine zL rfl rfl rfl (fun hc => ?_) (fun hc => ?_)
  ·
   (try simp only [z7] at hc); have hc7 := hc; have hjl : j < c.pieces.length := (by simpa using hc7); obtain ⟨p, hpj⟩ : ∃ p, c.pieces[j]? = some p := ⟨c.pieces[j], List.getElem?_eq_getElem hjl⟩; have hpe := (List.getElem?_eq_some_iff.1 hpj).2
   refine zM ?_
   refine hK _ ?_; clear hK K
   refine zA fun K hK => zN ?_
   refine zA fun K hK => ?_
   refine AW.ad [] mix rfl ?_
   refine adP 0 rfl (fun T' ok => zC rfl rfl) (by exact trivial) (by kernel_rfl) (by kernel_rfl) ?_
   refine adP 1 rfl (fun T' ok => zC rfl rfl) (by exact trivial) (by kernel_rfl) (by kernel_rfl) ?_
   refine adP 2 rfl (fun T' ok => op_slice_ro 0 i rfl (.inl rfl) (by exact rfl) (by exact ⟨_, rfl⟩) (Nat.zero_le _) (by simp; omega) Tryz.underlying42 yH (cav_len xs) (es' := (xs.take i).map Container.av) (by simp [List.map_take])) (by exact trivial) (by kernel_rfl) (by kernel_rfl) ?_; simp only [nA, Nat.reduceBEq, Nat.reduceEqDiff, ↓reduceIte]
   refine adP 3 rfl (fun T' ok => zC rfl rfl) (by exact trivial) (by kernel_rfl) (by kernel_rfl) ?_
   refine adP 4 rfl (fun T' ok => zC rfl rfl) (by exact trivial) (by kernel_rfl) (by kernel_rfl) ?_
   (refine adP 5 rfl (fun T' ok => zW i rfl (.inl rfl) rfl Tryz.underlying42 rfl (get_of hci) (by exact yH) (bl rfl)) (by exact trivial) (by kernel_rfl) (by kernel_rfl) ?_)
   (refine adP 6 rfl (fun T' ok => yM rfl rfl fl33_7 (by exact sz31) (by decide) (bl rfl) rfl) (by exact trivial) (by kernel_rfl) (by kernel_rfl) ?_)
   (refine adR 7 rfl (fun T' ok => yA rfl rfl ag31) (by exact trivial) (by kernel_rfl) (by kernel_rfl) ?_)
   refine adP 8 rfl (fun T' ok => zC rfl rfl) (by exact trivial) (by kernel_rfl) (by kernel_rfl) ?_
   (refine adP 9 rfl (fun T' ok => zW j rfl (.inl rfl) rfl Tryz.underlying31 rfl (get_of hpj) (by exact yR) (bl rfl)) (by exact trivial) (by kernel_rfl) (by kernel_rfl) ?_)
   (refine adP 10 rfl (fun T' ok => yM rfl rfl fl35_0 (by exact sz23) (by decide) (bl rfl) rfl) (by exact trivial) (by kernel_rfl) (by kernel_rfl) ?_)
   (refine adR 11 rfl (fun T' ok => zY rfl rfl ag23 sz23 (bl rfl) (by decide) rfl) (by exact trivial) (by kernel_rfl) (by kernel_rfl) ?_)
   refine adF 12 rfl (fun T' ok => op_callS rfl en45 (C45 (xs := xs.take i) (p := p.plate) (by simp; omega) (fun d hd => hb d (List.mem_of_mem_take hd))) (RL.cons (by exact View.same rfl) (RL.cons (by exact View.same rfl) (RL.nil))) rfl rfl rfl) (by exact trivial) (by kernel_rfl) (by kernel_rfl) ?_; simp only [nA, ↓reduceIte]
   refine adP 13 rfl (fun T' ok => zC rfl rfl) (by exact trivial) (by kernel_rfl) (by kernel_rfl) ?_
   refine adP 14 rfl (fun T' ok => z6 rfl rfl rfl) (by exact trivial) (by kernel_rfl) (by kernel_rfl) ?_
   refine adP 15 rfl (fun T' ok => z6 rfl rfl rfl) (by exact trivial) (by kernel_rfl) (by kernel_rfl) ?_
   refine adP 16 rfl (fun T' ok => zD rfl rfl) (by exact trivial) (by kernel_rfl) (by kernel_rfl) ?_
   refine adP 17 rfl (fun T' ok => zD rfl rfl) (by exact trivial) (by kernel_rfl) (by kernel_rfl) ?_
   refine adDone (by kernel_rfl) ?_
   refine hK _ ?_; clear hK K; simp only [nA, ↓reduceIte]
   refine zA fun K hK => zB ?_
   refine zF (zC rfl rfl) ?_
   refine zE (hK _ ?_); clear hK K; simp only [nA]
   refine zL rfl rfl rfl (fun hc => ?_) (fun hc => ?_)
   ·
    (try simp only [z7] at hc); have hc8 := hc
    refine zA fun K hK => zB ?_
    refine zF (zD rfl rfl) ?_
    refine zE (hK _ ?_); clear hK K; try simp only [nA, Nat.reduceBEq, Nat.reduceEqDiff, ↓reduceIte, Nat.reduceAdd, Nat.reduceSub]
    skip
    refine zO ?_; (try simp only [zI, zJ, Nat.reduceEqDiff, ↓reduceIte]); rw [chkP_no c.pieces pl ⟨p, List.mem_of_getElem? hpj, (hS.2.2 _).2 (findL_snd.1 hc8)⟩] at hR; rw [hL, hR]; exact zS rfl (.tmp (bl rfl) rfl rfl .nil)
   (try simp only [z7] at hc); have hc8 := hc
   refine zM ?_
   (try simp only [zI, zJ, Nat.reduceEqDiff, ↓reduceIte])
   refine hK _ ?_; clear hK K
   refine zB ?_
   refine zF (zC rfl rfl) ?_
   refine zF (zR rfl rfl rfl (by omega)) ?_
   refine zF (zD rfl rfl) ?_
   skip
   refine zE ?_
   refine ⟨j + 1, ⟨by omega, fun k h hk => by rcases Nat.lt_or_ge k j with h' | h'; exact hJ.2 k h h'; (obtain rfl : k = j := by omega); rw [hpe]; intro hm; exact absurd (findL_snd.2 ((hS.2.2 _).1 hm)) (by simpa using hc8)⟩, by omega, ⟨rfl, rfl, rfl, trivial⟩, (by rfl), (by rfl)⟩
  (try simp only [z7] at hc); have hc7 := hc; obtain rfl : j = c.pieces.length := (by simp at hc7; omega); obtain ⟨pl', hp1, hp2⟩ := chkP_yes c.pieces pl (ascP_iff.2 hv.2.2.2) (fun x hx => by obtain ⟨k, hk, rfl⟩ := List.getElem_of_mem hx; exact hJ.2 k hk hk); rw [hp1] at hR; simp only at hR
  refine yE ?_; try simp only [zI, zJ, Nat.reduceEqDiff, ↓reduceIte]
  clear hK K
  (try simp only [zI, zJ, Nat.reduceEqDiff, ↓reduceIte])
  refine hK _ ?_; clear hK K
  refine zB ?_
  refine zF (zC rfl rfl) ?_
  refine zF (zR rfl rfl rfl (by omega)) ?_
  refine zF (zD rfl rfl) ?_
  skip
  refine zE ?_
  refine ⟨i + 1, ⟨by omega, seen_next hS hci hR hp2⟩, by omega, ⟨rfl, rfl, trivial⟩, (by rfl), (by rfl)⟩
 (try simp only [z7] at hc); have hc2 := hc; obtain rfl : i = xs.length := (by simp at hc2; omega); have hR : (0 : Int) = chk none xs [] [] := (by rw [← hS.1, List.drop_length]; unfold chk; rfl)
 refine yE ?_; try simp only [zI, zJ, Nat.reduceEqDiff, ↓reduceIte]
 clear hK K
 refine hK _ ?_; clear hK K
 refine zA fun K hK => zB ?_
 refine zF (zD rfl rfl) ?_
 refine zE (hK _ ?_); clear hK K; try simp only [nA, Nat.reduceBEq, Nat.reduceEqDiff, ↓reduceIte, Nat.reduceAdd, Nat.reduceSub]
 skip
 refine zO ?_; (try simp only [zI, zJ, Nat.reduceEqDiff, ↓reduceIte]); rw [hL, ← hR]; exact zS rfl (.tmp (bl rfl) rfl rfl .nil)
set_option maxRecDepth 100000
theorem two_out {T : Sl} {x y : AV} (h0 : T.slots[0]? = some (0, x)) (h1 : T.slots[1]? = some (0, y)) : ∀ (r : Nat) (z : AV), [x, y][r]? = some z → T.slots[r]? = some (0, z) := fun r z hz => by
 rcases r with _ | _ | r
 · simp at hz; subst hz; exact h0
 · simp at hz; subst hz; exact h1
 simp at hz
theorem C29b {l : List Int} {k : Nat} {xs : List Int} (hl : l.length ≤ 2000) (h1 : 1 ≤ xs.length) (h2 : xs.length ≤ 1000) : Fn Tryz.prog 29 [.own 67 [srcRow l k], .own 3 (xs.map iv)] [.ptr 0 0 0 0, .sl 1 0 0 xs.length] [.v (.int .i64 (yI l k xs))] [.own 67 [srcRow l (zP l k)], .own 3 (xs.map iv)] := by
 have hg := gmod_bd (x := rawV l k) (n := (xs.length : Nat)) (by omega)
 refine Spec.body Tryz.func29 rfl Tryz.ntmps29 (by simp) rfl ?_; intro S0 own0 v0 w0
 refine zA fun K hK => zB ?_
 refine zF (zD rfl rfl) ?_; simp only [nA, Nat.reduceBEq, Nat.reduceEqDiff, ↓reduceIte]
 refine zE (hK _ ?_); clear hK K; simp only [nA, Nat.reduceBEq, Nat.reduceEqDiff, ↓reduceIte]
 refine zA fun K hK => zB ?_
 refine zF (zC rfl rfl) ?_; simp only [nA, ↓reduceIte]
 refine zF (zC rfl rfl) ?_; simp only [nA, ↓reduceIte]
 refine zF (zC rfl rfl) ?_; simp only [nA, ↓reduceIte]
 (refine zF (op_len_sl rfl rfl rfl Tryz.underlying36) ?_); try simp only [nA, Nat.reduceBEq, Nat.reduceEqDiff, ↓reduceIte, Nat.reduceAdd, Nat.reduceSub]
 refine yD (yQ rfl en18 (C18 hl (n := (xs.length : Nat)) (by omega)) (by exact rfl) (RL.cons .ptr (RL.cons (.base (by exact View.same rfl)) (RL.nil))) (by exact ⟨_, _, _, rfl, rfl, rfl⟩) (by exact rfl) (by exact rfl) (by exact rfl)) ?_; try simp only [nA, Nat.reduceBEq, Nat.reduceEqDiff, ↓reduceIte, Nat.reduceAdd, Nat.reduceSub]
 (refine zF (op_ia_sl (gmod (rawV l k) (xs.length : Nat)).toNat 1 rfl rfl rfl rfl Tryz.underlying36 (by omega) (by omega) (by exact sz3) rfl) ?_); try simp only [nA, Nat.reduceBEq, Nat.reduceEqDiff, ↓reduceIte, Nat.reduceAdd, Nat.reduceSub]
 refine awR (zG rfl rfl rfl (yF (f := iv) (xs := xs) (m := (gmod (rawV l k) (xs.length : Nat)).toNat) (by omega)) ag3 rfl rfl) ?_; try simp only [nA, Nat.reduceBEq, Nat.reduceEqDiff, ↓reduceIte, Nat.reduceAdd, Nat.reduceSub]
 refine zF (zD rfl rfl) ?_; simp only [nA]
 refine zE (hK _ ?_); clear hK K
 skip
 refine zO ?_; (try simp only [zI, zJ, Nat.reduceEqDiff, ↓reduceIte]); exact RQ.of (.inl rfl) rfl (.tmp (bl rfl) rfl rfl .nil) (by simp) rfl (two_out rfl rfl)
abbrev nuv (c : Container) (u : Value) : List AV := [.v (.int .i64 c.number), .v (.string c.flight.carrier), .v (.int .i64 c.flight.number), .v (.string c.flight.suffix), .v (.int .i64 c.flight.day), .v (.int .i64 c.categories), .v (.int .i64 c.limit), .v (.int .i64 c.most), .v (.int .i64 c.position), .v (.int .i64 c.arm), .v u]
theorem nest_row {xs : List Container} {i : Nat} {c : Container} {u : Value} (h : xs[i]? = some c) : ((xs.take i).map oav ++ [nuv c u])[i]? = some (nuv c u) := by
 have hi := (List.getElem?_eq_some_iff.1 h).1
 rw [List.getElem?_append_right (by simp; omega)]
 have : i - ((xs.take i).map oav).length = 0 := by simp; omega
 rw [this]; rfl
theorem nest_eq {xs : List Container} {i : Nat} {c : Container} {u : Value} (h : xs[i]? = some c) : ((xs.take i).map oav ++ [nuv c u]).set i ((nuv c u).set 10 (.own 35 (c.pieces.map Piece.av))) = (xs.take (i + 1)).map oav := by
 have hi := (List.getElem?_eq_some_iff.1 h).1
 rw [List.set_append_right _ _ (by simp; omega)]
 have : i - ((xs.take i).map oav).length = 0 := by simp; omega
 rw [this, List.take_add_one, h, List.map_append]
 rfl
theorem oav_set {xs : List Container} {i : Nat} {R : List AV} {c' : Container} (h : R = oav c') : (xs.map oav).set i R = (xs.set i c').map oav := by rw [h, List.map_set]
theorem cavf (l : List Container) : ∀ r ∈ l.map Container.av, ∀ c ∈ r, flatA c = true := fun r hr c hc => by
 obtain ⟨x, _, rfl⟩ := List.mem_map.1 hr
 simp only [Container.av, List.mem_cons, List.not_mem_nil, or_false] at hc
 rcases hc with rfl | rfl | rfl | rfl | rfl | rfl | rfl | rfl | rfl | rfl | rfl <;> rfl
def spF (l : List Int) (sel : Int) (k : Nat) (c : Container) : Nat × Container :=
 if sel = 0 then (zP l k, { c with number := yI l k [0, 1, 999, 1000] }) else if sel = 1 then (zP l k, { c with categories := yI l k [-1, 31, 32] })
 else if sel = 2 then (zP l k, { c with limit := yI l k [-1, 0, 20000, 20001] }) else if sel = 3 then (zP l k, { c with position := yI l k [-1, 1, 24, 25] })
 else if sel = 4 then (zP l k, { c with arm := yI l k [-51, -50, 50, 51] }) else if sel = 5 then (nx3 l k, addP c (pieceV l k 9))
 else if sel = 6 then (nx2 l k, addP c ⟨yT 999, yI l k [0, 1, 999, 1000], yI l (zP l k) [-1, 4, 5]⟩) else if sel = 7 then (zP l k, { c with most := yI l k [-1, 0, 60, 61] })
 else (k, { c with flight := { c.flight with day := -1 } })
def spoilV (l : List Int) (k : Nat) (xs : List Container) : Nat × List Container :=
 if xs.length = 0 then (k, [zeroC]) else
   ((spF l (gmod (rawV l (zP l k)) 9) (nx2 l k) (xs.getD (yG l k xs.length) default)).1, xs.set (yG l k xs.length) (spF l (gmod (rawV l (zP l k)) 9) (nx2 l k) (xs.getD (yG l k xs.length) default)).2)
theorem spF_len (l : List Int) (sel : Int) (k : Nat) (c : Container) : (spF l sel k c).2.pieces.length ≤ c.pieces.length + 1 := by
 unfold spF
 repeat' split
 all_goals first | (exact Nat.le_succ _) | (show (c.pieces ++ [_]).length ≤ _; simp)
theorem spoil_len (l : List Int) (k : Nat) {xs : List Container} {b : Nat} (hb : ∀ c ∈ xs, c.pieces.length ≤ b) : 1 ≤ (spoilV l k xs).2.length ∧ (spoilV l k xs).2.length ≤ xs.length + 1 ∧ ∀ c ∈ (spoilV l k xs).2, c.pieces.length ≤ b + 1 := by
 unfold spoilV
 split
 · refine ⟨by simp, by simp, fun c hc => ?_⟩
   obtain rfl : c = zeroC := by simpa using hc
   exact Nat.zero_le _
 rename_i h
 refine ⟨by simp; omega, by simp, fun c hc => ?_⟩
 rcases List.mem_or_eq_of_mem_set hc with hc | rfl
 · have := hb c hc; omega
 have h1 := spF_len l (gmod (rawV l (zP l k)) 9) (nx2 l k) (xs.getD (yG l k xs.length) default)
 have hi := idxV_lt l k (n := xs.length) (by omega)
 have e : xs.getD (yG l k xs.length) default = xs[yG l k xs.length] := by rw [List.getD_eq_getElem?_getD, List.getElem?_eq_getElem hi]; rfl
 have h2 := hb _ (List.getElem_mem hi)
 rw [e] at h1 ⊢
 omega
set_option maxRecDepth 100000
def mom (l : List Container) (f : Flight) : Int := (l.map fun c => if flEq c.flight f then weightC c * c.arm else 0).sum
def momV (l : List Container) (f : Flight) : Int := if chkL l ≠ 0 then 0 else mom l f
def absI (n : Int) : Int := max n (-n)
def admB (c : Container) (p : Piece) : Bool := decide ((putC c p true).2 = 0)
/-- The place among the first i containers at which the moment is least. -/
def bestI (l : List Container) (f : Flight) (p : Piece) : Nat → Option Nat
 | 0 => none
 | i + 1 => if flEq (l.getD i default).flight f && admB (l.getD i default) p then
     (match bestI l f p i with
       | none => some i
       | some j => if absI (mom l f + p.weight * (l.getD i default).arm) < absI (mom l f + p.weight * (l.getD j default).arm) then some i else some j)
   else bestI l f p i
def bestV (l : List Container) (f : Flight) (p : Piece) : Option Nat := bestI l f p l.length
def atI (o : Option Nat) : Int := match o with | none => -1 | some i => (i : Nat)
def anyF (l : List Container) (f : Flight) : Bool := l.any fun c => flEq c.flight f
def choV (l : List Container) (f : Flight) (p : Piece) : Int × Int :=
 if chkL l ≠ 0 then (0, chkL l) else if piB p = false then (0, 1) else if (findL l p.plate).2 = true then (0, 5)
 else if anyF l f = false then (0, 6) else match bestV l f p with | none => (0, 8) | some i => ((l.getD i default).number, 0)
theorem bestI_lt {l : List Container} {f : Flight} {p : Piece} : ∀ {i j : Nat}, bestI l f p i = some j → j < i
 | 0, j, h => by cases h
 | i + 1, j, h => by
   unfold bestI at h
   split at h
   · cases hb : bestI l f p i with
     | none => rw [hb] at h; injection h with h; omega
     | some k =>
       rw [hb] at h
       have := bestI_lt hb
       simp only at h
       split at h <;> injection h with h <;> omega
   have := bestI_lt h; omega
theorem bestI_some {l : List Container} {f : Flight} {p : Piece} : ∀ {i j : Nat}, bestI l f p i = some j → flEq (l.getD j default).flight f = true ∧ admB (l.getD j default) p = true
 | 0, j, h => by cases h
 | i + 1, j, h => by
   unfold bestI at h
   split at h
   · rename_i hc
     rw [Bool.and_eq_true] at hc
     cases hb : bestI l f p i with
     | none => rw [hb] at h; injection h with h; subst h; exact hc
     | some k =>
       rw [hb] at h
       simp only at h
       split at h <;> injection h with h <;> subst h
       · exact hc
       exact bestI_some hb
   exact bestI_some h
theorem bestI_none {l : List Container} {f : Flight} {p : Piece} : ∀ {i : Nat}, bestI l f p i = none → ∀ j, j < i → (flEq (l.getD j default).flight f && admB (l.getD j default) p) = false
 | 0, _, j, hj => by omega
 | i + 1, h, j, hj => by
   unfold bestI at h
   split at h
   · cases hb : bestI l f p i with
     | none => rw [hb] at h; cases h
     | some k =>
       rw [hb] at h
       simp only at h
       split at h <;> cases h
   rename_i hc
   rcases Nat.lt_or_ge j i with h' | h'
   · exact bestI_none h j h'
   obtain rfl : j = i := by omega
   simpa using hc
def yB (a b : Piece) : Bool := decide (a.weight > b.weight) || (decide (a.weight = b.weight) && decide (cmpP a.plate b.plate < 0))
/-- How many of the first k pieces lie ahead of p. -/
def kB (p : Piece) (out : List Piece) : Nat → Nat
 | 0 => 0
 | k + 1 => if yB p (out.getD k default) then kB p out k else k + 1
def insB (out : List Piece) (p : Piece) : List Piece := out.take (kB p out out.length) ++ p :: out.drop (kB p out out.length)
def ordV (l : List Piece) : List Piece := l.foldl insB []
theorem kB_le (p : Piece) (out : List Piece) : ∀ k, kB p out k ≤ k
 | 0 => Nat.le_refl _
 | k + 1 => by
   unfold kB
   split
   · have := kB_le p out k; omega
   exact Nat.le_refl _
theorem insB_perm (out : List Piece) (p : Piece) : (insB out p).Perm (p :: out) := by
 unfold insB
 refine List.perm_middle.trans ?_
 rw [List.take_append_drop]
theorem ordV_perm_aux : ∀ (l out : List Piece), (l.foldl insB out).Perm (l ++ out)
 | [], out => List.Perm.refl _
 | p :: l, out => by
   refine (ordV_perm_aux l (insB out p)).trans ?_
   exact (List.Perm.append_left l (insB_perm out p)).trans List.perm_middle
theorem ordV_perm (l : List Piece) : (ordV l).Perm l := by
 have := ordV_perm_aux l []
 rwa [List.append_nil] at this
theorem perm_sorted {α : Type} {R : α → α → Prop} (hR : ∀ a b, R a b → ¬ R b a) : ∀ {l1 l2 : List α}, l1.Perm l2 → l1.Pairwise R → l2.Pairwise R → l1 = l2
 | [], l2, h, _, _ => by rw [List.nil_perm.1 h]
 | a :: l1, [], h, _, _ => absurd h.symm (by simp)
 | a :: l1, b :: l2, h, h1, h2 => by
   have ha : a ∈ b :: l2 := h.subset (by simp)
   have hb : b ∈ a :: l1 := h.symm.subset (by simp)
   rw [List.pairwise_cons] at h1 h2
   rcases List.mem_cons.1 ha with rfl | ha
   · rw [perm_sorted hR (h.cons_inv) h1.2 h2.2]
   rcases List.mem_cons.1 hb with rfl | hb
   · rw [perm_sorted hR (h.cons_inv) h1.2 h2.2]
   exact absurd (h1.1 b hb) (hR _ _ (h2.1 a ha))
set_option maxRecDepth 100000
def Bef (a b : Piece) : Prop := a.weight > b.weight ∨ (a.weight = b.weight ∧ PLt a.plate b.plate)
theorem bef_iff {a b : Piece} : yB a b = true ↔ Bef a b := by
 unfold yB Bef
 simp only [Bool.or_eq_true, Bool.and_eq_true, decide_eq_true_eq, cmpP_lt]
theorem Bef.trans {a b c : Piece} (h : Bef a b) (h' : Bef b c) : Bef a c := by
 unfold Bef at *
 rcases h with h | ⟨h, hp⟩ <;> rcases h' with h' | ⟨h', hp'⟩
 · left; omega
 · left; omega
 · left; omega
 right; exact ⟨by omega, hp.trans hp'⟩
theorem Bef.asymm (a b : Piece) (h : Bef a b) : ¬ Bef b a := fun h' => by
 have := h.trans h'
 unfold Bef at this
 rcases this with h | ⟨_, h⟩
 · omega
 exact PLt.irrefl _ h
theorem Bef.total {a b : Piece} (h : a.plate ≠ b.plate) (hn : ¬ Bef a b) : Bef b a := by
 unfold Bef at *
 rcases Int.lt_trichotomy a.weight b.weight with hw | hw | hw
 · left; exact hw
 · right
   refine ⟨hw.symm, ?_⟩
   rcases cmpP_cases a.plate b.plate with ⟨hp, _⟩ | ⟨hp, _⟩ | ⟨hp, _⟩
   · exact absurd (.inr ⟨hw, hp⟩) hn
   · exact absurd hp h
   exact hp
 exact absurd (.inl hw) hn
theorem kB_hi {p : Piece} {out : List Piece} : ∀ {k j : Nat}, kB p out k ≤ j → j < k → yB p (out.getD j default) = true
 | 0, j, _, h => by omega
 | k + 1, j, h1, h2 => by
   unfold kB at h1
   split at h1
   · rename_i hb
     rcases Nat.lt_or_ge j k with h | h
     · exact kB_hi h1 h
     obtain rfl : j = k := by omega
     exact hb
   omega
theorem kB_lo {p : Piece} {out : List Piece} : ∀ {k : Nat}, 0 < kB p out k → yB p (out.getD (kB p out k - 1) default) = false
 | 0, h => by unfold kB at h; omega
 | k + 1, h => by
   unfold kB at h ⊢
   by_cases hb : yB p (out.getD k default) = true
   · rw [if_pos hb] at h ⊢
     exact kB_lo h
   rw [if_neg hb]
   simpa using hb
/-- Different plates. -/
def DisP (l : List Piece) : Prop := l.Pairwise fun a b => a.plate ≠ b.plate
theorem getD_el {l : List Piece} {i : Nat} (h : i < l.length) : l.getD i default = l[i] := by
 rw [List.getD_eq_getElem?_getD, List.getElem?_eq_getElem h]; rfl
theorem insB_sorted {out : List Piece} {p : Piece} (h : out.Pairwise Bef) (hd : ∀ x ∈ out, x.plate ≠ p.plate) : (insB out p).Pairwise Bef := by
 have hk := kB_le p out out.length
 have hlo : ∀ j (hj : j < out.length), j < kB p out out.length → Bef out[j] p := fun j hj hjk => by
   have hl := kB_lo (p := p) (out := out) (k := out.length) (by omega)
   rw [getD_el (by omega)] at hl
   have hlast : Bef out[kB p out out.length - 1] p := Bef.total (fun e => hd _ (List.getElem_mem _) e.symm) (fun hb => by rw [bef_iff.2 hb] at hl; cases hl)
   rcases Nat.lt_or_ge j (kB p out out.length - 1) with h1 | h1
   · exact (List.pairwise_iff_getElem.1 h j _ hj (by omega) h1).trans hlast
   have e : j = kB p out out.length - 1 := by omega
   subst e
   exact hlast
 have hhi : ∀ j (hj : j < out.length), kB p out out.length ≤ j → Bef p out[j] := fun j hj hjk => by
   have := kB_hi hjk hj
   rw [getD_el hj] at this
   exact bef_iff.1 this
 unfold insB
 have h0 := h
 rw [← List.take_append_drop (kB p out out.length) out, List.pairwise_append] at h0
 rw [List.pairwise_append]
 refine ⟨h0.1, List.pairwise_cons.2 ⟨fun b hb => ?_, h0.2.1⟩, fun a ha b hb => ?_⟩
 · obtain ⟨i, hi, rfl⟩ := List.getElem_of_mem hb
   rw [List.getElem_drop]
   exact hhi _ _ (by omega)
 rcases List.mem_cons.1 hb with rfl | hb
 · obtain ⟨i, hi, rfl⟩ := List.getElem_of_mem ha
   rw [List.getElem_take]
   rw [List.length_take] at hi
   exact hlo _ _ (by omega)
 exact h0.2.2 a ha b hb
theorem ordV_sorted_aux : ∀ (l out : List Piece), out.Pairwise Bef → DisP (l ++ out) → (l.foldl insB out).Pairwise Bef
 | [], out, h, _ => h
 | p :: l, out, h, hd => by
   have hd' : DisP (p :: (l ++ out)) := hd
   unfold DisP at hd'
   rw [List.pairwise_cons] at hd'
   refine ordV_sorted_aux l (insB out p) (insB_sorted h fun x hx => (hd'.1 x (by simp [hx])).symm) ?_
   unfold DisP
   refine List.Pairwise.perm hd (((List.Perm.append_left l (insB_perm out p)).trans List.perm_middle).symm) (fun h e => h e.symm)
theorem ordV_sorted {l : List Piece} (h : DisP l) : (ordV l).Pairwise Bef := ordV_sorted_aux l [] List.Pairwise.nil (by rwa [List.append_nil])
/-- There is one order. -/
theorem ord_unique {l d : List Piece} (h : DisP l) (hp : d.Perm l) (hs : d.Pairwise Bef) : d = ordV l := perm_sorted Bef.asymm (hp.trans (ordV_perm l).symm) hs (ordV_sorted h)
set_option maxRecDepth 100000
def stepA (f : Flight) (s : List Container × List Piece) (b : Piece) : List Container × List Piece :=
 match bestV s.1 f b with | none => (s.1, s.2 ++ [b]) | some i => (s.1.set i (putC (s.1.getD i default) b true).1, s.2)
def asgF (f : Flight) (s : List Container × List Piece) (bags : List Piece) : List Container × List Piece := bags.foldl (stepA f) s
def errB (l : List Container) (bags : List Piece) (i : Nat) : Int :=
 if piB (bags.getD i default) = false then 1 else if ((findL l (bags.getD i default).plate).2 || (bags.take i).any fun x => decide (x.plate = (bags.getD i default).plate)) = true then 5 else 0
def asgE (l : List Container) (bags : List Piece) : Int := orL ((List.range bags.length).map (errB l bags))
def asgV (l : List Container) (f : Flight) (bags : List Piece) : List Container × List Piece × Int :=
 if chkL l ≠ 0 then ([], [], chkL l) else if asgE l bags ≠ 0 then ([], [], asgE l bags) else ((asgF f (l, []) (ordV bags)).1, (asgF f (l, []) (ordV bags)).2, 0)
/-- What every list of containers keeps that bags are put into. -/
structure InvO (l : List Container) : Prop where
 len : l.length ≤ 24
 val : ∀ c ∈ l, valC c = 0
theorem chk_vals : ∀ (cs : List Container) (o : Option Int) (sp : List Container) (pl : List Plate), chk o cs sp pl = 0 → ∀ c ∈ cs, valC c = 0
 | [], _, _, _, _, c, hc => by cases hc
 | d :: cs, o, sp, pl, h, c, hc => by
   unfold chk at h
   by_cases h1 : valC d ≠ 0
   · rw [if_pos h1] at h; exact absurd h h1
   rw [if_neg h1] at h
   rcases List.mem_cons.1 hc with rfl | hc
   · simpa using h1
   by_cases h2 : prevBad o d.number = true
   · rw [if_pos h2] at h; cases h
   rw [if_neg h2] at h
   by_cases h3 : d.position ≠ 0 ∧ spotOf d ∈ sp.map spotOf
   · rw [if_pos h3] at h; cases h
   rw [if_neg h3] at h
   cases hp : chkP d.pieces pl with
   | none => rw [hp] at h; cases h
   | some pl' =>
     rw [hp] at h
     exact chk_vals cs _ _ _ h c hc
theorem InvO.of {l : List Container} (h : chkL l = 0) : InvO l := by
 unfold chkL at h
 by_cases hl : (l.length : Int) > 24
 · rw [if_pos hl] at h; cases h
 rw [if_neg hl] at h
 exact ⟨by omega, chk_vals l _ _ _ h⟩
/-- What an admitted piece says. -/
structure Adm (c : Container) (p : Piece) : Prop where
 val : valC c = 0
 pi : piB p = true
 has : hasB c.pieces p.plate = false
 bit : bitB c.categories p.category = true
 full : fullB c p = false
 len : c.pieces.length < 60
theorem adm_iff {c : Container} {p : Piece} : admB c p = true ↔ Adm c p := by
 unfold admB
 rw [decide_eq_true_eq]
 by_cases hv : valC c = 0
 · by_cases hp : piB p = true
   · rw [put_eq hv hp, found_has (val_asc hv)]
     cases hb : hasB c.pieces p.plate with
     | true => rw [if_pos rfl]; exact ⟨fun h => (by cases h), fun h => by have := h.has; rw [hb] at this; cases this⟩
     | false =>
       rw [if_neg (by decide)]
       cases hbit : bitB c.categories p.category with
       | false => rw [if_pos (by decide)]; exact ⟨fun h => (by cases h), fun h => by have := h.bit; rw [hbit] at this; cases this⟩
       | true =>
         rw [if_neg (by decide)]
         cases hf : fullB c p with
         | true => rw [if_pos (by decide)]; exact ⟨fun h => (by cases h), fun h => by have := h.full; rw [hf] at this; cases this⟩
         | false =>
           rw [if_neg (by decide)]
           by_cases hl : (c.pieces.length : Int) ≥ 60
           · rw [if_pos hl]; exact ⟨fun h => (by cases h), fun h => by have := h.len; omega⟩
           rw [if_neg hl]; exact ⟨fun _ => ⟨hv, hp, hb, hbit, hf, by omega⟩, fun _ => rfl⟩
   unfold putC
   rw [if_neg (by simpa using hv), if_pos (by simpa using hp)]
   exact ⟨fun h => (by cases h), fun h => absurd h.pi hp⟩
 unfold putC
 rw [if_pos hv]
 exact ⟨fun h => absurd h hv, fun h => absurd h.val hv⟩
theorem Adm.put {c : Container} {p : Piece} (h : Adm c p) : putC c p true = (insC c p, 0) := by
 have hl := h.len
 rw [put_eq h.val h.pi, found_has (val_asc h.val), h.has, h.bit, h.full, if_neg (by decide), if_neg (by decide), if_neg (by decide), if_neg (by omega)]
theorem Adm.ins {c : Container} {p : Piece} (h : Adm c p) : valC (insC c p) = 0 := ins_val h.val h.pi h.has h.len
theorem bestV_some {l : List Container} {f : Flight} {p : Piece} {i : Nat} (h : bestV l f p = some i) : i < l.length ∧ flEq (l.getD i default).flight f = true ∧ Adm (l.getD i default) p :=
 ⟨bestI_lt h, (bestI_some h).1, adm_iff.1 (bestI_some h).2⟩
theorem stepA_none {f : Flight} {s : List Container × List Piece} {b : Piece} (h : bestV s.1 f b = none) : stepA f s b = (s.1, s.2 ++ [b]) := by unfold stepA; rw [h]
theorem stepA_some {f : Flight} {s : List Container × List Piece} {b : Piece} {i : Nat} (h : bestV s.1 f b = some i) : stepA f s b = (s.1.set i (insC (s.1.getD i default) b), s.2) := by
 unfold stepA
 rw [h]
 simp only
 rw [(bestV_some h).2.2.put]
theorem InvO.step {f : Flight} {s : List Container × List Piece} (h : InvO s.1) (b : Piece) : InvO (stepA f s b).1 := by
 cases hb : bestV s.1 f b with
 | none => rw [stepA_none hb]; exact h
 | some i =>
   rw [stepA_some hb]
   refine ⟨by rw [List.length_set]; exact h.len, fun c hc => ?_⟩
   rcases List.mem_or_eq_of_mem_set hc with hc | rfl
   · exact h.val c hc
   exact (bestV_some hb).2.2.ins
theorem InvO.fold {f : Flight} : ∀ (bags : List Piece) {s : List Container × List Piece}, InvO s.1 → InvO (asgF f s bags).1
 | [], _, h => h
 | b :: bags, _, h => InvO.fold bags (h.step b)
theorem asgF_take {f : Flight} {s : List Container × List Piece} {bags : List Piece} {i : Nat} (h : i < bags.length) : asgF f s (bags.take (i + 1)) = stepA f (asgF f s (bags.take i)) (bags.getD i default) := by
 unfold asgF
 rw [List.take_add_one, List.foldl_append, List.getElem?_eq_getElem h, getD_el h]
 rfl
theorem asgF_len {f : Flight} : ∀ (bags : List Piece) (s : List Container × List Piece), (asgF f s bags).1.length = s.1.length ∧ (asgF f s bags).2.length ≤ s.2.length + bags.length
 | [], s => ⟨rfl, Nat.le_refl _⟩
 | b :: bags, s => by
   obtain ⟨h1, h2⟩ := asgF_len bags (stepA f s b)
   show (asgF f (stepA f s b) bags).1.length = _ ∧ (asgF f (stepA f s b) bags).2.length ≤ _
   rw [h1]
   cases hb : bestV s.1 f b with
   | none => rw [stepA_none hb] at h2 ⊢; refine ⟨rfl, ?_⟩; simp only [List.length_append, List.length_cons, List.length_nil] at h2 ⊢; omega
   | some i => rw [stepA_some hb] at h2 ⊢; refine ⟨by simp, ?_⟩; simp only [List.length_cons] at h2 ⊢; omega
theorem orL_zero {l : List Int} (h : orL l = 0) : ∀ x ∈ l, x = 0 := by
 intro x hx
 refine Classical.byContradiction fun hne => ?_
 unfold orL at h
 cases hf : l.find? (fun x => decide (x ≠ 0)) with
 | none => exact hne (by simpa using List.find?_eq_none.1 hf x hx)
 | some y =>
   have := List.find?_some hf
   rw [hf] at h
   simp at this h
   exact this h
theorem asgE_all {l : List Container} {bags : List Piece} (h : asgE l bags = 0) : ∀ i, i < bags.length → errB l bags i = 0 := fun i hi =>
 orL_zero h _ (List.mem_map.2 ⟨i, List.mem_range.2 hi, rfl⟩)
theorem errB_0 {l : List Container} {bags : List Piece} {i : Nat} (h : errB l bags i = 0) : piB (bags.getD i default) = true ∧ (findL l (bags.getD i default).plate).2 = false ∧ ∀ x ∈ bags.take i, x.plate ≠ (bags.getD i default).plate := by
 unfold errB at h
 by_cases h1 : piB (bags.getD i default) = false
 · rw [if_pos h1] at h; cases h
 rw [if_neg h1] at h
 by_cases h2 : ((findL l (bags.getD i default).plate).2 || (bags.take i).any fun x => decide (x.plate = (bags.getD i default).plate)) = true
 · rw [if_pos h2] at h; cases h
 simp only [Bool.or_eq_true, not_or, List.any_eq_true, decide_eq_true_eq, not_exists, not_and, Bool.not_eq_true] at h2
 exact ⟨by simpa using h1, h2.1, h2.2⟩
theorem asgE_dis {l : List Container} {bags : List Piece} (h : asgE l bags = 0) : DisP bags := by
 unfold DisP
 rw [List.pairwise_iff_getElem]
 intro i j hi hj hij
 have := (errB_0 (asgE_all h j hj)).2.2 bags[i] (by rw [List.mem_take_iff_getElem]; exact ⟨i, by omega, rfl⟩)
 rwa [getD_el hj] at this
theorem asgE_pi {l : List Container} {bags : List Piece} (h : asgE l bags = 0) : ∀ b ∈ bags, piB b = true ∧ (findL l b.plate).2 = false := fun b hb => by
 obtain ⟨i, hi, rfl⟩ := List.getElem_of_mem hb
 have := errB_0 (asgE_all h i hi)
 rw [getD_el hi] at this
 exact ⟨this.1, this.2.1⟩
set_option maxRecDepth 100000
structure GoodC (ys : List Container) : Prop where
 val : ∀ c ∈ ys, valC c = 0
 asc : ys.Pairwise fun c d => c.number < d.number
 pos : ∀ (i : Nat) (h : i < ys.length), ys[i].position = 0 ∨ ys[i].position = i + 1
 disj : ys.Pairwise fun c d => ∀ x ∈ c.pieces, ∀ y ∈ d.pieces, x.plate ≠ y.plate
theorem InvB.good {i : Nat} {cs : List Container} (h : InvB i cs) : GoodC cs := ⟨fun c hc => h.val hc, h.asc, h.pos, h.disj⟩
theorem chkP_some : ∀ (l : List Piece) (pl : List Plate), AscP l → (∀ x ∈ l, x.plate ∉ pl) → ∃ pl', chkP l pl = some pl' ∧ ∀ q, q ∈ pl' → q ∈ pl ∨ ∃ x ∈ l, x.plate = q
 | [], pl, _, _ => ⟨pl, rfl, fun q h => .inl h⟩
 | p :: l, pl, ha, hn => by
   have h1 := List.pairwise_cons.1 ha
   rw [chkP_cons, if_neg (hn p (by simp))]
   obtain ⟨pl', h2, h3⟩ := chkP_some l (p.plate :: pl) h1.2 (fun x hx hm => by
     rcases List.mem_cons.1 hm with e | hm
     · have := h1.1 x hx; rw [e] at this; exact PLt.irrefl _ this
     exact hn x (by simp [hx]) hm)
   refine ⟨pl', h2, fun q hq => ?_⟩
   rcases h3 q hq with h | ⟨x, hx, e⟩
   · rcases List.mem_cons.1 h with rfl | h
     · exact .inr ⟨p, by simp, rfl⟩
     exact .inl h
   exact .inr ⟨x, by simp [hx], e⟩
theorem chk_zero : ∀ (cs : List Container) (o : Option Int) (sp : List Container) (pl : List Plate), (∀ c ∈ cs, valC c = 0) → (cs.Pairwise fun c d => c.number < d.number) → (∀ m, o = some m → ∀ c ∈ cs, m < c.number) →
   (cs.Pairwise fun c d => c.position ≠ 0 → c.position ≠ d.position) → (∀ s ∈ sp, ∀ c ∈ cs, s.position ≠ c.position) → (∀ c ∈ cs, ∀ x ∈ c.pieces, x.plate ∉ pl) → (cs.Pairwise fun c d => ∀ x ∈ c.pieces, ∀ y ∈ d.pieces, x.plate ≠ y.plate) → chk o cs sp pl = 0
 | [], _, _, _, _, _, _, _, _, _, _ => rfl
 | c :: cs, o, sp, pl, hv, ha, ho, hp, hs, hpl, hd => by
   have ha1 := List.pairwise_cons.1 ha
   have hp1 := List.pairwise_cons.1 hp
   have hd1 := List.pairwise_cons.1 hd
   obtain ⟨pl', h2, h3⟩ := chkP_some c.pieces pl (val_asc (hv c (by simp))) (hpl c (by simp))
   unfold chk
   rw [if_neg (by simp [hv c (by simp)]), if_neg (by
     cases o with
     | none => simp [prevBad]
     | some m => have := ho m rfl c (by simp); unfold prevBad; simp; omega), if_neg (by
     rintro ⟨_, hm⟩
     obtain ⟨s, h4, h5⟩ := List.mem_map.1 hm
     exact hs s h4 c (by simp) (congrArg Spot.position h5)), h2]
   simp only
   refine chk_zero cs _ _ pl' (fun d hd => hv d (by simp [hd])) ha1.2 (fun m hm d hd => by injection hm with hm; rw [← hm]; exact ha1.1 d hd) hp1.2 (fun s h4 d hdm => ?_) (fun d hdm x hx hm => ?_) hd1.2
   · by_cases h0 : c.position ≠ 0
     · rw [if_pos h0] at h4
       rcases List.mem_cons.1 h4 with e | h4
       · rw [e]; exact hp1.1 d hdm h0
       exact hs s h4 d (List.mem_cons_of_mem _ hdm)
     rw [if_neg h0] at h4
     exact hs s h4 d (List.mem_cons_of_mem _ hdm)
   rcases h3 _ hm with h | ⟨y, hy, e⟩
   · exact hpl d (List.mem_cons_of_mem _ hdm) x hx h
   exact hd1.1 d hdm y hy x hx e
theorem GoodC.chk {ys : List Container} (h : GoodC ys) (hl : ys.length ≤ 24) : chkL ys = 0 := by
 unfold chkL
 rw [if_neg (by omega)]
 refine chk_zero ys none [] [] h.val h.asc (by simp) (List.pairwise_iff_getElem.2 fun i j hi hj hij h0 => ?_) (by simp) (by simp) h.disj
 rcases h.pos i hi with h1 | h1 <;> rcases h.pos j hj with h2 | h2 <;> omega
theorem GoodC.set {ys : List Container} (h : GoodC ys) {q : Nat} (hq : q < ys.length) {d : Container} (hv : valC d = 0) (hn : d.number = ys[q].number) (hp : d.position = ys[q].position)
   (hd : ∀ (k : Nat) (hk : k < ys.length), k ≠ q → ∀ x ∈ d.pieces, ∀ y ∈ ys[k].pieces, x.plate ≠ y.plate) : GoodC (ys.set q d) := by
 have hnum : ∀ (j : Nat) (hj : j < (ys.set q d).length), (ys.set q d)[j].number = (ys[j]'(by simpa using hj)).number := fun j hj => by
   rw [List.getElem_set]
   split
   · rename_i e; subst e; exact hn
   rfl
 have hpos : ∀ (j : Nat) (hj : j < (ys.set q d).length), (ys.set q d)[j].position = (ys[j]'(by simpa using hj)).position := fun j hj => by
   rw [List.getElem_set]
   split
   · rename_i e; subst e; exact hp
   rfl
 refine ⟨fun c hc => ?_, ?_, fun j hj => ?_, ?_⟩
 · rcases List.mem_or_eq_of_mem_set hc with hc | rfl
   · exact h.val c hc
   exact hv
 · refine List.pairwise_iff_getElem.2 fun a b ha hb hab => ?_
   rw [hnum, hnum]
   exact List.pairwise_iff_getElem.1 h.asc a b (by simpa using ha) (by simpa using hb) hab
 · rw [hpos]; exact h.pos j (by simpa using hj)
 refine List.pairwise_iff_getElem.2 fun a b ha hb hab => ?_
 have ha' : a < ys.length := by simpa using ha
 have hb' : b < ys.length := by simpa using hb
 rw [List.getElem_set, List.getElem_set]
 split
 · rename_i e
   subst e
   rw [if_neg (by omega)]
   exact hd b hb' (by omega)
 split
 · rename_i e
   subst e
   intro x hx y hy e2
   exact hd a ha' (by omega) y hy x hx e2.symm
 exact List.pairwise_iff_getElem.1 h.disj a b ha' hb' hab
theorem GoodC.only {ys : List Container} (h : GoodC ys) {p : Plate} {q : Nat} (hq : q < ys.length) (hh : hasB ys[q].pieces p = true) {k : Nat} (hk : k < ys.length) (hne : k ≠ q) : hasB ys[k].pieces p = false := by
 obtain ⟨x, hx, rfl⟩ := hasB_iff.1 hh
 refine hasB_no.2 fun y hy e => ?_
 rcases Nat.lt_or_gt_of_ne hne with h' | h'
 · exact List.pairwise_iff_getElem.1 h.disj k q hk hq h' y hy x hx e
 exact List.pairwise_iff_getElem.1 h.disj q k hq hk h' x hx y hy e.symm
theorem GoodC.num {ys : List Container} (h : GoodC ys) {q k : Nat} (hq : q < ys.length) (hk : k < ys.length) (e : ys[k].number = ys[q].number) : k = q := by
 rcases Nat.lt_trichotomy k q with h' | h' | h'
 · have := List.pairwise_iff_getElem.1 h.asc k q hk hq h'; omega
 · exact h'
 have := List.pairwise_iff_getElem.1 h.asc q k hq hk h'; omega
def cntL (xs : List Container) (p : Plate) : Int := ((xs.countP fun c => hasB c.pieces p : Nat) : Int)
set_option maxRecDepth 100000
theorem mem_ins {c : Container} {p q : Piece} : q ∈ (insC c p).pieces ↔ q = p ∨ q ∈ c.pieces := by
 rw [ins_pieces, (insL_perm c.pieces p).mem_iff, List.mem_cons]
theorem len_ins (c : Container) (p : Piece) : (insC c p).pieces.length = c.pieces.length + 1 := by
 rw [ins_pieces, (insL_perm c.pieces p).length_eq]; rfl
theorem sum_ins (c : Container) (p : Piece) : sumW (insC c p).pieces = p.weight + sumW c.pieces := by
 rw [ins_pieces, sumW_perm (insL_perm c.pieces p)]
 unfold sumW
 simp
theorem set_get {α : Type} [Inhabited α] {l : List α} {i k : Nat} {x : α} (hi : i < l.length) : (l.set i x).getD k default = if i = k then x else l.getD k default := by
 rw [List.getD_eq_getElem?_getD, List.getD_eq_getElem?_getD, List.getElem?_set]
 by_cases h : i = k
 · subst h; rw [if_pos rfl, if_pos rfl, if_pos hi]; rfl
 rw [if_neg h, if_neg h]
theorem getD_c {l : List Container} {i : Nat} (h : i < l.length) : l.getD i default = l[i] := by
 rw [List.getD_eq_getElem?_getD, List.getElem?_eq_getElem h]; rfl
/-- The head of a container is as it was. -/
def HeadEq (c d : Container) : Prop := d.number = c.number ∧ d.flight = c.flight ∧ d.categories = c.categories ∧ d.limit = c.limit ∧ d.most = c.most ∧ d.position = c.position ∧ d.arm = c.arm
theorem HeadEq.ins {c d : Container} (h : HeadEq c d) (p : Piece) : HeadEq c (insC d p) := h
structure CI (x : List Container) (f : Flight) (B : List Piece) (s : List Container × List Piece) : Prop where
 good : GoodC s.1
 len : s.1.length = x.length
 head : ∀ i, i < x.length → HeadEq (x.getD i default) (s.1.getD i default)
 sub : ∀ i, i < x.length → ∀ q ∈ (x.getD i default).pieces, q ∈ (s.1.getD i default).pieces
 same : ∀ i, i < x.length → flEq (x.getD i default).flight f = false → s.1.getD i default = x.getD i default
 new : ∀ i, i < x.length → ∀ q ∈ (s.1.getD i default).pieces, q ∈ (x.getD i default).pieces ∨ q ∈ B
 cnt : (s.1.map fun c => c.pieces.length).sum + s.2.length = (x.map fun c => c.pieces.length).sum + B.length
 over : ∀ i, i < x.length → overC (x.getD i default) = false → overC (s.1.getD i default) = false
 left : ∀ q ∈ s.2, q ∈ B ∧ ∀ i, i < x.length → flEq (x.getD i default).flight f = true → admB (s.1.getD i default) q = false
 inl : ∀ q ∈ B, q ∈ s.2 ∨ ∃ i, i < x.length ∧ q ∈ (s.1.getD i default).pieces
 excl : ∀ q ∈ s.2, ∀ i, i < x.length → hasB (s.1.getD i default).pieces q.plate = false
theorem CI.start {x : List Container} {f : Flight} (h : GoodC x) : CI x f [] (x, []) :=
 ⟨h, rfl, fun _ _ => ⟨rfl, rfl, rfl, rfl, rfl, rfl, rfl⟩, fun _ _ _ h => h, fun _ _ _ => rfl, fun _ _ _ h => .inl h, rfl, fun _ _ h => h, fun q h => (by cases h), fun q h => (by cases h), fun q h => (by cases h)⟩
theorem sum_set {l : List Container} {i : Nat} {d : Container} (hi : i < l.length) (hd : d.pieces.length = (l.getD i default).pieces.length + 1) : ((l.set i d).map fun c => c.pieces.length).sum = (l.map fun c => c.pieces.length).sum + 1 := by
 induction l generalizing i with
 | nil => simp at hi
 | cons a l ih =>
   cases i with
   | zero =>
     simp only [List.set_cons_zero, List.map_cons, List.sum_cons]
     have : d.pieces.length = a.pieces.length + 1 := hd
     omega
   | succ i =>
     simp only [List.set_cons_succ, List.map_cons, List.sum_cons]
     have := ih (i := i) (by simpa using hi) hd
     omega
theorem Adm.less {c d : Container} {q : Piece} (h : Adm d q) (hv : valC c = 0) (hh : HeadEq c d) (hs : ∀ x ∈ c.pieces, x ∈ d.pieces) (hw : sumW c.pieces ≤ sumW d.pieces) (hl : c.pieces.length ≤ d.pieces.length) : Adm c q := by
 refine ⟨hv, h.pi, hasB_no.2 fun x hx => hasB_no.1 h.has x (hs x hx), by rw [← hh.2.2.1]; exact h.bit, ?_, by have := h.len; omega⟩
 have := h.full
 unfold fullB at this ⊢
 simp only [Bool.or_eq_false_iff, decide_eq_false_iff_not] at this ⊢
 obtain ⟨_, _, _, h4, h5, _⟩ := hh
 omega
theorem over_ins {c : Container} {p : Piece} (ha : Adm c p) (ho : overC c = false) : overC (insC c p) = false := by
 have h1 := (over_no ha.val).1 ho
 have hf := ha.full
 unfold fullB at hf
 simp only [Bool.or_eq_false_iff, decide_eq_false_iff_not] at hf
 refine (over_no ha.ins).2 ⟨fun x hx => ?_, ?_, ?_⟩
 · rcases mem_ins.1 hx with rfl | hx
   · exact ha.bit
   exact h1.1 x hx
 · rw [sum_ins]
   show _ ≤ c.limit
   omega
 rw [len_ins]
 show _ ≤ c.most
 omega
theorem CI.step {x : List Container} {f : Flight} {B : List Piece} {s : List Container × List Piece} (h : CI x f B s) {b : Piece} (hB : ∀ q ∈ B, q.plate ≠ b.plate) (hx : ∀ i, i < x.length → hasB (x.getD i default).pieces b.plate = false) :
   CI x f (B ++ [b]) (stepA f s b) := by
 have hnot : ∀ i, i < x.length → hasB (s.1.getD i default).pieces b.plate = false := fun i hi => hasB_no.2 fun q hq => by
   rcases h.new i hi q hq with h1 | h1
   · exact hasB_no.1 (hx i hi) q h1
   exact hB q h1
 cases hb : bestV s.1 f b with
 | none =>
   rw [stepA_none hb]
   refine ⟨h.good, h.len, h.head, h.sub, h.same, fun i hi q hq => (h.new i hi q hq).imp id fun h1 => by simp [h1], ?_, h.over, fun q hq => ?_, fun q hq => ?_, fun q hq i hi => ?_⟩
   · have := h.cnt
     simp only [List.length_append, List.length_cons, List.length_nil] at this ⊢
     omega
   · rcases List.mem_append.1 hq with h1 | h1
     · exact ⟨by simp [(h.left q h1).1], (h.left q h1).2⟩
     obtain rfl : q = b := by simpa using h1
     refine ⟨by simp, fun i hi hf => ?_⟩
     have := bestI_none (show bestI s.1 f q s.1.length = none from hb) i (by rw [h.len]; exact hi)
     rw [(h.head i hi).2.1, hf, Bool.true_and] at this
     exact this
   · rcases List.mem_append.1 hq with h1 | h1
     · exact (h.inl q h1).imp (fun h2 => by simp [h2]) id
     left; obtain rfl : q = b := by simpa using h1
     simp
   rcases List.mem_append.1 hq with h1 | h1
   · exact h.excl q h1 i hi
   obtain rfl : q = b := by simpa using h1
   exact hnot i hi
 | some k =>
   obtain ⟨hk, hfk, ha⟩ := bestV_some hb
   rw [stepA_some hb]
   have hkx : k < x.length := by rw [← h.len]; exact hk
   have hg : ∀ i, (s.1.set k (insC (s.1.getD k default) b)).getD i default = if k = i then insC (s.1.getD k default) b else s.1.getD i default := fun i => set_get hk
   refine ⟨?_, by rw [List.length_set]; exact h.len, fun i hi => ?_, fun i hi q hq => ?_, fun i hi hf => ?_, fun i hi q hq => ?_, ?_, fun i hi ho => ?_, fun q hq => ?_, fun q hq => ?_, fun q hq i hi => ?_⟩
   · refine h.good.set hk ha.ins (by rw [← getD_c hk]; rfl) (by rw [← getD_c hk]; rfl) fun j hj hjk y hy z hz => ?_
     rcases mem_ins.1 hy with rfl | hy
     · have := hasB_no.1 (hnot j (by rw [← h.len]; exact hj)) z (by rw [getD_c hj]; exact hz)
       exact fun e => this e.symm
     rw [getD_c hk] at hy
     rcases Nat.lt_or_gt_of_ne hjk with h1 | h1
     · exact fun e => List.pairwise_iff_getElem.1 h.good.disj j k hj hk h1 z hz y hy e.symm
     exact List.pairwise_iff_getElem.1 h.good.disj k j hk hj h1 y hy z hz
   · rw [hg]
     split
     · rename_i e; subst e; exact (h.head k hi).ins b
     exact h.head i hi
   · rw [hg]
     split
     · rename_i e; subst e; exact mem_ins.2 (.inr (h.sub k hi q hq))
     exact h.sub i hi q hq
   · rw [hg]
     split
     · rename_i e; subst e
       rw [(h.head k hi).2.1, hf] at hfk
       cases hfk
     exact h.same i hi hf
   · rw [hg] at hq
     split at hq
     · rename_i e; subst e
       rcases mem_ins.1 hq with rfl | hq
       · right; simp
       exact (h.new k hi q hq).imp id fun h1 => by simp [h1]
     exact (h.new i hi q hq).imp id fun h1 => by simp [h1]
   · have := h.cnt
     rw [sum_set hk (len_ins _ _)]
     simp only [List.length_append, List.length_cons, List.length_nil]
     omega
   · rw [hg]
     split
     · rename_i e; subst e; exact over_ins ha (h.over k hi ho)
     exact h.over i hi ho
   · refine ⟨by simp [(h.left q hq).1], fun i hi hf => ?_⟩
     rw [hg]
     split
     · rename_i e; subst e
       cases hab : admB (insC (s.1.getD k default) b) q with
       | false => rfl
       | true =>
         have := (adm_iff.1 hab).less ha.val ⟨rfl, rfl, rfl, rfl, rfl, rfl, rfl⟩ (fun x hx => mem_ins.2 (.inr hx)) (by rw [sum_ins]; have := (piB_inv ha.pi).2.1; omega) (by rw [len_ins]; omega)
         have h2 := (h.left q hq).2 k hi hf
         rw [adm_iff.2 this] at h2
         cases h2
     exact (h.left q hq).2 i hi hf
   · rcases List.mem_append.1 hq with h1 | h1
     · rcases h.inl q h1 with h2 | ⟨i, hi, h2⟩
       · exact .inl h2
       refine .inr ⟨i, hi, ?_⟩
       rw [hg]
       split
       · rename_i e; subst e; exact mem_ins.2 (.inr h2)
       exact h2
     obtain rfl : q = b := by simpa using h1
     exact .inr ⟨k, hkx, by rw [hg, if_pos rfl]; exact mem_ins.2 (.inl rfl)⟩
   rw [hg]
   split
   · rename_i e; subst e
     refine hasB_no.2 fun y hy => ?_
     rcases mem_ins.1 hy with rfl | hy
     · exact fun e => hB q (h.left q hq).1 e.symm
     exact hasB_no.1 (h.excl q hq k hi) y hy
   exact h.excl q hq i hi
theorem CI.fold {x : List Container} {f : Flight} : ∀ (bags : List Piece) {B : List Piece} {s : List Container × List Piece}, CI x f B s → (∀ b ∈ bags, ∀ i, i < x.length → hasB (x.getD i default).pieces b.plate = false) → DisP (B ++ bags) → CI x f (B ++ bags) (asgF f s bags)
 | [], B, s, h, _, _ => by rw [List.append_nil]; exact h
 | b :: bags, B, s, h, hx, hd => by
   unfold DisP at hd
   rw [List.pairwise_append] at hd
   have := CI.fold bags (h.step (b := b) (fun q hq => hd.2.2 q hq b (by simp)) (hx b (by simp))) (fun c hc => hx c (by simp [hc])) (by
     unfold DisP
     rw [List.append_assoc, List.pairwise_append]
     exact hd)
   rwa [List.append_assoc] at this
set_option maxRecDepth 100000
abbrev bagP (l : List Int) (i k : Nat) : Piece := ⟨yT (100 + ((i * 7 % 40 : Nat) : Int)), (pieceV l k 1).weight, (pieceV l k 1).category⟩
def bagS (l : List Int) : Nat → Nat → List Piece → Nat × List Piece
 | 0, k, a => (k, a)
 | n + 1, k, a => bagS l n (nx3 l k) (a ++ [bagP l a.length k])
def bagsV (l : List Int) (k most : Nat) : Nat × List Piece := bagS l (yG l k (most + 1)) (zP l k) []
theorem plates_hi {j : Nat} (h : j < 40) : yT (100 + (j : Int)) = ⟨0, 118, 1000 + (j : Int)⟩ := by
 unfold yT gmod
 have h1 : Int.tmod (100 + (j : Int)) 1000 = 100 + j := Int.tmod_eq_of_lt (by omega) (by omega)
 rw [if_neg (by omega), h1, if_neg (by omega)]
 refine Plate.mk.injEq _ _ _ _ _ _ |>.mpr ⟨by omega, by omega, by omega⟩
structure GoodB (out : List Piece) : Prop where
 plate : ∀ i, i < out.length → (out.getD i default).plate = ⟨0, 118, 1000 + ((i * 7 % 40 : Nat) : Int)⟩
 ok : ∀ b ∈ out, piB b = true
theorem bagS_good (l : List Int) : ∀ (n k : Nat) (a : List Piece), GoodB a → GoodB (bagS l n k a).2 ∧ (bagS l n k a).2.length = a.length + n
 | 0, k, a, h => ⟨h, rfl⟩
 | n + 1, k, a, h => by
   have hb : (bagP l a.length k).plate = ⟨0, 118, 1000 + ((a.length * 7 % 40 : Nat) : Int)⟩ := plates_hi (by omega)
   have hp : piB (bagP l a.length k) = true := by
     have h1 := piece_ok l k (n := 1)
     have h2 : plB (bagP l a.length k).plate = true := by
       rw [hb]
       unfold plB
       simp
       omega
     unfold piB at h1 ⊢
     simp only [Bool.and_eq_true] at h1 ⊢
     exact ⟨⟨h2, h1.1.2⟩, h1.2⟩
   have := bagS_good l n (nx3 l k) (a ++ [bagP l a.length k]) ⟨fun i hi => by
     simp only [List.length_append, List.length_cons, List.length_nil] at hi
     rcases Nat.lt_or_ge i a.length with h1 | h1
     · rw [List.getD_eq_getElem?_getD, List.getElem?_append_left h1, ← List.getD_eq_getElem?_getD]; exact h.plate i h1
     · obtain rfl : i = a.length := by omega
       rw [List.getD_eq_getElem?_getD, List.getElem?_append_right (Nat.le_refl _)]
       simpa using hb, fun b hb' => by
     rcases List.mem_append.1 hb' with h1 | h1
     · exact h.ok b h1
     obtain rfl : b = bagP l a.length k := by simpa using h1
     exact hp⟩
   refine ⟨this.1, ?_⟩
   show (bagS l n (nx3 l k) (a ++ [bagP l a.length k])).2.length = _
   rw [this.2]; simp; omega
theorem bagsV_good (l : List Int) (k most : Nat) : GoodB (bagsV l k most).2 ∧ (bagsV l k most).2.length ≤ most := by
 have hk := idxV_lt l k (n := most + 1) (by omega)
 have := bagS_good l (yG l k (most + 1)) (zP l k) [] ⟨fun i hi => by simp at hi, fun b hb => by cases hb⟩
 exact ⟨this.1, by unfold bagsV; rw [this.2]; simp; omega⟩
set_option maxRecDepth 100000
theorem Fn.nil_agg {P : Program} {f : FuncId} {cs cs' xs ys : List AV} (hle : RL (Le2 P) cs' cs) (h : Fn P f [] (.agg cs :: xs) ys []) : Fn P f [] (.agg cs' :: xs) ys [] := fun w S vals bss vs came => by
 have hargs : RL (AggOK P S w (insT []) vals) vs (.agg cs :: xs) := by
   obtain ⟨u, us, rfl, ⟨cu, rfl, hr⟩, hus⟩ := came.args.cons_inv
   refine RL.cons ⟨cu, rfl, hr.1.trans hle.1, fun i u x hu hx => ?_⟩ hus
   have hi : i < cs'.length := by rw [← hr.1]; exact (List.getElem?_eq_some_iff.1 hu).1
   have hx' := List.getElem?_eq_getElem hi
   have h1 := hr.2 i u _ hu hx'
   have h2 := hle.2 i _ x hx' hx
   revert h1 h2
   generalize cs'[i] = y
   intro h1 h2
   cases h2 with
   | same => exact h1
   | nil => exact Le2.rep (P := P) .nil (show Rep P S w [] u (.v (.slice none 0 0)) from h1)
   | nilo h => exact Le2.rep (P := P) (.nilo h) (show Rep P S w [] u (.v (.slice none 0 0)) from h1)
 exact h w S vals bss vs { came with args := hargs }
abbrev nilC (c : Container) : List AV := c.av.set 10 (.v (.slice none 0 0))
theorem absI_eq (n : Int) : (if -n > n then -n else n) = absI n := by unfold absI; omega
theorem C65 {n : Int} (h : -9223372036854775807 ≤ n ∧ n ≤ 9223372036854775807) : Fn Tryz.prog 65 [] [.v (.int .i64 n)] [.v (.int .i64 (absI n))] [] := by
 rw [← absI_eq]
 refine Spec.body Tryz.func65 rfl Tryz.ntmps65 (by simp) rfl ?_; intro S0 own0 v0 w0
 refine zA fun K hK => zB ?_
 refine zF (zD rfl rfl) ?_
 refine zE (hK _ ?_); clear hK K; try simp only [nA, Nat.reduceBEq, Nat.reduceEqDiff, ↓reduceIte, Nat.reduceAdd, Nat.reduceSub]
 refine zA fun K hK => zB ?_
 refine zF (zC rfl rfl) ?_
 refine zF (zC rfl rfl) ?_
 refine zF (op_negi rfl rfl (by omega)) ?_
 refine zF (op_max rfl rfl rfl rfl) ?_
 refine zF (zD rfl rfl) ?_
 refine zE (hK _ ?_); clear hK K; simp only [nA, ↓reduceIte]
 skip
 refine zO ?_; (try simp only [zI, zJ, Nat.reduceEqDiff, ↓reduceIte]); exact zS rfl (.tmp (bl rfl) rfl rfl .nil)
theorem C67 {n : Int} (h : -9223372036854775807 ≤ n ∧ n ≤ 9223372036854775807) : Fn Tryz.prog 67 [] [.v (.int .i64 n)] [.v (.int .i64 (absI n))] [] := by
 rw [← absI_eq]
 refine Spec.body Tryz.func67 rfl Tryz.ntmps67 (by simp) rfl ?_; intro S0 own0 v0 w0
 refine zA fun K hK => zB ?_
 refine zF (zD rfl rfl) ?_
 refine zE (hK _ ?_); clear hK K; try simp only [nA, Nat.reduceBEq, Nat.reduceEqDiff, ↓reduceIte, Nat.reduceAdd, Nat.reduceSub]
 refine zA fun K hK => zB ?_
 refine zF (zC rfl rfl) ?_
 refine zF (zC rfl rfl) ?_
 refine zF (op_negi rfl rfl (by omega)) ?_
 refine zF (op_max rfl rfl rfl rfl) ?_
 refine zF (zD rfl rfl) ?_
 refine zE (hK _ ?_); clear hK K; simp only [nA, ↓reduceIte]
 skip
 refine zO ?_; (try simp only [zI, zJ, Nat.reduceEqDiff, ↓reduceIte]); exact zS rfl (.tmp (bl rfl) rfl rfl .nil)
theorem C12 {c : Container} {p : Piece} : Fn Tryz.prog 12 [] [.agg c.av, .agg p.av] [.v (.bool (admB c p))] [] := by
 refine Spec.body Tryz.func12 rfl Tryz.ntmps12 (by simp) rfl ?_; intro S0 own0 v0 w0
 refine zA fun K hK => zB ?_
 refine yD (yO rfl rfl rfl yH rfl) ?_; simp only [nA, Nat.reduceBEq, Nat.reduceEqDiff, ↓reduceIte]
 refine yD (yO rfl rfl rfl yR rfl) ?_; simp only [nA, Nat.reduceBEq, Nat.reduceEqDiff, ↓reduceIte]
 refine zF (zD rfl rfl) ?_
 refine zE (hK _ ?_); clear hK K; try simp only [nA, Nat.reduceBEq, Nat.reduceEqDiff, ↓reduceIte, Nat.reduceAdd, Nat.reduceSub]
 refine zA fun K hK => zB ?_
 refine awR (zK rfl rfl rfl rfl ag33 yH (bl rfl) rfl) ?_
 refine awR (zK rfl rfl rfl rfl ag35 yR (bl rfl) rfl) ?_
 refine yD (op_call (b := false) rfl en32 (C32 (c := c) (p := p)) (RL.cons (by exact View.same rfl) (RL.cons (by exact View.same rfl) (RL.nil))) rfl (fun h => by cases h) rfl rfl) ?_; try simp only [nA, Nat.reduceBEq, Nat.reduceEqDiff, ↓reduceIte, Nat.reduceAdd, Nat.reduceSub]
 refine zF (zC rfl rfl) ?_
 refine zF (z6 rfl rfl rfl) ?_
 refine zF (z6 rfl rfl rfl) ?_
 refine yD (op_alloc rfl ze33 rfl) ?_; simp only [nA, Nat.reduceBEq, Nat.reduceEqDiff, ↓reduceIte]
 refine yD (z8 rfl rfl rfl rfl rfl rfl yH rfl (bl rfl) rfl) ?_; simp only [nA, Nat.reduceBEq, Nat.reduceEqDiff, ↓reduceIte]
 refine zF (zD rfl rfl) ?_
 refine zE (hK _ ?_); clear hK K; simp only [nA, ↓reduceIte]
 refine zA fun K hK => zB ?_
 refine zF (zC rfl rfl) ?_
 refine zF (op_eql rfl rfl rfl) ?_
 refine zF (zD rfl rfl) ?_
 refine zE (hK _ ?_); clear hK K; simp only [nA]
 skip
 refine zO ?_; (try simp only [zI, zJ, Nat.reduceEqDiff, ↓reduceIte]); exact zS rfl (.tmp (bl rfl) rfl rfl .nil)
abbrev tryC : Container := ⟨1, ⟨⟨#[65, 65]⟩, 1, ⟨#[]⟩, 0⟩, 0, 0, 0, 0, 0, []⟩
theorem try_val : valC tryC = 0 := by decide +kernel
theorem try_put (p : Piece) : decide ((putC tryC p false).2 = 0) = piB p := by
 cases h : piB p with
 | true =>
   rw [put_eq try_val h, show foundP tryC.pieces p.plate = false from rfl, if_neg (by decide), if_neg (by simp), if_neg (by simp), if_neg (by decide)]
   rfl
 | false =>
   unfold putC
   rw [if_neg (by rw [try_val]; decide), if_pos h]
   rfl
theorem C41 {p : Piece} : Fn Tryz.prog 41 [] [.agg p.av] [.v (.bool (piB p))] [] := by
 rw [← try_put]
 have hF : Fn Tryz.prog 63 [] [.agg (nilC tryC), .agg p.av] [.agg (putC tryC p false).1.av, .v (.int .i64 (putC tryC p false).2)] [] := Fn.nil_agg (cs := tryC.av) (RL.cons .same (RL.cons .same (RL.cons .same (RL.cons .same (RL.cons .same (RL.cons .same (RL.cons .same (RL.cons .same (RL.cons .same (RL.cons .same (RL.cons .nil RL.nil))))))))))) C63
 refine Spec.body Tryz.func41 rfl Tryz.ntmps41 (by simp) rfl ?_; intro S0 own0 v0 w0
 refine zA fun K hK => zB ?_
 refine yD (yO rfl rfl rfl yR rfl) ?_; simp only [nA, Nat.reduceBEq, Nat.reduceEqDiff, ↓reduceIte]
 refine zF (zD rfl rfl) ?_
 refine zE (hK _ ?_); clear hK K; try simp only [nA, Nat.reduceBEq, Nat.reduceEqDiff, ↓reduceIte, Nat.reduceAdd, Nat.reduceSub]
 refine zA fun K hK => zB ?_
 refine zF (op_build2 (xs := [_, _, .v (.string ⟨#[]⟩), .v (.int .i64 0)]) rfl pl25 ze25 [(0, [_]), (1, [_])] rfl rfl rfl) ?_
 refine zF (op_build2 (xs := [_, _, _, _, _, .v (.int .i64 0), .v (.int .i64 0), .v (.int .i64 0), .v (.int .i64 0), .v (.int .i64 0), .v (.slice none 0 0)]) rfl pl33 ze33 [(0, [_]), (1, [_, _, _, _])] rfl rfl rfl) ?_
 refine yD (op_alloc rfl ze33 rfl) ?_; simp only [nA, Nat.reduceBEq, Nat.reduceEqDiff, ↓reduceIte]
 refine yD (z8 rfl rfl rfl rfl rfl rfl yH rfl (bl rfl) rfl) ?_; simp only [nA, Nat.reduceBEq, Nat.reduceEqDiff, ↓reduceIte]
 refine zE (hK _ ?_); clear hK K
 refine zA fun K hK => zB ?_
 refine awR (zK rfl rfl rfl rfl ag33 yH (bl rfl) rfl) ?_
 refine awR (zK rfl rfl rfl rfl ag35 yR (bl rfl) rfl) ?_
 refine yD (op_call (b := false) rfl en63 (hF) (RL.cons (by exact View.same rfl) (RL.cons (by exact View.same rfl) (RL.nil))) rfl (fun h => by cases h) rfl rfl) ?_; try simp only [nA, Nat.reduceBEq, Nat.reduceEqDiff, ↓reduceIte, Nat.reduceAdd, Nat.reduceSub]
 refine zF (zC rfl rfl) ?_
 refine zF (z6 rfl rfl rfl) ?_
 refine zF (z6 rfl rfl rfl) ?_
 refine yD (op_alloc rfl ze33 rfl) ?_; simp only [nA, Nat.reduceBEq, Nat.reduceEqDiff, ↓reduceIte]
 refine yD (z8 rfl rfl rfl rfl rfl rfl yH rfl (bl rfl) rfl) ?_; simp only [nA, Nat.reduceBEq, Nat.reduceEqDiff, ↓reduceIte]
 refine zF (zD rfl rfl) ?_
 refine zE (hK _ ?_); clear hK K; simp only [nA, ↓reduceIte]
 refine zA fun K hK => zB ?_
 refine zF (zC rfl rfl) ?_
 refine zF (op_eql rfl rfl rfl) ?_
 refine zF (zD rfl rfl) ?_
 refine zE (hK _ ?_); clear hK K; simp only [nA]
 skip
 refine zO ?_; (try simp only [zI, zJ, Nat.reduceEqDiff, ↓reduceIte]); exact zS rfl (.tmp (bl rfl) rfl rfl .nil)
theorem C75 {a b : Piece} : Fn Tryz.prog 75 [] [.agg a.av, .agg b.av] [.v (.bool (yB a b))] [] := by
 refine Spec.body Tryz.func75 rfl Tryz.ntmps75 (by simp) rfl ?_; intro S0 own0 v0 w0
 refine zA fun K hK => zB ?_
 refine yD (yO rfl rfl rfl yR rfl) ?_; simp only [nA, Nat.reduceBEq, Nat.reduceEqDiff, ↓reduceIte]
 refine yD (yO rfl rfl rfl yR rfl) ?_; simp only [nA, Nat.reduceBEq, Nat.reduceEqDiff, ↓reduceIte]
 refine zF (zD rfl rfl) ?_
 refine zE (hK _ ?_); clear hK K; try simp only [nA, Nat.reduceBEq, Nat.reduceEqDiff, ↓reduceIte, Nat.reduceAdd, Nat.reduceSub]
 refine zA fun K hK => zB (yS ?_)
 refine zQ (zH rfl rfl rfl fl35_1 (by exact sz3) (by decide) rfl) ?_
 refine aqR (zG rfl rfl rfl rfl ag3 rfl rfl) ?_
 refine zQ (zH rfl rfl rfl fl35_1 (by exact sz3) (by decide) rfl) ?_
 refine aqR (zG rfl rfl rfl rfl ag3 rfl rfl) ?_
 refine zQ (op_gtr rfl rfl rfl) ?_
 refine zQ (zC rfl rfl) ?_
 refine' aqOrN' [_, _, _, _, _, _, _, _, _, _, _, _, _] [11,12,13,14,15,16,17,18,19,20,21,22,23] rfl rfl rfl rfl rfl rfl rfl rfl rfl rfl rfl rfl (fun hb => ?_) ?_; rotate_left
 ·
  (try simp only [z7] at hb)
  refine zQ (zH rfl rfl rfl fl35_1 (by exact sz3) (by decide) rfl) ?_
  refine aqR (zG rfl rfl rfl rfl ag3 rfl rfl) ?_
  refine zQ (zH rfl rfl rfl fl35_1 (by exact sz3) (by decide) rfl) ?_
  refine aqR (zG rfl rfl rfl rfl ag3 rfl rfl) ?_
  refine zQ (op_eql rfl rfl rfl) ?_
  refine zQ (zC rfl rfl) ?_
  refine' yK [_, _, _, _, _, _] [17,18,19,20,21,22] rfl rfl rfl rfl rfl rfl rfl rfl rfl rfl rfl rfl (fun hb => ?_) ?_; rotate_left
  ·
   (try simp only [z7] at hb)
   refine zQ (zH rfl rfl rfl fl35_0 (by exact sz23) (by decide) rfl) ?_
   refine aqR (zK rfl rfl rfl rfl ag23 sz23 (bl rfl) rfl) ?_
   refine zQ (zH rfl rfl rfl fl35_0 (by exact sz23) (by decide) rfl) ?_
   refine aqR (zK rfl rfl rfl rfl ag23 sz23 (bl rfl) rfl) ?_
   refine aqQ (zT (b := true) rfl en82 (C82 (p := a.plate) (q := b.plate)) (RL.cons (by exact View.same rfl) (RL.cons (by exact View.same rfl) (RL.nil))) rfl) ?_; simp only [nA]
   refine zQ (yP rfl rfl rfl) ?_
   (refine yL rfl rfl rfl ?_; repeat (first | exact fun _ _ => rfl | refine zU rfl ?_))
  simp only [nA]
  (refine yL rfl rfl rfl ?_; repeat (first | exact fun _ _ => rfl | refine zU rfl ?_ | refine era_out rfl ?_))
 simp only [nA]
 refine zQ (zD rfl rfl) ?_
 refine yN (hK _ ?_); clear hK K; simp only [nA]
 skip
 refine zO ?_; (try simp only [zI, zJ, Nat.reduceEqDiff, ↓reduceIte]); exact zS rfl (.tmp (bl rfl) rfl rfl .nil)
set_option maxRecDepth 100000
section
variable {C : Cx} {o : Oper} {ev : Operand → AV} {T : Sl} {t e yt : TypeId} {y : Operand}
theorem run_peq {P : Program} {t e : TypeId} (ht : P.underlying t = some (.pointer e)) (A : Option Addr) (w : World) : (binOp .eql t (.pointer A) (.pointer none)).run P w = .ok (.bool A.isNone) w := by
 unfold binOp
 simp only [Op.equal]
 rw [Sem.run_bind, show Op.maxDepth = 9999 + 1 from rfl]
 unfold Op.equalIn
 rw [Sem.run_bind, run_underlying ht]
 cases A <;> simp
theorem guard_peq {P : Program} (p q : Operand) (A : Option Addr) (w : World) : (eqGuard .eql t p q (.pointer A) (.pointer none)).run P w = .ok () w := by unfold eqGuard; simp
/-- A pointer is compared with nil. -/
theorem op_pnil (ho : o.op = .binOp .eql t y (.const (.pointer none)) yt) (hy : ev y = .v (.pointer none)) (ht : C.P.underlying t = some (.pointer e)) : OpP C o ev T (.v (.bool true)) := by
 intro a w S vals bss hm h
 have h1 := h y (by simp [ho, Op.operands])
 rw [hy] at h1
 have he : a.eval (.const (.pointer none)) = .pointer none := rfl
 exact ⟨.bool true, fun w => by simp [execOp, ho, h1.v, he, guard_peq, run_peq ht], TmpOK.v_ rfl⟩
theorem op_pnot {cs : List AV} (ho : o.op = .binOp .eql t y (.const (.pointer none)) yt) (hy : ev y = .rop cs) (ht : C.P.underlying t = some (.pointer e)) : OpP C o ev T (.v (.bool false)) := by
 intro a w S vals bss hm h
 have h1 := h y (by simp [ho, Op.operands])
 rw [hy] at h1
 obtain ⟨-, A, us, e1, _⟩ := (show Rep C.P S w [] _ (.rop cs) from h1).rop_inv
 have he : a.eval (.const (.pointer none)) = .pointer none := rfl
 exact ⟨.bool false, fun w => by simp [execOp, ho, e1, he, guard_peq, run_peq ht], TmpOK.v_ rfl⟩
end
structure Fit (l : List Container) : Prop where
 len : l.length ≤ 24
 w : ∀ c ∈ l, 0 ≤ weightC c ∧ weightC c ≤ 60000 ∧ -50 ≤ c.arm ∧ c.arm ≤ 50
theorem InvO.fit {l : List Container} (h : InvO l) : Fit l := ⟨h.len, fun c hc => by
 have hv := h.val c hc
 obtain ⟨h1, h2, _, _⟩ := val_inv hv
 have hs := sum_bd _ (val_w hv)
 unfold coB at h1
 simp only [Bool.and_eq_true] at h1
 have ha := h1.2
 unfold inB at ha
 simp only [Bool.and_eq_true, decide_eq_true_eq] at ha
 unfold weightC
 rw [if_neg (by simp [hv])]
 omega⟩
theorem mul_bd {a b m n : Int} (h0 : 0 ≤ a) (h1 : a ≤ m) (h2 : -n ≤ b) (h3 : b ≤ n) (hn : 0 ≤ n) : -(m * n) ≤ a * b ∧ a * b ≤ m * n := by
 have e1 : a * b ≤ a * n := Int.mul_le_mul_of_nonneg_left h3 h0
 have e2 : a * n ≤ m * n := Int.mul_le_mul_of_nonneg_right h1 hn
 have e3 : a * (-n) ≤ a * b := Int.mul_le_mul_of_nonneg_left h2 h0
 have e4 : a * (-n) = -(a * n) := Int.mul_neg a n
 omega
theorem mom_take {l : List Container} {f : Flight} {i : Nat} (h : i < l.length) : mom (l.take (i + 1)) f = mom (l.take i) f + if flEq (l.getD i default).flight f then weightC (l.getD i default) * (l.getD i default).arm else 0 := by
 unfold mom
 rw [List.take_add_one, List.map_append, List.sum_append, List.getElem?_eq_getElem h, getD_c h]
 simp
theorem Fit.one {l : List Container} (hf : Fit l) {i : Nat} (h : i < l.length) : -3000000 ≤ weightC (l.getD i default) * (l.getD i default).arm ∧ weightC (l.getD i default) * (l.getD i default).arm ≤ 3000000 := by
 rw [getD_c h]
 obtain ⟨h1, h2, h3, h4⟩ := hf.w _ (List.getElem_mem h)
 exact mul_bd h1 h2 h3 h4 (by decide)
theorem Fit.bd {l : List Container} (hf : Fit l) (f : Flight) : ∀ i, i ≤ l.length → -(3000000 * (i : Int)) ≤ mom (l.take i) f ∧ mom (l.take i) f ≤ 3000000 * (i : Int)
 | 0, _ => by simp [mom]
 | i + 1, h => by
   have ih := Fit.bd hf f i (by omega)
   have h1 := hf.one (i := i) (by omega)
   rw [mom_take (by omega)]
   split <;> omega
theorem Fit.mom {l : List Container} (hf : Fit l) (f : Flight) : -72000000 ≤ mom l f ∧ mom l f ≤ 72000000 := by
 have := hf.bd f l.length (Nat.le_refl _)
 rw [List.take_of_length_le (Nat.le_refl _)] at this
 have := hf.len
 omega
theorem C38 {l : List Container} {f : Flight} (hf : Fit l) : Fn Tryz.prog 38 [] [.ro (l.map Container.av), .agg f.av] [.v (.int .i64 (mom l f))] [] := by
 refine Spec.body Tryz.func38 rfl Tryz.ntmps38 (by simp) rfl ?_; intro S0 own0 v0 w0
 refine zA fun K hK => zB ?_
 refine yD (yO rfl rfl rfl sz25 rfl) ?_; simp only [nA, Nat.reduceBEq, Nat.reduceEqDiff, ↓reduceIte]
 refine zF (zD rfl rfl) ?_
 refine zE (hK _ ?_); clear hK K; try simp only [nA, Nat.reduceBEq, Nat.reduceEqDiff, ↓reduceIte, Nat.reduceAdd, Nat.reduceSub]
 refine zA fun K hK => zB ?_
 refine zF (zD rfl rfl) ?_
 refine zE (hK _ ?_); clear hK K; try simp only [nA, Nat.reduceBEq, Nat.reduceEqDiff, ↓reduceIte, Nat.reduceAdd, Nat.reduceSub]
 refine zA fun K hK => ?_
 refine zA fun K hK => zB ?_
 refine zF (zC rfl rfl) ?_
 refine zF (zX (n := l.length) rfl rfl Tryz.underlying42 (.inr (.inl ⟨_, rfl, by simp⟩))) ?_
 refine zF (zC rfl rfl) ?_
 refine zE (hK _ ?_); clear hK K; simp only [nA, ↓reduceIte]
 refine zN ?_
 refine yC (fun (q : Nat × Nat) => [(3, .ptr 0 1 0 0), (5, .v (.int .i64 (mom (l.take q.1) f))), (8, .ro (l.map Container.av)), (9, .v (.int .i64 (l.length : Nat))), (10, .v (.int .i64 (q.1 : Nat)))]) (fun q => ⟨[(1, .own 25 [f.av])], q.2⟩) (fun q => q.1 ≤ l.length) (fun q => l.length - q.1) (0, _) (by simp) ⟨rfl, rfl, rfl, rfl, rfl, trivial⟩ rfl ?_; rintro ⟨i, ep⟩ ρ hi; dsimp only at hi ⊢; simp only [updL]
 refine zA fun K hK => zB ?_
 refine zF (yP rfl rfl rfl) ?_
 refine zE (hK _ ?_); clear hK K; try simp only [nA, Nat.reduceBEq, Nat.reduceEqDiff, ↓reduceIte, Nat.reduceAdd, Nat.reduceSub]
 refine zA fun K hK => ?_
 refine zL rfl rfl rfl (fun hc => ?_) (fun hc => ?_)
 ·
  have hc1 := hc; have hlt : i < l.length := (by simpa using hc1); have hone := hf.one hlt; have hbd := hf.bd f i (by omega); have hlen := hf.len; have hmt := mom_take (f := f) hlt
  refine zM ?_
  refine hK _ ?_; clear hK K
  refine zA fun K hK => zN ?_
  refine zA fun K hK => zB ?_
  refine zF (zW i rfl (.inl rfl) rfl Tryz.underlying42 rfl (yF hlt) (by exact yH) (bl rfl)) ?_
  refine awR (zY rfl rfl ag33 yH (bl rfl) (by decide) rfl) ?_
  refine yD (op_alloc rfl ze33 rfl) ?_; try simp only [nA, Nat.reduceBEq, Nat.reduceEqDiff, ↓reduceIte, Nat.reduceAdd, Nat.reduceSub]
  refine yD (z8 rfl rfl rfl rfl rfl rfl yH rfl (bl rfl) rfl) ?_; simp only [nA, Nat.reduceBEq, Nat.reduceEqDiff, ↓reduceIte]
  refine zE (hK _ ?_); clear hK K
  refine zA fun K hK => zB ?_
  refine zF (zH rfl rfl rfl fl33_1 (by exact sz25) (by decide) rfl) ?_
  refine awR (zK rfl rfl rfl rfl ag25 sz25 (bl rfl) rfl) ?_
  refine awR (zK rfl rfl rfl rfl ag25 sz25 (bl rfl) rfl) ?_
  refine zF (op_eq25 (p := (l.getD i default).flight) (q := f) rfl rfl rfl) ?_; try simp only [nA, Nat.reduceBEq, Nat.reduceEqDiff, ↓reduceIte, Nat.reduceAdd, Nat.reduceSub]
  refine zE (hK _ ?_); clear hK K
  refine zL rfl rfl rfl (fun hc => ?_) (fun hc => ?_)
  ·
   have hc2 := hc; rw [if_pos (show flEq (l.getD i default).flight f = true from hc2)] at hmt
   refine AW.quiet mix (by kernel_rfl) ?_
   refine zQ (zC rfl rfl) ?_
   refine aqR (zK rfl rfl rfl rfl ag33 yH (bl rfl) rfl) ?_
   refine aqQ (zT (b := true) rfl en61 (C61 (c := l.getD i default)) (RL.cons (by exact View.same rfl) (RL.nil)) rfl) ?_; simp only [nA, ↓reduceIte]
   refine zQ (zH rfl rfl rfl fl33_6 (by exact sz3) (by decide) rfl) ?_
   refine aqR (zG rfl rfl rfl rfl ag3 rfl rfl) ?_
   refine zQ (op_muli rfl rfl rfl (by omega)) ?_
   refine zQ (zR rfl rfl rfl (by omega)) ?_
   refine zQ (zD rfl rfl) ?_
   refine yN ?_
   (try simp only [zI, zJ, Nat.reduceEqDiff, ↓reduceIte])
   refine hK _ ?_; clear hK K; simp only [nA]
   refine zB ?_
   refine zF (zR rfl rfl rfl (by omega)) ?_
   refine zF (zC rfl rfl) ?_
   refine AWL.gh (Gh.drop 1) ?_; simp only [nA]
   refine zE ?_
   refine ⟨(i + 1, _), by dsimp only; omega, by dsimp only; omega, ⟨rfl, congrArg (fun z => AV.v (.int .i64 z)) hmt.symm, rfl, rfl, rfl, trivial⟩, (by rfl), (by rfl)⟩
  have hc2 := hc; rw [if_neg (by rw [show flEq (l.getD i default).flight f = false from hc2]; decide)] at hmt
  refine zM ?_
  (try simp only [zI, zJ, Nat.reduceEqDiff, ↓reduceIte])
  refine hK _ ?_; clear hK K
  refine zB ?_
  refine zF (zR rfl rfl rfl (by omega)) ?_
  refine zF (zC rfl rfl) ?_
  refine AWL.gh (Gh.drop 1) ?_; simp only [nA]
  refine zE ?_
  refine ⟨(i + 1, _), by dsimp only; omega, by dsimp only; omega, ⟨rfl, congrArg (fun z => AV.v (.int .i64 z)) (by rw [hmt, Int.add_zero]), rfl, rfl, rfl, trivial⟩, (by rfl), (by rfl)⟩
 have hc1 := hc; have hnl : ¬ i < l.length := (by simpa using hc1)
 refine yE ?_; try simp only [zI, zJ, Nat.reduceEqDiff, ↓reduceIte]
 clear hK K
 refine hK _ ?_; clear hK K
 refine zA fun K hK => zB ?_
 refine zF (zC rfl rfl) ?_
 refine zF (zD rfl rfl) ?_
 refine zE (hK _ ?_); clear hK K; simp only [nA, ↓reduceIte]
 skip
 refine zO ?_; (try simp only [zI, zJ, Nat.reduceEqDiff, ↓reduceIte]); rw [show mom l f = mom (l.take i) f by rw [List.take_of_length_le (by omega)]]; exact zS rfl (.tmp (bl rfl) rfl rfl .nil)
end Go.Proofs.YtmdohphcolffmaaGreat
