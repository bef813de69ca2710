import Derived.Test.YtbbedhidiffdgaaBb
namespace Go.Proofs.Ytbbedhidiffdgaa
open Go.RowKit
set_option linter.unusedSimpArgs false
set_option linter.unusedVariables false
structure Plate where
  lead : Int
  airline : Int
  serial : Int
  deriving DecidableEq
structure Flight where
  carrier : ByteArray
  number : Int
  suffix : ByteArray
  day : Int
abbrev Plate.av (p : Plate) : List AV := [.v (.int .i64 p.lead), .v (.int .i64 p.airline), .v (.int .i64 p.serial)]
abbrev Flight.av (f : Flight) : List AV := [.v (.string f.carrier), .v (.int .i64 f.number), .v (.string f.suffix), .v (.int .i64 f.day)]
def flB (f : Flight) : Bool := ((((carB f.carrier && decide (f.number ≥ 1)) && decide (f.number ≤ 9999)) && lettersB f.suffix 0 1) && decide (f.day ≥ 0)) && decide (f.day ≤ 99)
def plB (p : Plate) : Bool := ((((decide (p.lead ≥ 0) && decide (p.lead ≤ 9)) && decide (p.airline ≥ 1)) && decide (p.airline ≤ 999)) && decide (p.serial ≥ 0)) && decide (p.serial < 1000000)
theorem C56 {f : Flight} : Fn Try.prog 56 [] [.agg f.av] [.v (.bool (flB f))] [] := by
  refine Spec.body Try.func56 rfl Try.ntmps56 (by simp) rfl ?_; intro S0 own0 v0 w0
  (refine AW.seq_k ?_; intro K hK)
  refine AW.region ?_
  refine awJ (op_box rfl rfl rfl sz45 rfl) ?_; (try simp only [nA, Nat.reduceBEq, Nat.reduceEqDiff, ↓reduceIte, Nat.reduceAdd, Nat.reduceSub])
  refine awP (op_assign rfl rfl) ?_; (try simp only [nA, Nat.reduceBEq, Nat.reduceEqDiff, ↓reduceIte, Nat.reduceAdd, Nat.reduceSub])
  refine AWL.nil ?_
  (refine hK _ ?_; clear hK K; (try simp only [nA, Nat.reduceBEq, Nat.reduceEqDiff, ↓reduceIte, Nat.reduceAdd, Nat.reduceSub]))
  (refine AW.seq_k ?_; intro K hK)
  refine AW.region (AWL.quiet ?_)
  (first | refine aqP (op_fa_ptr rfl rfl rfl fl45_0 (by exact sz9) (by decide) rfl) ?_ | refine aqP (op_fa_rop rfl rfl fl45_0 (by exact sz9) (by decide) (Nat.le_of_ble_eq_true rfl) rfl) ?_); (try simp only [nA, Nat.reduceBEq, Nat.reduceEqDiff, ↓reduceIte, Nat.reduceAdd, Nat.reduceSub])
  (first | refine aqR (op_load_ptr1 rfl rfl rfl rfl ag9 rfl rfl) ?_ | refine aqR (op_load_rop1 rfl rfl ag9) ?_); (try simp only [nA, Nat.reduceBEq, Nat.reduceEqDiff, ↓reduceIte, Nat.reduceAdd, Nat.reduceSub])
  refine aqQ (op_callQ (b := true) rfl en62 (C62) (RL.cons (by first | exact View.same rfl | exact View.nil | exact View.rof | exact View.src .ro | exact View.src .rof | exact View.src (.sl rfl rfl) | exact View.ptr rfl rfl rfl) (RL.nil)) rfl) ?_; (try simp only [nA, Nat.reduceBEq, Nat.reduceEqDiff, ↓reduceIte, Nat.reduceAdd, Nat.reduceSub])
  refine aqP (op_move rfl rfl) ?_; (try simp only [nA, Nat.reduceBEq, Nat.reduceEqDiff, ↓reduceIte, Nat.reduceAdd, Nat.reduceSub])
  refine' aqAnd' [_, _, _] [7,8,9] rfl rfl rfl rfl rfl rfl rfl rfl rfl rfl rfl rfl (fun hb => ?_) ?_; rotate_left
  ·
   (try simp only [hcS] at hb)
   (first | refine aqP (op_fa_ptr rfl rfl rfl fl45_1 (by exact sz3) (by decide) rfl) ?_ | refine aqP (op_fa_rop rfl rfl fl45_1 (by exact sz3) (by decide) (Nat.le_of_ble_eq_true rfl) rfl) ?_); (try simp only [nA, Nat.reduceBEq, Nat.reduceEqDiff, ↓reduceIte, Nat.reduceAdd, Nat.reduceSub])
   (first | refine aqR (op_load_ptr1 rfl rfl rfl rfl ag3 rfl rfl) ?_ | refine aqR (op_load_rop1 rfl rfl ag3) ?_); (try simp only [nA, Nat.reduceBEq, Nat.reduceEqDiff, ↓reduceIte, Nat.reduceAdd, Nat.reduceSub])
   refine aqP (op_geq rfl rfl rfl) ?_; (try simp only [nA, Nat.reduceBEq, Nat.reduceEqDiff, ↓reduceIte, Nat.reduceAdd, Nat.reduceSub])
   (refine aqSeg rfl rfl rfl ?_; repeat (first | exact fun _ _ => rfl | refine upd_out rfl ?_ | refine era_out rfl ?_))
  (try simp only [nA, Nat.reduceBEq, Nat.reduceEqDiff, ↓reduceIte, Nat.reduceAdd, Nat.reduceSub])
  refine aqP (op_move rfl rfl) ?_; (try simp only [nA, Nat.reduceBEq, Nat.reduceEqDiff, ↓reduceIte, Nat.reduceAdd, Nat.reduceSub])
  refine' aqAnd' [_, _, _] [12,13,14] rfl rfl rfl rfl rfl rfl rfl rfl rfl rfl rfl rfl (fun hb => ?_) ?_; rotate_left
  ·
   (try simp only [hcS] at hb)
   (first | refine aqP (op_fa_ptr rfl rfl rfl fl45_1 (by exact sz3) (by decide) rfl) ?_ | refine aqP (op_fa_rop rfl rfl fl45_1 (by exact sz3) (by decide) (Nat.le_of_ble_eq_true rfl) rfl) ?_); (try simp only [nA, Nat.reduceBEq, Nat.reduceEqDiff, ↓reduceIte, Nat.reduceAdd, Nat.reduceSub])
   (first | refine aqR (op_load_ptr1 rfl rfl rfl rfl ag3 rfl rfl) ?_ | refine aqR (op_load_rop1 rfl rfl ag3) ?_); (try simp only [nA, Nat.reduceBEq, Nat.reduceEqDiff, ↓reduceIte, Nat.reduceAdd, Nat.reduceSub])
   refine aqP (op_leq rfl rfl rfl) ?_; (try simp only [nA, Nat.reduceBEq, Nat.reduceEqDiff, ↓reduceIte, Nat.reduceAdd, Nat.reduceSub])
   (refine aqSeg rfl rfl rfl ?_; repeat (first | exact fun _ _ => rfl | refine upd_out rfl ?_ | refine era_out rfl ?_))
  (try simp only [nA, Nat.reduceBEq, Nat.reduceEqDiff, ↓reduceIte, Nat.reduceAdd, Nat.reduceSub])
  refine aqP (op_move rfl rfl) ?_; (try simp only [nA, Nat.reduceBEq, Nat.reduceEqDiff, ↓reduceIte, Nat.reduceAdd, Nat.reduceSub])
  refine' aqAnd' [_, _, _] [17,18,19] rfl rfl rfl rfl rfl rfl rfl rfl rfl rfl rfl rfl (fun hb => ?_) ?_; rotate_left
  ·
   (try simp only [hcS] at hb)
   (first | refine aqP (op_fa_ptr rfl rfl rfl fl45_2 (by exact sz9) (by decide) rfl) ?_ | refine aqP (op_fa_rop rfl rfl fl45_2 (by exact sz9) (by decide) (Nat.le_of_ble_eq_true rfl) rfl) ?_); (try simp only [nA, Nat.reduceBEq, Nat.reduceEqDiff, ↓reduceIte, Nat.reduceAdd, Nat.reduceSub])
   (first | refine aqR (op_load_ptr1 rfl rfl rfl rfl ag9 rfl rfl) ?_ | refine aqR (op_load_rop1 rfl rfl ag9) ?_); (try simp only [nA, Nat.reduceBEq, Nat.reduceEqDiff, ↓reduceIte, Nat.reduceAdd, Nat.reduceSub])
   refine aqQ (op_callQ (b := true) rfl en63 (C63 (lo := 0) (hi := 1) (by decide)) (RL.cons (by first | exact View.same rfl | exact View.nil | exact View.rof | exact View.src .ro | exact View.src .rof | exact View.src (.sl rfl rfl) | exact View.ptr rfl rfl rfl) (RL.cons (by first | exact View.same rfl | exact View.nil | exact View.rof | exact View.src .ro | exact View.src .rof | exact View.src (.sl rfl rfl) | exact View.ptr rfl rfl rfl) (RL.cons (by first | exact View.same rfl | exact View.nil | exact View.rof | exact View.src .ro | exact View.src .rof | exact View.src (.sl rfl rfl) | exact View.ptr rfl rfl rfl) (RL.nil)))) rfl) ?_; (try simp only [nA, Nat.reduceBEq, Nat.reduceEqDiff, ↓reduceIte, Nat.reduceAdd, Nat.reduceSub])
   (refine aqSeg rfl rfl rfl ?_; repeat (first | exact fun _ _ => rfl | refine upd_out rfl ?_ | refine era_out rfl ?_))
  (try simp only [nA, Nat.reduceBEq, Nat.reduceEqDiff, ↓reduceIte, Nat.reduceAdd, Nat.reduceSub])
  refine aqP (op_move rfl rfl) ?_; (try simp only [nA, Nat.reduceBEq, Nat.reduceEqDiff, ↓reduceIte, Nat.reduceAdd, Nat.reduceSub])
  refine' aqAnd' [_, _, _] [22,23,24] rfl rfl rfl rfl rfl rfl rfl rfl rfl rfl rfl rfl (fun hb => ?_) ?_; rotate_left
  ·
   (try simp only [hcS] at hb)
   (first | refine aqP (op_fa_ptr rfl rfl rfl fl45_3 (by exact sz3) (by decide) rfl) ?_ | refine aqP (op_fa_rop rfl rfl fl45_3 (by exact sz3) (by decide) (Nat.le_of_ble_eq_true rfl) rfl) ?_); (try simp only [nA, Nat.reduceBEq, Nat.reduceEqDiff, ↓reduceIte, Nat.reduceAdd, Nat.reduceSub])
   (first | refine aqR (op_load_ptr1 rfl rfl rfl rfl ag3 rfl rfl) ?_ | refine aqR (op_load_rop1 rfl rfl ag3) ?_); (try simp only [nA, Nat.reduceBEq, Nat.reduceEqDiff, ↓reduceIte, Nat.reduceAdd, Nat.reduceSub])
   refine aqP (op_geq rfl rfl rfl) ?_; (try simp only [nA, Nat.reduceBEq, Nat.reduceEqDiff, ↓reduceIte, Nat.reduceAdd, Nat.reduceSub])
   (refine aqSeg rfl rfl rfl ?_; repeat (first | exact fun _ _ => rfl | refine upd_out rfl ?_ | refine era_out rfl ?_))
  (try simp only [nA, Nat.reduceBEq, Nat.reduceEqDiff, ↓reduceIte, Nat.reduceAdd, Nat.reduceSub])
  refine aqP (op_move rfl rfl) ?_; (try simp only [nA, Nat.reduceBEq, Nat.reduceEqDiff, ↓reduceIte, Nat.reduceAdd, Nat.reduceSub])
  refine' aqAnd' [_, _, _] [27,28,29] rfl rfl rfl rfl rfl rfl rfl rfl rfl rfl rfl rfl (fun hb => ?_) ?_; rotate_left
  ·
   (try simp only [hcS] at hb)
   (first | refine aqP (op_fa_ptr rfl rfl rfl fl45_3 (by exact sz3) (by decide) rfl) ?_ | refine aqP (op_fa_rop rfl rfl fl45_3 (by exact sz3) (by decide) (Nat.le_of_ble_eq_true rfl) rfl) ?_); (try simp only [nA, Nat.reduceBEq, Nat.reduceEqDiff, ↓reduceIte, Nat.reduceAdd, Nat.reduceSub])
   (first | refine aqR (op_load_ptr1 rfl rfl rfl rfl ag3 rfl rfl) ?_ | refine aqR (op_load_rop1 rfl rfl ag3) ?_); (try simp only [nA, Nat.reduceBEq, Nat.reduceEqDiff, ↓reduceIte, Nat.reduceAdd, Nat.reduceSub])
   refine aqP (op_leq rfl rfl rfl) ?_; (try simp only [nA, Nat.reduceBEq, Nat.reduceEqDiff, ↓reduceIte, Nat.reduceAdd, Nat.reduceSub])
   (refine aqSeg rfl rfl rfl ?_; repeat (first | exact fun _ _ => rfl | refine upd_out rfl ?_ | refine era_out rfl ?_))
  (try simp only [nA, Nat.reduceBEq, Nat.reduceEqDiff, ↓reduceIte, Nat.reduceAdd, Nat.reduceSub])
  refine aqP (op_assign rfl rfl) ?_; (try simp only [nA, Nat.reduceBEq, Nat.reduceEqDiff, ↓reduceIte, Nat.reduceAdd, Nat.reduceSub])
  refine AQ.nil ?_
  (refine hK _ ?_; clear hK K; (try simp only [nA, Nat.reduceBEq, Nat.reduceEqDiff, ↓reduceIte, Nat.reduceAdd, Nat.reduceSub]))
  skip
  refine AW.ret ?_; (try simp only [thenE, inBlk, Nat.reduceEqDiff, ↓reduceIte]); exact RQ.of0 rfl (.tmp (Nat.le_of_ble_eq_true rfl) rfl rfl .nil)
theorem C45 {p : Plate} : Fn Try.prog 45 [] [.agg p.av] [.v (.bool (plB p))] [] := by
  refine Spec.body Try.func45 rfl Try.ntmps45 (by simp) rfl ?_; intro S0 own0 v0 w0
  (refine AW.seq_k ?_; intro K hK)
  refine AW.region ?_
  refine awJ (op_box rfl rfl rfl sz25 rfl) ?_; (try simp only [nA, Nat.reduceBEq, Nat.reduceEqDiff, ↓reduceIte, Nat.reduceAdd, Nat.reduceSub])
  refine awP (op_assign rfl rfl) ?_; (try simp only [nA, Nat.reduceBEq, Nat.reduceEqDiff, ↓reduceIte, Nat.reduceAdd, Nat.reduceSub])
  refine AWL.nil ?_
  (refine hK _ ?_; clear hK K; (try simp only [nA, Nat.reduceBEq, Nat.reduceEqDiff, ↓reduceIte, Nat.reduceAdd, Nat.reduceSub]))
  (refine AW.seq_k ?_; intro K hK)
  refine AW.region (AWL.quiet ?_)
  (first | refine aqP (op_fa_ptr rfl rfl rfl fl25_0 (by exact sz3) (by decide) rfl) ?_ | refine aqP (op_fa_rop rfl rfl fl25_0 (by exact sz3) (by decide) (Nat.le_of_ble_eq_true rfl) rfl) ?_); (try simp only [nA, Nat.reduceBEq, Nat.reduceEqDiff, ↓reduceIte, Nat.reduceAdd, Nat.reduceSub])
  (first | refine aqR (op_load_ptr1 rfl rfl rfl rfl ag3 rfl rfl) ?_ | refine aqR (op_load_rop1 rfl rfl ag3) ?_); (try simp only [nA, Nat.reduceBEq, Nat.reduceEqDiff, ↓reduceIte, Nat.reduceAdd, Nat.reduceSub])
  refine aqP (op_geq rfl rfl rfl) ?_; (try simp only [nA, Nat.reduceBEq, Nat.reduceEqDiff, ↓reduceIte, Nat.reduceAdd, Nat.reduceSub])
  refine aqP (op_move rfl rfl) ?_; (try simp only [nA, Nat.reduceBEq, Nat.reduceEqDiff, ↓reduceIte, Nat.reduceAdd, Nat.reduceSub])
  refine' aqAnd' [_, _, _] [7,8,9] rfl rfl rfl rfl rfl rfl rfl rfl rfl rfl rfl rfl (fun hb => ?_) ?_; rotate_left
  ·
   (try simp only [hcS] at hb)
   (first | refine aqP (op_fa_ptr rfl rfl rfl fl25_0 (by exact sz3) (by decide) rfl) ?_ | refine aqP (op_fa_rop rfl rfl fl25_0 (by exact sz3) (by decide) (Nat.le_of_ble_eq_true rfl) rfl) ?_); (try simp only [nA, Nat.reduceBEq, Nat.reduceEqDiff, ↓reduceIte, Nat.reduceAdd, Nat.reduceSub])
   (first | refine aqR (op_load_ptr1 rfl rfl rfl rfl ag3 rfl rfl) ?_ | refine aqR (op_load_rop1 rfl rfl ag3) ?_); (try simp only [nA, Nat.reduceBEq, Nat.reduceEqDiff, ↓reduceIte, Nat.reduceAdd, Nat.reduceSub])
   refine aqP (op_leq rfl rfl rfl) ?_; (try simp only [nA, Nat.reduceBEq, Nat.reduceEqDiff, ↓reduceIte, Nat.reduceAdd, Nat.reduceSub])
   (refine aqSeg rfl rfl rfl ?_; repeat (first | exact fun _ _ => rfl | refine upd_out rfl ?_ | refine era_out rfl ?_))
  (try simp only [nA, Nat.reduceBEq, Nat.reduceEqDiff, ↓reduceIte, Nat.reduceAdd, Nat.reduceSub])
  refine aqP (op_move rfl rfl) ?_; (try simp only [nA, Nat.reduceBEq, Nat.reduceEqDiff, ↓reduceIte, Nat.reduceAdd, Nat.reduceSub])
  refine' aqAnd' [_, _, _] [12,13,14] rfl rfl rfl rfl rfl rfl rfl rfl rfl rfl rfl rfl (fun hb => ?_) ?_; rotate_left
  ·
   (try simp only [hcS] at hb)
   (first | refine aqP (op_fa_ptr rfl rfl rfl fl25_1 (by exact sz3) (by decide) rfl) ?_ | refine aqP (op_fa_rop rfl rfl fl25_1 (by exact sz3) (by decide) (Nat.le_of_ble_eq_true rfl) rfl) ?_); (try simp only [nA, Nat.reduceBEq, Nat.reduceEqDiff, ↓reduceIte, Nat.reduceAdd, Nat.reduceSub])
   (first | refine aqR (op_load_ptr1 rfl rfl rfl rfl ag3 rfl rfl) ?_ | refine aqR (op_load_rop1 rfl rfl ag3) ?_); (try simp only [nA, Nat.reduceBEq, Nat.reduceEqDiff, ↓reduceIte, Nat.reduceAdd, Nat.reduceSub])
   refine aqP (op_geq rfl rfl rfl) ?_; (try simp only [nA, Nat.reduceBEq, Nat.reduceEqDiff, ↓reduceIte, Nat.reduceAdd, Nat.reduceSub])
   (refine aqSeg rfl rfl rfl ?_; repeat (first | exact fun _ _ => rfl | refine upd_out rfl ?_ | refine era_out rfl ?_))
  (try simp only [nA, Nat.reduceBEq, Nat.reduceEqDiff, ↓reduceIte, Nat.reduceAdd, Nat.reduceSub])
  refine aqP (op_move rfl rfl) ?_; (try simp only [nA, Nat.reduceBEq, Nat.reduceEqDiff, ↓reduceIte, Nat.reduceAdd, Nat.reduceSub])
  refine' aqAnd' [_, _, _] [17,18,19] rfl rfl rfl rfl rfl rfl rfl rfl rfl rfl rfl rfl (fun hb => ?_) ?_; rotate_left
  ·
   (try simp only [hcS] at hb)
   (first | refine aqP (op_fa_ptr rfl rfl rfl fl25_1 (by exact sz3) (by decide) rfl) ?_ | refine aqP (op_fa_rop rfl rfl fl25_1 (by exact sz3) (by decide) (Nat.le_of_ble_eq_true rfl) rfl) ?_); (try simp only [nA, Nat.reduceBEq, Nat.reduceEqDiff, ↓reduceIte, Nat.reduceAdd, Nat.reduceSub])
   (first | refine aqR (op_load_ptr1 rfl rfl rfl rfl ag3 rfl rfl) ?_ | refine aqR (op_load_rop1 rfl rfl ag3) ?_); (try simp only [nA, Nat.reduceBEq, Nat.reduceEqDiff, ↓reduceIte, Nat.reduceAdd, Nat.reduceSub])
   refine aqP (op_leq rfl rfl rfl) ?_; (try simp only [nA, Nat.reduceBEq, Nat.reduceEqDiff, ↓reduceIte, Nat.reduceAdd, Nat.reduceSub])
   (refine aqSeg rfl rfl rfl ?_; repeat (first | exact fun _ _ => rfl | refine upd_out rfl ?_ | refine era_out rfl ?_))
  (try simp only [nA, Nat.reduceBEq, Nat.reduceEqDiff, ↓reduceIte, Nat.reduceAdd, Nat.reduceSub])
  refine aqP (op_move rfl rfl) ?_; (try simp only [nA, Nat.reduceBEq, Nat.reduceEqDiff, ↓reduceIte, Nat.reduceAdd, Nat.reduceSub])
  refine' aqAnd' [_, _, _] [22,23,24] rfl rfl rfl rfl rfl rfl rfl rfl rfl rfl rfl rfl (fun hb => ?_) ?_; rotate_left
  ·
   (try simp only [hcS] at hb)
   (first | refine aqP (op_fa_ptr rfl rfl rfl fl25_2 (by exact sz3) (by decide) rfl) ?_ | refine aqP (op_fa_rop rfl rfl fl25_2 (by exact sz3) (by decide) (Nat.le_of_ble_eq_true rfl) rfl) ?_); (try simp only [nA, Nat.reduceBEq, Nat.reduceEqDiff, ↓reduceIte, Nat.reduceAdd, Nat.reduceSub])
   (first | refine aqR (op_load_ptr1 rfl rfl rfl rfl ag3 rfl rfl) ?_ | refine aqR (op_load_rop1 rfl rfl ag3) ?_); (try simp only [nA, Nat.reduceBEq, Nat.reduceEqDiff, ↓reduceIte, Nat.reduceAdd, Nat.reduceSub])
   refine aqP (op_geq rfl rfl rfl) ?_; (try simp only [nA, Nat.reduceBEq, Nat.reduceEqDiff, ↓reduceIte, Nat.reduceAdd, Nat.reduceSub])
   (refine aqSeg rfl rfl rfl ?_; repeat (first | exact fun _ _ => rfl | refine upd_out rfl ?_ | refine era_out rfl ?_))
  (try simp only [nA, Nat.reduceBEq, Nat.reduceEqDiff, ↓reduceIte, Nat.reduceAdd, Nat.reduceSub])
  refine aqP (op_move rfl rfl) ?_; (try simp only [nA, Nat.reduceBEq, Nat.reduceEqDiff, ↓reduceIte, Nat.reduceAdd, Nat.reduceSub])
  refine' aqAnd' [_, _, _] [27,28,29] rfl rfl rfl rfl rfl rfl rfl rfl rfl rfl rfl rfl (fun hb => ?_) ?_; rotate_left
  ·
   (try simp only [hcS] at hb)
   (first | refine aqP (op_fa_ptr rfl rfl rfl fl25_2 (by exact sz3) (by decide) rfl) ?_ | refine aqP (op_fa_rop rfl rfl fl25_2 (by exact sz3) (by decide) (Nat.le_of_ble_eq_true rfl) rfl) ?_); (try simp only [nA, Nat.reduceBEq, Nat.reduceEqDiff, ↓reduceIte, Nat.reduceAdd, Nat.reduceSub])
   (first | refine aqR (op_load_ptr1 rfl rfl rfl rfl ag3 rfl rfl) ?_ | refine aqR (op_load_rop1 rfl rfl ag3) ?_); (try simp only [nA, Nat.reduceBEq, Nat.reduceEqDiff, ↓reduceIte, Nat.reduceAdd, Nat.reduceSub])
   refine aqP (op_lss rfl rfl rfl) ?_; (try simp only [nA, Nat.reduceBEq, Nat.reduceEqDiff, ↓reduceIte, Nat.reduceAdd, Nat.reduceSub])
   (refine aqSeg rfl rfl rfl ?_; repeat (first | exact fun _ _ => rfl | refine upd_out rfl ?_ | refine era_out rfl ?_))
  (try simp only [nA, Nat.reduceBEq, Nat.reduceEqDiff, ↓reduceIte, Nat.reduceAdd, Nat.reduceSub])
  refine aqP (op_assign rfl rfl) ?_; (try simp only [nA, Nat.reduceBEq, Nat.reduceEqDiff, ↓reduceIte, Nat.reduceAdd, Nat.reduceSub])
  refine AQ.nil ?_
  (refine hK _ ?_; clear hK K; (try simp only [nA, Nat.reduceBEq, Nat.reduceEqDiff, ↓reduceIte, Nat.reduceAdd, Nat.reduceSub]))
  skip
  refine AW.ret ?_; (try simp only [thenE, inBlk, Nat.reduceEqDiff, ↓reduceIte]); exact RQ.of0 rfl (.tmp (Nat.le_of_ble_eq_true rfl) rfl rfl .nil)

end Go.Proofs.Ytbbedhidiffdgaa
