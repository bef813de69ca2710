import Derived.Test.YtfmnaigedgmhoaaDoorXed
namespace Go.Proofs.YtfmnaigedgmhoaaDoor
open Go.RowKit
set_option linter.unusedSimpArgs false
set_option linter.unusedVariables false
set_option maxRecDepth 100000
abbrev wB (bs : BL) : AV := .own 77 [[.own 5 (bs.map bv)]]
theorem wrapU (x : Int) : IntKind.u8.wrap x = (((byI x).toNat : Nat) : Int) := by rw [IntKind.wrap_u8, byI_nat]
theorem shr24 (n : Int) : n.fdiv (2 ^ (min (24 : Int).toNat IntKind.i64.bits)) = n / 16777216 := Int.fdiv_eq_ediv_of_nonneg n (by decide)
theorem shr16 (n : Int) : n.fdiv (2 ^ (min (16 : Int).toNat IntKind.i64.bits)) = n / 65536 := Int.fdiv_eq_ediv_of_nonneg n (by decide)
theorem shr8 (n : Int) : n.fdiv (2 ^ (min (8 : Int).toNat IntKind.i64.bits)) = n / 256 := Int.fdiv_eq_ediv_of_nonneg n (by decide)
theorem C51 {bs : BL} {n : Int} (hb : bs.length ≤ 1000000) : Fn Tryd.prog 51 [wB bs] [.ptr 0 0 0 0, .v (.int .i64 n)] [] [wB (bs ++ b4 n)] := by
  refine Spec.body Tryd.func51 rfl Tryd.ntmps51 (by simp) rfl ?_; intro S0 own0 v0 w0 gl
  refine AW.region ?_
  refine awP (op_move rfl rfl) ?_; (try simp only [nA, Nat.reduceBEq, Nat.reduceEqDiff, ↓reduceIte, Nat.reduceAdd, Nat.reduceSub])
  refine awP (op_move rfl rfl) ?_; (try simp only [nA, Nat.reduceBEq, Nat.reduceEqDiff, ↓reduceIte, Nat.reduceAdd, Nat.reduceSub])
  (first | refine awP (op_nil_slot rfl rfl rfl) ?_ | refine awP (op_nil_ptr rfl rfl) ?_); (try simp only [nA, Nat.reduceBEq, Nat.reduceEqDiff, ↓reduceIte, Nat.reduceAdd, Nat.reduceSub])
  (first | refine awP (op_fa_ptr rfl rfl rfl fl77_0 (by exact sz43) (by decide) rfl) ?_ | refine awP (op_fa_rop rfl rfl fl77_0 (by exact sz43) (by decide) (Nat.le_of_ble_eq_true rfl) rfl) ?_); (try simp only [nA, Nat.reduceBEq, Nat.reduceEqDiff, ↓reduceIte, Nat.reduceAdd, Nat.reduceSub])
  refine awJ (op_load_nest (i := 0) (j := 0) rfl rfl rfl rfl ag43 rfl rfl) ?_; (try simp only [nA, Nat.reduceBEq, Nat.reduceEqDiff, ↓reduceIte, Nat.reduceAdd, Nat.reduceSub])
  refine awP (op_move rfl rfl) ?_; (try simp only [nA, Nat.reduceBEq, Nat.reduceEqDiff, ↓reduceIte, Nat.reduceAdd, Nat.reduceSub])
  refine awP (op_shr rfl rfl rfl (by decide) (shr24 n)) ?_; (try simp only [nA, Nat.reduceBEq, Nat.reduceEqDiff, ↓reduceIte, Nat.reduceAdd, Nat.reduceSub])
  refine awP (op_conv rfl rfl Tryd.underlying3 Tryd.underlying5 (wrapU _)) ?_; (try simp only [nA, Nat.reduceBEq, Nat.reduceEqDiff, ↓reduceIte, Nat.reduceAdd, Nat.reduceSub])
  refine awP (op_move rfl rfl) ?_; (try simp only [nA, Nat.reduceBEq, Nat.reduceEqDiff, ↓reduceIte, Nat.reduceAdd, Nat.reduceSub])
  refine awP (op_shr rfl rfl rfl (by decide) (shr16 n)) ?_; (try simp only [nA, Nat.reduceBEq, Nat.reduceEqDiff, ↓reduceIte, Nat.reduceAdd, Nat.reduceSub])
  refine awP (op_conv rfl rfl Tryd.underlying3 Tryd.underlying5 (wrapU _)) ?_; (try simp only [nA, Nat.reduceBEq, Nat.reduceEqDiff, ↓reduceIte, Nat.reduceAdd, Nat.reduceSub])
  refine awP (op_move rfl rfl) ?_; (try simp only [nA, Nat.reduceBEq, Nat.reduceEqDiff, ↓reduceIte, Nat.reduceAdd, Nat.reduceSub])
  refine awP (op_shr rfl rfl rfl (by decide) (shr8 n)) ?_; (try simp only [nA, Nat.reduceBEq, Nat.reduceEqDiff, ↓reduceIte, Nat.reduceAdd, Nat.reduceSub])
  refine awP (op_conv rfl rfl Tryd.underlying3 Tryd.underlying5 (wrapU _)) ?_; (try simp only [nA, Nat.reduceBEq, Nat.reduceEqDiff, ↓reduceIte, Nat.reduceAdd, Nat.reduceSub])
  refine awP (op_move rfl rfl) ?_; (try simp only [nA, Nat.reduceBEq, Nat.reduceEqDiff, ↓reduceIte, Nat.reduceAdd, Nat.reduceSub])
  refine awP (op_conv rfl rfl Tryd.underlying3 Tryd.underlying5 (wrapU _)) ?_; (try simp only [nA, Nat.reduceBEq, Nat.reduceEqDiff, ↓reduceIte, Nat.reduceAdd, Nat.reduceSub])
  refine awJ (OpJ.frz (op_buildSlice rfl [(0, bv (byI (n / 16777216))), (1, bv (byI (n / 65536))), (2, bv (byI (n / 256))), (3, bv (byI n))] ((b4 n).map bv) Tryd.underlying43 ze5 rfl (by simp [b4]) rfl (bv_len _) rfl (Nat.le_of_ble_eq_true rfl) (by simp [b4, maxLen])) (bv_flat _) rfl) ?_; (try simp only [nA, Nat.reduceBEq, Nat.reduceEqDiff, ↓reduceIte, Nat.reduceAdd, Nat.reduceSub])
  refine awJ (op_app (rows := (b4 n).map bv) rfl rfl rfl rfl (by simp) .ro Tryd.underlying43 ze5 (by decide) (bv_len _) (by simp [b4]; omega) (by decide) (es' := (bs ++ b4 n).map bv) (by simp) (n := (bs ++ b4 n).length) (by simp)) ?_; (try simp only [nA, Nat.reduceBEq, Nat.reduceEqDiff, ↓reduceIte, Nat.reduceAdd, Nat.reduceSub])
  (first | refine awP (op_nil_slot rfl rfl rfl) ?_ | refine awP (op_nil_ptr rfl rfl) ?_); (try simp only [nA, Nat.reduceBEq, Nat.reduceEqDiff, ↓reduceIte, Nat.reduceAdd, Nat.reduceSub])
  (first | refine awP (op_fa_ptr rfl rfl rfl fl77_0 (by exact sz43) (by decide) rfl) ?_ | refine awP (op_fa_rop rfl rfl fl77_0 (by exact sz43) (by decide) (Nat.le_of_ble_eq_true rfl) rfl) ?_); (try simp only [nA, Nat.reduceBEq, Nat.reduceEqDiff, ↓reduceIte, Nat.reduceAdd, Nat.reduceSub])
  refine awJ (op_store_nest (r := 0) (q := 1) rfl rfl rfl rfl rfl sz43 rfl (by decide) (by simp) (by simp) (es2 := [[.own 5 ((bs ++ b4 n).map bv)]]) rfl) ?_; (try simp only [nA, Nat.reduceBEq, Nat.reduceEqDiff, ↓reduceIte, Nat.reduceAdd, Nat.reduceSub])
  refine AWL.nil ?_
  exact RQ.of (.inr rfl) rfl .nil (by simp) rfl (one_out rfl)
theorem C52 {bs : BL} {s : ByteArray} (hb : bs.length ≤ 1000000) (hs : s.size ≤ 1000000) : Fn Tryd.prog 52 [wB bs] [.ptr 0 0 0 0, .v (.string s)] [] [wB (bs ++ eWd s)] := by
  refine Spec.body Tryd.func52 rfl Tryd.ntmps52 (by simp) rfl ?_; intro S0 own0 v0 w0 gl
  (refine AW.seq_k ?_; intro K hK)
  refine AW.region ?_
  refine awP (op_move rfl rfl) ?_; (try simp only [nA, Nat.reduceBEq, Nat.reduceEqDiff, ↓reduceIte, Nat.reduceAdd, Nat.reduceSub])
  refine awP (op_move rfl rfl) ?_; (try simp only [nA, Nat.reduceBEq, Nat.reduceEqDiff, ↓reduceIte, Nat.reduceAdd, Nat.reduceSub])
  (first | refine awP (op_len_ro rfl rfl Tryd.underlying9 (by first | exact .inr (.inl ⟨_, rfl, rfl⟩) | exact .inl rfl | exact .inr (.inr (.inl ⟨_, rfl, rfl⟩)) | exact .inr (.inr (.inr ⟨rfl, rfl⟩)))) ?_ | refine awP (op_len_sl rfl rfl rfl Tryd.underlying9) ?_ | refine awP (op_len_str rfl rfl Tryd.underlying9) ?_); (try simp only [nA, Nat.reduceBEq, Nat.reduceEqDiff, ↓reduceIte, Nat.reduceAdd, Nat.reduceSub])
  refine awJ (op_call1 rfl en51 (C51 (bs := bs) (n := (s.size : Nat)) (by omega)) (by exact rfl) (RL.cons .ptr (RL.cons (.base (by first | exact View.same rfl | exact View.nil | exact View.rof | exact View.src .ro | exact View.src .rof | exact View.src (.sl rfl rfl) | exact View.ptr rfl rfl rfl)) (RL.nil))) (by exact ⟨_, _, _, rfl, rfl, rfl⟩) (by exact rfl) (by exact rfl) (by exact rfl)) ?_; (try simp only [nA, Nat.reduceBEq, Nat.reduceEqDiff, ↓reduceIte, Nat.reduceAdd, Nat.reduceSub])
  refine AWL.nil ?_
  (refine hK _ ?_; clear hK K; (try simp only [nA, Nat.reduceBEq, Nat.reduceEqDiff, ↓reduceIte, Nat.reduceAdd, Nat.reduceSub]))
  refine AW.region ?_
  refine awP (op_move rfl rfl) ?_; (try simp only [nA, Nat.reduceBEq, Nat.reduceEqDiff, ↓reduceIte, Nat.reduceAdd, Nat.reduceSub])
  refine awP (op_move rfl rfl) ?_; (try simp only [nA, Nat.reduceBEq, Nat.reduceEqDiff, ↓reduceIte, Nat.reduceAdd, Nat.reduceSub])
  (first | refine awP (op_nil_slot rfl rfl rfl) ?_ | refine awP (op_nil_ptr rfl rfl) ?_); (try simp only [nA, Nat.reduceBEq, Nat.reduceEqDiff, ↓reduceIte, Nat.reduceAdd, Nat.reduceSub])
  (first | refine awP (op_fa_ptr rfl rfl rfl fl77_0 (by exact sz43) (by decide) rfl) ?_ | refine awP (op_fa_rop rfl rfl fl77_0 (by exact sz43) (by decide) (Nat.le_of_ble_eq_true rfl) rfl) ?_); (try simp only [nA, Nat.reduceBEq, Nat.reduceEqDiff, ↓reduceIte, Nat.reduceAdd, Nat.reduceSub])
  refine awJ (op_load_nest (i := 0) (j := 0) rfl rfl rfl rfl ag43 rfl rfl) ?_; (try simp only [nA, Nat.reduceBEq, Nat.reduceEqDiff, ↓reduceIte, Nat.reduceAdd, Nat.reduceSub])
  refine awP (op_move rfl rfl) ?_; (try simp only [nA, Nat.reduceBEq, Nat.reduceEqDiff, ↓reduceIte, Nat.reduceAdd, Nat.reduceSub])
  refine awJ (op_app_str rfl rfl rfl rfl (by simp) Tryd.underlying43 Tryd.underlying9 ze5 (by simp [b4]; omega) (es' := (bs ++ eWd s).map bv) (by simp [eWd]) (n := (bs ++ eWd s).length) (by rw [List.length_map, List.length_append, List.length_append, wd_len, b4_len]; omega)) ?_; (try simp only [nA, Nat.reduceBEq, Nat.reduceEqDiff, ↓reduceIte, Nat.reduceAdd, Nat.reduceSub])
  (first | refine awP (op_nil_slot rfl rfl rfl) ?_ | refine awP (op_nil_ptr rfl rfl) ?_); (try simp only [nA, Nat.reduceBEq, Nat.reduceEqDiff, ↓reduceIte, Nat.reduceAdd, Nat.reduceSub])
  (first | refine awP (op_fa_ptr rfl rfl rfl fl77_0 (by exact sz43) (by decide) rfl) ?_ | refine awP (op_fa_rop rfl rfl fl77_0 (by exact sz43) (by decide) (Nat.le_of_ble_eq_true rfl) rfl) ?_); (try simp only [nA, Nat.reduceBEq, Nat.reduceEqDiff, ↓reduceIte, Nat.reduceAdd, Nat.reduceSub])
  refine awJ (op_store_nest (r := 0) (q := 1) rfl rfl rfl rfl rfl sz43 rfl (by decide) (by simp) (by simp) (es2 := [[.own 5 ((bs ++ eWd s).map bv)]]) rfl) ?_; (try simp only [nA, Nat.reduceBEq, Nat.reduceEqDiff, ↓reduceIte, Nat.reduceAdd, Nat.reduceSub])
  refine AWL.nil ?_
  exact RQ.of (.inr rfl) rfl .nil (by simp) rfl (one_out rfl)
theorem C54 {bs : BL} {yes : Bool} (hb : bs.length ≤ 1000000) : Fn Tryd.prog 54 [wB bs] [.ptr 0 0 0 0, .v (.bool yes)] [] [wB (bs ++ eTr yes)] := by
  refine Spec.body Tryd.func54 rfl Tryd.ntmps54 (by simp) rfl ?_; intro S0 own0 v0 w0 gl
  (refine AW.seq_k ?_; intro K hK)
  refine AW.region ?_
  refine awP (op_assign rfl rfl) ?_; (try simp only [nA, Nat.reduceBEq, Nat.reduceEqDiff, ↓reduceIte, Nat.reduceAdd, Nat.reduceSub])
  refine AWL.nil ?_
  (refine hK _ ?_; clear hK K; (try simp only [nA, Nat.reduceBEq, Nat.reduceEqDiff, ↓reduceIte, Nat.reduceAdd, Nat.reduceSub]))
  (refine AW.seq_k ?_; intro K hK)
  (refine AW.seq_k ?_; intro K hK)
  refine AW.region ?_
  refine awP (op_move rfl rfl) ?_; (try simp only [nA, Nat.reduceBEq, Nat.reduceEqDiff, ↓reduceIte, Nat.reduceAdd, Nat.reduceSub])
  refine AWL.nil ?_
  (refine hK _ ?_; clear hK K; (try simp only [nA, Nat.reduceBEq, Nat.reduceEqDiff, ↓reduceIte, Nat.reduceAdd, Nat.reduceSub]))
  refine AW.cond rfl rfl rfl (fun hc => ?_) (fun hc => ?_)
  ·
   (skip); have hc1 := hc; obtain rfl : yes = true := hc1
   refine AW.region ?_
   refine awP (op_assign rfl rfl) ?_; (try simp only [nA, Nat.reduceBEq, Nat.reduceEqDiff, ↓reduceIte, Nat.reduceAdd, Nat.reduceSub])
   refine AWL.nil ?_
   (refine hK _ ?_; clear hK K; (try simp only [nA, Nat.reduceBEq, Nat.reduceEqDiff, ↓reduceIte, Nat.reduceAdd, Nat.reduceSub]))
   refine AW.region ?_
   refine awP (op_move rfl rfl) ?_; (try simp only [nA, Nat.reduceBEq, Nat.reduceEqDiff, ↓reduceIte, Nat.reduceAdd, Nat.reduceSub])
   refine awP (op_move rfl rfl) ?_; (try simp only [nA, Nat.reduceBEq, Nat.reduceEqDiff, ↓reduceIte, Nat.reduceAdd, Nat.reduceSub])
   (first | refine awP (op_nil_slot rfl rfl rfl) ?_ | refine awP (op_nil_ptr rfl rfl) ?_); (try simp only [nA, Nat.reduceBEq, Nat.reduceEqDiff, ↓reduceIte, Nat.reduceAdd, Nat.reduceSub])
   (first | refine awP (op_fa_ptr rfl rfl rfl fl77_0 (by exact sz43) (by decide) rfl) ?_ | refine awP (op_fa_rop rfl rfl fl77_0 (by exact sz43) (by decide) (Nat.le_of_ble_eq_true rfl) rfl) ?_); (try simp only [nA, Nat.reduceBEq, Nat.reduceEqDiff, ↓reduceIte, Nat.reduceAdd, Nat.reduceSub])
   refine awJ (op_load_nest (i := 0) (j := 0) rfl rfl rfl rfl ag43 rfl rfl) ?_; (try simp only [nA, Nat.reduceBEq, Nat.reduceEqDiff, ↓reduceIte, Nat.reduceAdd, Nat.reduceSub])
   refine awP (op_move rfl rfl) ?_; (try simp only [nA, Nat.reduceBEq, Nat.reduceEqDiff, ↓reduceIte, Nat.reduceAdd, Nat.reduceSub])
   (first | refine awJ (OpJ.frz (op_buildSlice rfl [(0, bv 1)] ((eTr true).map bv) Tryd.underlying43 ze5 rfl (by simp [eTr]) rfl (bv_len _) rfl (Nat.le_of_ble_eq_true rfl) (by simp [eTr, maxLen])) (bv_flat _) rfl) ?_ | refine awJ (OpJ.frz (op_buildSlice rfl [(0, bv 0)] ((eTr false).map bv) Tryd.underlying43 ze5 rfl (by simp [eTr]) rfl (bv_len _) rfl (Nat.le_of_ble_eq_true rfl) (by simp [eTr, maxLen])) (bv_flat _) rfl) ?_); (try simp only [nA, Nat.reduceBEq, Nat.reduceEqDiff, ↓reduceIte, Nat.reduceAdd, Nat.reduceSub])
   refine awJ (op_app (rows := (eTr true).map bv) rfl rfl rfl rfl (by simp) .ro Tryd.underlying43 ze5 (by decide) (bv_len _) (by simp [eTr]; omega) (by decide) (es' := (bs ++ eTr true).map bv) (by simp) (n := (bs ++ eTr true).length) (by simp)) ?_; (try simp only [nA, Nat.reduceBEq, Nat.reduceEqDiff, ↓reduceIte, Nat.reduceAdd, Nat.reduceSub])
   (first | refine awP (op_nil_slot rfl rfl rfl) ?_ | refine awP (op_nil_ptr rfl rfl) ?_); (try simp only [nA, Nat.reduceBEq, Nat.reduceEqDiff, ↓reduceIte, Nat.reduceAdd, Nat.reduceSub])
   (first | refine awP (op_fa_ptr rfl rfl rfl fl77_0 (by exact sz43) (by decide) rfl) ?_ | refine awP (op_fa_rop rfl rfl fl77_0 (by exact sz43) (by decide) (Nat.le_of_ble_eq_true rfl) rfl) ?_); (try simp only [nA, Nat.reduceBEq, Nat.reduceEqDiff, ↓reduceIte, Nat.reduceAdd, Nat.reduceSub])
   refine awJ (op_store_nest (r := 0) (q := 1) rfl rfl rfl rfl rfl sz43 rfl (by decide) (by simp) (by simp) (es2 := [[.own 5 ((bs ++ eTr true).map bv)]]) rfl) ?_; (try simp only [nA, Nat.reduceBEq, Nat.reduceEqDiff, ↓reduceIte, Nat.reduceAdd, Nat.reduceSub])
   refine AWL.nil ?_
   exact RQ.of (.inr rfl) rfl .nil (by simp) rfl (one_out rfl)
  ·
   (skip); have hc1 := hc; obtain rfl : yes = false := hc1
   refine AW.skip ?_
   (refine hK _ ?_; clear hK K; (try simp only [nA, Nat.reduceBEq, Nat.reduceEqDiff, ↓reduceIte, Nat.reduceAdd, Nat.reduceSub]))
   refine AW.region ?_
   refine awP (op_move rfl rfl) ?_; (try simp only [nA, Nat.reduceBEq, Nat.reduceEqDiff, ↓reduceIte, Nat.reduceAdd, Nat.reduceSub])
   refine awP (op_move rfl rfl) ?_; (try simp only [nA, Nat.reduceBEq, Nat.reduceEqDiff, ↓reduceIte, Nat.reduceAdd, Nat.reduceSub])
   (first | refine awP (op_nil_slot rfl rfl rfl) ?_ | refine awP (op_nil_ptr rfl rfl) ?_); (try simp only [nA, Nat.reduceBEq, Nat.reduceEqDiff, ↓reduceIte, Nat.reduceAdd, Nat.reduceSub])
   (first | refine awP (op_fa_ptr rfl rfl rfl fl77_0 (by exact sz43) (by decide) rfl) ?_ | refine awP (op_fa_rop rfl rfl fl77_0 (by exact sz43) (by decide) (Nat.le_of_ble_eq_true rfl) rfl) ?_); (try simp only [nA, Nat.reduceBEq, Nat.reduceEqDiff, ↓reduceIte, Nat.reduceAdd, Nat.reduceSub])
   refine awJ (op_load_nest (i := 0) (j := 0) rfl rfl rfl rfl ag43 rfl rfl) ?_; (try simp only [nA, Nat.reduceBEq, Nat.reduceEqDiff, ↓reduceIte, Nat.reduceAdd, Nat.reduceSub])
   refine awP (op_move rfl rfl) ?_; (try simp only [nA, Nat.reduceBEq, Nat.reduceEqDiff, ↓reduceIte, Nat.reduceAdd, Nat.reduceSub])
   (first | refine awJ (OpJ.frz (op_buildSlice rfl [(0, bv 1)] ((eTr true).map bv) Tryd.underlying43 ze5 rfl (by simp [eTr]) rfl (bv_len _) rfl (Nat.le_of_ble_eq_true rfl) (by simp [eTr, maxLen])) (bv_flat _) rfl) ?_ | refine awJ (OpJ.frz (op_buildSlice rfl [(0, bv 0)] ((eTr false).map bv) Tryd.underlying43 ze5 rfl (by simp [eTr]) rfl (bv_len _) rfl (Nat.le_of_ble_eq_true rfl) (by simp [eTr, maxLen])) (bv_flat _) rfl) ?_); (try simp only [nA, Nat.reduceBEq, Nat.reduceEqDiff, ↓reduceIte, Nat.reduceAdd, Nat.reduceSub])
   refine awJ (op_app (rows := (eTr false).map bv) rfl rfl rfl rfl (by simp) .ro Tryd.underlying43 ze5 (by decide) (bv_len _) (by simp [eTr]; omega) (by decide) (es' := (bs ++ eTr false).map bv) (by simp) (n := (bs ++ eTr false).length) (by simp)) ?_; (try simp only [nA, Nat.reduceBEq, Nat.reduceEqDiff, ↓reduceIte, Nat.reduceAdd, Nat.reduceSub])
   (first | refine awP (op_nil_slot rfl rfl rfl) ?_ | refine awP (op_nil_ptr rfl rfl) ?_); (try simp only [nA, Nat.reduceBEq, Nat.reduceEqDiff, ↓reduceIte, Nat.reduceAdd, Nat.reduceSub])
   (first | refine awP (op_fa_ptr rfl rfl rfl fl77_0 (by exact sz43) (by decide) rfl) ?_ | refine awP (op_fa_rop rfl rfl fl77_0 (by exact sz43) (by decide) (Nat.le_of_ble_eq_true rfl) rfl) ?_); (try simp only [nA, Nat.reduceBEq, Nat.reduceEqDiff, ↓reduceIte, Nat.reduceAdd, Nat.reduceSub])
   refine awJ (op_store_nest (r := 0) (q := 1) rfl rfl rfl rfl rfl sz43 rfl (by decide) (by simp) (by simp) (es2 := [[.own 5 ((bs ++ eTr false).map bv)]]) rfl) ?_; (try simp only [nA, Nat.reduceBEq, Nat.reduceEqDiff, ↓reduceIte, Nat.reduceAdd, Nat.reduceSub])
   refine AWL.nil ?_
   exact RQ.of (.inr rfl) rfl .nil (by simp) rfl (one_out rfl)
theorem take_flat {bs : BL} {xs : List Int} {i : Nat} (h : i < xs.length) : (bs ++ (xs.take i).flatMap b4) ++ b4 (xs.getD i default) = bs ++ (xs.take (i + 1)).flatMap b4 := by
  rw [List.take_add_one, List.getElem?_eq_getElem h, getD_of h, List.flatMap_append, List.append_assoc]
  congr 2
theorem flat_b4 : ∀ (xs : List Int), (xs.flatMap b4).length = 4 * xs.length
  | [] => rfl
  | x :: xs => by rw [List.flatMap_cons, List.length_append, flat_b4 xs, b4_len, List.length_cons]; omega
theorem C89 {bs : BL} {xs : List Int} (hb : bs.length ≤ 900000) (hx : xs.length ≤ 1000) : Fn Tryd.prog 89 [wB bs] [.ptr 0 0 0 0, .ro (xs.map iv)] [] [wB (bs ++ xs.flatMap b4)] := by
  refine Spec.body Tryd.func89 rfl Tryd.ntmps89 (by simp) rfl ?_; intro S0 own0 v0 w0 gl
  (refine AW.seq_k ?_; intro K hK)
  refine AW.region ?_
  refine awP (op_move rfl rfl) ?_; (try simp only [nA, Nat.reduceBEq, Nat.reduceEqDiff, ↓reduceIte, Nat.reduceAdd, Nat.reduceSub])
  refine awP (op_len_ro (n := xs.length) rfl rfl Tryd.underlying36 (.inr (.inl ⟨_, rfl, by simp⟩))) ?_; (try simp only [nA, Nat.reduceBEq, Nat.reduceEqDiff, ↓reduceIte, Nat.reduceAdd, Nat.reduceSub])
  refine awP (op_move rfl rfl) ?_; (try simp only [nA, Nat.reduceBEq, Nat.reduceEqDiff, ↓reduceIte, Nat.reduceAdd, Nat.reduceSub])
  refine AWL.nil ?_
  (refine hK _ ?_; clear hK K; (try simp only [nA, Nat.reduceBEq, Nat.reduceEqDiff, ↓reduceIte, Nat.reduceAdd, Nat.reduceSub]))
  refine AW.block ?_
  refine AW.loopI (fun i => [(0, .ptr 0 0 0 0), (6, .ro (xs.map iv)), (7, .v (.int .i64 xs.length)), (8, .v (.int .i64 (i : Nat)))]) (fun i => ⟨[(0, wB (bs ++ (xs.take i).flatMap b4))], 1⟩) (fun i => i ≤ xs.length) (fun i => xs.length - i) 0 (by simp) ⟨rfl, rfl, rfl, rfl, trivial⟩ (by simp) ?_; intro i ρ hi; simp only [updL]; (try simp only [nA, Nat.reduceBEq, Nat.reduceEqDiff, ↓reduceIte, Nat.reduceAdd, Nat.reduceSub]); have hfl := flat_b4 (xs.take i); have htl : (xs.take i).length ≤ 1000 := (by rw [List.length_take]; omega)
  (refine AW.seq_k ?_; intro K hK)
  refine AW.region ?_
  refine awP (op_lss rfl rfl rfl) ?_; (try simp only [nA, Nat.reduceBEq, Nat.reduceEqDiff, ↓reduceIte, Nat.reduceAdd, Nat.reduceSub])
  refine AWL.nil ?_
  (refine hK _ ?_; clear hK K; (try simp only [nA, Nat.reduceBEq, Nat.reduceEqDiff, ↓reduceIte, Nat.reduceAdd, Nat.reduceSub]))
  (refine AW.seq_k ?_; intro K hK)
  refine AW.cond rfl rfl rfl (fun hc => ?_) (fun hc => ?_)
  ·
   (skip); have hc1 := hc; have hlt : i < xs.length := (by simpa using hc1)
   refine AW.skip ?_
   (refine hK _ ?_; clear hK K; (try simp only [nA, Nat.reduceBEq, Nat.reduceEqDiff, ↓reduceIte, Nat.reduceAdd, Nat.reduceSub]))
   (refine AW.seq_k ?_; intro K hK)
   refine AW.block ?_
   (refine AW.seq_k ?_; intro K hK)
   refine AW.region ?_
   refine awP (op_ia_ro i rfl (.inl rfl) rfl Tryd.underlying36 rfl (get_mapD (by omega)) (by exact sz3) (Nat.le_of_ble_eq_true rfl)) ?_; (try simp only [nA, Nat.reduceBEq, Nat.reduceEqDiff, ↓reduceIte, Nat.reduceAdd, Nat.reduceSub])
   (first | refine awR (op_load_ptr1 rfl rfl rfl rfl ag3 rfl rfl) ?_ | refine awR (op_load_rop1 rfl rfl ag3) ?_); (try simp only [nA, Nat.reduceBEq, Nat.reduceEqDiff, ↓reduceIte, Nat.reduceAdd, Nat.reduceSub])
   refine awP (op_assign rfl rfl) ?_; (try simp only [nA, Nat.reduceBEq, Nat.reduceEqDiff, ↓reduceIte, Nat.reduceAdd, Nat.reduceSub])
   refine AWL.nil ?_
   (refine hK _ ?_; clear hK K; (try simp only [nA, Nat.reduceBEq, Nat.reduceEqDiff, ↓reduceIte, Nat.reduceAdd, Nat.reduceSub]))
   refine AW.region ?_
   refine awP (op_move rfl rfl) ?_; (try simp only [nA, Nat.reduceBEq, Nat.reduceEqDiff, ↓reduceIte, Nat.reduceAdd, Nat.reduceSub])
   refine awP (op_move rfl rfl) ?_; (try simp only [nA, Nat.reduceBEq, Nat.reduceEqDiff, ↓reduceIte, Nat.reduceAdd, Nat.reduceSub])
   refine awJ (op_call1 rfl en51 (C51 (bs := bs ++ (xs.take i).flatMap b4) (n := xs.getD i default) (by rw [List.length_append]; omega)) (by exact rfl) (RL.cons .ptr (RL.cons (.base (by first | exact View.same rfl | exact View.nil | exact View.rof | exact View.src .ro | exact View.src .rof | exact View.src (.sl rfl rfl) | exact View.ptr rfl rfl rfl)) (RL.nil))) (by exact ⟨_, _, _, rfl, rfl, rfl⟩) (by exact rfl) (by exact rfl) (by exact rfl)) ?_; (try simp only [nA, Nat.reduceBEq, Nat.reduceEqDiff, ↓reduceIte, Nat.reduceAdd, Nat.reduceSub])
   refine AWL.nil ?_
   (try simp only [thenE, inBlk, Nat.reduceEqDiff, ↓reduceIte])
   (refine hK _ ?_; clear hK K; (try simp only [nA, Nat.reduceBEq, Nat.reduceEqDiff, ↓reduceIte, Nat.reduceAdd, Nat.reduceSub]))
   refine AW.region ?_
   (first | refine awP (op_addi rfl rfl rfl (by omega)) ?_ | refine awP (op_add rfl rfl rfl rfl) ?_); (try simp only [nA, Nat.reduceBEq, Nat.reduceEqDiff, ↓reduceIte, Nat.reduceAdd, Nat.reduceSub])
   refine awP (op_move rfl rfl) ?_; (try simp only [nA, Nat.reduceBEq, Nat.reduceEqDiff, ↓reduceIte, Nat.reduceAdd, Nat.reduceSub])
   skip
   refine AWL.nil ?_
   refine ⟨i + 1, by omega, by omega, ⟨rfl, rfl, rfl, rfl, trivial⟩, congrArg (fun z => (⟨[(0, wB z)], 1⟩ : Sl)) (take_flat hlt), (by first | rfl | trivial)⟩
  ·
   (skip); have hc1 := hc; have hnl : ¬ i < xs.length := (by simpa using hc1); rw [show xs.take i = xs from List.take_of_length_le (by omega)]
   refine AW.exit ?_; (try simp only [thenE, inBlk, Nat.reduceEqDiff, ↓reduceIte])
   clear hK K
   show RQ _ _ _ _ _ _; exact RQ.of (.inr rfl) rfl .nil (by simp) rfl (one_out rfl)
end Go.Proofs.YtfmnaigedgmhoaaDoor
namespace Go.Proofs.YtfmnaigedgmhoaaDoor
open Go.RowKit
set_option linter.unusedSimpArgs false
set_option linter.unusedVariables false
set_option maxRecDepth 100000
theorem C53v {b0 b1 : BL} {p : Plate} (g0 : Fn Tryd.prog 89 [wB b0] [.ptr 0 0 0 0, .ro (([p.lead, p.airline, p.serial] : List Int).map iv)] [] [wB b1]) : Fn Tryd.prog 53 [wB b0] [.ptr 0 0 0 0, .agg p.av] [] [wB b1] := by
  refine Spec.body Tryd.func53 rfl Tryd.ntmps53 (by simp) rfl ?_; intro S0 own0 v0 w0 gl
  (refine AW.seq_k ?_; intro K hK)
  refine AW.region ?_
  refine awJ (op_box rfl rfl rfl sz23 rfl) ?_; (try simp only [nA, Nat.reduceBEq, Nat.reduceEqDiff, ↓reduceIte, Nat.reduceAdd, Nat.reduceSub])
  refine AWL.nil ?_
  (refine hK _ ?_; clear hK K; (try simp only [nA, Nat.reduceBEq, Nat.reduceEqDiff, ↓reduceIte, Nat.reduceAdd, Nat.reduceSub]))
  refine AW.region ?_
  refine awP (op_move rfl rfl) ?_; (try simp only [nA, Nat.reduceBEq, Nat.reduceEqDiff, ↓reduceIte, Nat.reduceAdd, Nat.reduceSub])
  (first | refine awP (op_fa_ptr rfl rfl rfl fl23_0 (by exact sz3) (by decide) rfl) ?_ | refine awP (op_fa_rop rfl rfl fl23_0 (by exact sz3) (by decide) (Nat.le_of_ble_eq_true rfl) rfl) ?_); (try simp only [nA, Nat.reduceBEq, Nat.reduceEqDiff, ↓reduceIte, Nat.reduceAdd, Nat.reduceSub])
  (first | refine awR (op_load_ptr1 rfl rfl rfl rfl ag3 rfl rfl) ?_ | refine awR (op_load_rop1 rfl rfl ag3) ?_); (try simp only [nA, Nat.reduceBEq, Nat.reduceEqDiff, ↓reduceIte, Nat.reduceAdd, Nat.reduceSub])
  (first | refine awP (op_fa_ptr rfl rfl rfl fl23_1 (by exact sz3) (by decide) rfl) ?_ | refine awP (op_fa_rop rfl rfl fl23_1 (by exact sz3) (by decide) (Nat.le_of_ble_eq_true rfl) rfl) ?_); (try simp only [nA, Nat.reduceBEq, Nat.reduceEqDiff, ↓reduceIte, Nat.reduceAdd, Nat.reduceSub])
  (first | refine awR (op_load_ptr1 rfl rfl rfl rfl ag3 rfl rfl) ?_ | refine awR (op_load_rop1 rfl rfl ag3) ?_); (try simp only [nA, Nat.reduceBEq, Nat.reduceEqDiff, ↓reduceIte, Nat.reduceAdd, Nat.reduceSub])
  (first | refine awP (op_fa_ptr rfl rfl rfl fl23_2 (by exact sz3) (by decide) rfl) ?_ | refine awP (op_fa_rop rfl rfl fl23_2 (by exact sz3) (by decide) (Nat.le_of_ble_eq_true rfl) rfl) ?_); (try simp only [nA, Nat.reduceBEq, Nat.reduceEqDiff, ↓reduceIte, Nat.reduceAdd, Nat.reduceSub])
  (first | refine awR (op_load_ptr1 rfl rfl rfl rfl ag3 rfl rfl) ?_ | refine awR (op_load_rop1 rfl rfl ag3) ?_); (try simp only [nA, Nat.reduceBEq, Nat.reduceEqDiff, ↓reduceIte, Nat.reduceAdd, Nat.reduceSub])
  refine awJ (OpJ.frz (op_buildSlice rfl [(0, iv p.lead), (1, iv p.airline), (2, iv p.serial)] (([p.lead, p.airline, p.serial] : List Int).map iv) Tryd.underlying36 ze3 rfl (by simp) (fold_dense 1 (([p.lead, p.airline, p.serial] : List Int).map iv) (iv_len _)) (iv_len _) rfl (Nat.le_of_ble_eq_true rfl) (by simp [maxLen])) (iv_flat [p.lead, p.airline, p.serial]) rfl) ?_; (try simp only [nA, Nat.reduceBEq, Nat.reduceEqDiff, ↓reduceIte, Nat.reduceAdd, Nat.reduceSub])
  refine awJ (op_call1 rfl en89 g0 (by exact rfl) (RL.cons .ptr (RL.cons (.base (by first | exact View.same rfl | exact View.nil | exact View.rof | exact View.src .ro | exact View.src .rof | exact View.src (.sl rfl rfl) | exact View.ptr rfl rfl rfl)) (RL.nil))) (by exact ⟨_, _, _, rfl, rfl, rfl⟩) (by exact rfl) (by exact rfl) (by exact rfl)) ?_; (try simp only [nA, Nat.reduceBEq, Nat.reduceEqDiff, ↓reduceIte, Nat.reduceAdd, Nat.reduceSub])
  refine AWL.nil ?_
  exact RQ.of (.inr rfl) rfl .nil (by simp) rfl (one_out rfl)
theorem C53 {bs : BL} {p : Plate} (hb : bs.length ≤ 900000) : Fn Tryd.prog 53 [wB bs] [.ptr 0 0 0 0, .agg p.av] [] [wB (bs ++ ePl p)] := by
  have e : ([p.lead, p.airline, p.serial] : List Int).flatMap b4 = ePl p := by simp [ePl]
  have h := C89 (bs := bs) (xs := [p.lead, p.airline, p.serial]) hb (by simp)
  rw [e] at h
  exact C53v h
theorem C59v {b0 b1 b2 b3 b4 : BL} {f : Flight} (g0 : Fn Tryd.prog 52 [wB b0] [.ptr 0 0 0 0, .v (.string f.carrier)] [] [wB b1]) (g1 : Fn Tryd.prog 51 [wB b1] [.ptr 0 0 0 0, .v (.int .i64 f.number)] [] [wB b2]) (g2 : Fn Tryd.prog 52 [wB b2] [.ptr 0 0 0 0, .v (.string f.suffix)] [] [wB b3]) (g3 : Fn Tryd.prog 51 [wB b3] [.ptr 0 0 0 0, .v (.int .i64 f.day)] [] [wB b4]) :
    Fn Tryd.prog 59 [wB b0] [.ptr 0 0 0 0, .agg f.av] [] [wB b4] := by
  refine Spec.body Tryd.func59 rfl Tryd.ntmps59 (by simp) rfl ?_; intro S0 own0 v0 w0 gl
  (refine AW.seq_k ?_; intro K hK)
  refine AW.region ?_
  refine awJ (op_box rfl rfl rfl sz26 rfl) ?_; (try simp only [nA, Nat.reduceBEq, Nat.reduceEqDiff, ↓reduceIte, Nat.reduceAdd, Nat.reduceSub])
  refine AWL.nil ?_
  (refine hK _ ?_; clear hK K; (try simp only [nA, Nat.reduceBEq, Nat.reduceEqDiff, ↓reduceIte, Nat.reduceAdd, Nat.reduceSub]))
  (refine AW.seq_k ?_; intro K hK)
  refine AW.region ?_
  refine awP (op_move rfl rfl) ?_; (try simp only [nA, Nat.reduceBEq, Nat.reduceEqDiff, ↓reduceIte, Nat.reduceAdd, Nat.reduceSub])
  (first | refine awP (op_fa_ptr rfl rfl rfl fl26_0 (by exact sz9) (by decide) rfl) ?_ | refine awP (op_fa_rop rfl rfl fl26_0 (by exact sz9) (by decide) (Nat.le_of_ble_eq_true rfl) rfl) ?_); (try simp only [nA, Nat.reduceBEq, Nat.reduceEqDiff, ↓reduceIte, Nat.reduceAdd, Nat.reduceSub])
  (first | refine awR (op_load_ptr1 rfl rfl rfl rfl ag9 rfl rfl) ?_ | refine awR (op_load_rop1 rfl rfl ag9) ?_); (try simp only [nA, Nat.reduceBEq, Nat.reduceEqDiff, ↓reduceIte, Nat.reduceAdd, Nat.reduceSub])
  refine awJ (op_call1 rfl en52 g0 (by exact rfl) (RL.cons .ptr (RL.cons (.base (by first | exact View.same rfl | exact View.nil | exact View.rof | exact View.src .ro | exact View.src .rof | exact View.src (.sl rfl rfl) | exact View.ptr rfl rfl rfl)) (RL.nil))) (by exact ⟨_, _, _, rfl, rfl, rfl⟩) (by exact rfl) (by exact rfl) (by exact rfl)) ?_; (try simp only [nA, Nat.reduceBEq, Nat.reduceEqDiff, ↓reduceIte, Nat.reduceAdd, Nat.reduceSub])
  refine AWL.nil ?_
  (refine hK _ ?_; clear hK K; (try simp only [nA, Nat.reduceBEq, Nat.reduceEqDiff, ↓reduceIte, Nat.reduceAdd, Nat.reduceSub]))
  (refine AW.seq_k ?_; intro K hK)
  refine AW.region ?_
  refine awP (op_move rfl rfl) ?_; (try simp only [nA, Nat.reduceBEq, Nat.reduceEqDiff, ↓reduceIte, Nat.reduceAdd, Nat.reduceSub])
  (first | refine awP (op_fa_ptr rfl rfl rfl fl26_1 (by exact sz3) (by decide) rfl) ?_ | refine awP (op_fa_rop rfl rfl fl26_1 (by exact sz3) (by decide) (Nat.le_of_ble_eq_true rfl) rfl) ?_); (try simp only [nA, Nat.reduceBEq, Nat.reduceEqDiff, ↓reduceIte, Nat.reduceAdd, Nat.reduceSub])
  (first | refine awR (op_load_ptr1 rfl rfl rfl rfl ag3 rfl rfl) ?_ | refine awR (op_load_rop1 rfl rfl ag3) ?_); (try simp only [nA, Nat.reduceBEq, Nat.reduceEqDiff, ↓reduceIte, Nat.reduceAdd, Nat.reduceSub])
  refine awJ (op_call1 rfl en51 g1 (by exact rfl) (RL.cons .ptr (RL.cons (.base (by first | exact View.same rfl | exact View.nil | exact View.rof | exact View.src .ro | exact View.src .rof | exact View.src (.sl rfl rfl) | exact View.ptr rfl rfl rfl)) (RL.nil))) (by exact ⟨_, _, _, rfl, rfl, rfl⟩) (by exact rfl) (by exact rfl) (by exact rfl)) ?_; (try simp only [nA, Nat.reduceBEq, Nat.reduceEqDiff, ↓reduceIte, Nat.reduceAdd, Nat.reduceSub])
  refine AWL.nil ?_
  (refine hK _ ?_; clear hK K; (try simp only [nA, Nat.reduceBEq, Nat.reduceEqDiff, ↓reduceIte, Nat.reduceAdd, Nat.reduceSub]))
  (refine AW.seq_k ?_; intro K hK)
  refine AW.region ?_
  refine awP (op_move rfl rfl) ?_; (try simp only [nA, Nat.reduceBEq, Nat.reduceEqDiff, ↓reduceIte, Nat.reduceAdd, Nat.reduceSub])
  (first | refine awP (op_fa_ptr rfl rfl rfl fl26_2 (by exact sz9) (by decide) rfl) ?_ | refine awP (op_fa_rop rfl rfl fl26_2 (by exact sz9) (by decide) (Nat.le_of_ble_eq_true rfl) rfl) ?_); (try simp only [nA, Nat.reduceBEq, Nat.reduceEqDiff, ↓reduceIte, Nat.reduceAdd, Nat.reduceSub])
  (first | refine awR (op_load_ptr1 rfl rfl rfl rfl ag9 rfl rfl) ?_ | refine awR (op_load_rop1 rfl rfl ag9) ?_); (try simp only [nA, Nat.reduceBEq, Nat.reduceEqDiff, ↓reduceIte, Nat.reduceAdd, Nat.reduceSub])
  refine awJ (op_call1 rfl en52 g2 (by exact rfl) (RL.cons .ptr (RL.cons (.base (by first | exact View.same rfl | exact View.nil | exact View.rof | exact View.src .ro | exact View.src .rof | exact View.src (.sl rfl rfl) | exact View.ptr rfl rfl rfl)) (RL.nil))) (by exact ⟨_, _, _, rfl, rfl, rfl⟩) (by exact rfl) (by exact rfl) (by exact rfl)) ?_; (try simp only [nA, Nat.reduceBEq, Nat.reduceEqDiff, ↓reduceIte, Nat.reduceAdd, Nat.reduceSub])
  refine AWL.nil ?_
  (refine hK _ ?_; clear hK K; (try simp only [nA, Nat.reduceBEq, Nat.reduceEqDiff, ↓reduceIte, Nat.reduceAdd, Nat.reduceSub]))
  refine AW.region ?_
  refine awP (op_move rfl rfl) ?_; (try simp only [nA, Nat.reduceBEq, Nat.reduceEqDiff, ↓reduceIte, Nat.reduceAdd, Nat.reduceSub])
  (first | refine awP (op_fa_ptr rfl rfl rfl fl26_3 (by exact sz3) (by decide) rfl) ?_ | refine awP (op_fa_rop rfl rfl fl26_3 (by exact sz3) (by decide) (Nat.le_of_ble_eq_true rfl) rfl) ?_); (try simp only [nA, Nat.reduceBEq, Nat.reduceEqDiff, ↓reduceIte, Nat.reduceAdd, Nat.reduceSub])
  (first | refine awR (op_load_ptr1 rfl rfl rfl rfl ag3 rfl rfl) ?_ | refine awR (op_load_rop1 rfl rfl ag3) ?_); (try simp only [nA, Nat.reduceBEq, Nat.reduceEqDiff, ↓reduceIte, Nat.reduceAdd, Nat.reduceSub])
  refine awJ (op_call1 rfl en51 g3 (by exact rfl) (RL.cons .ptr (RL.cons (.base (by first | exact View.same rfl | exact View.nil | exact View.rof | exact View.src .ro | exact View.src .rof | exact View.src (.sl rfl rfl) | exact View.ptr rfl rfl rfl)) (RL.nil))) (by exact ⟨_, _, _, rfl, rfl, rfl⟩) (by exact rfl) (by exact rfl) (by exact rfl)) ?_; (try simp only [nA, Nat.reduceBEq, Nat.reduceEqDiff, ↓reduceIte, Nat.reduceAdd, Nat.reduceSub])
  refine AWL.nil ?_
  exact RQ.of (.inr rfl) rfl .nil (by simp) rfl (one_out rfl)
theorem C59 {bs : BL} {f : Flight} (hb : bs.length ≤ 800000) (h1 : f.carrier.size ≤ 1000) (h2 : f.suffix.size ≤ 1000) : Fn Tryd.prog 59 [wB bs] [.ptr 0 0 0 0, .agg f.av] [] [wB (bs ++ eFl f)] := by
  have e : bs ++ eFl f = (((bs ++ eWd f.carrier) ++ b4 f.number) ++ eWd f.suffix) ++ b4 f.day := by simp [eFl]
  have l1 := wd_len f.carrier
  have l2 := wd_len f.suffix
  rw [e]
  exact C59v (C52 (by omega) (by omega)) (C51 (by rw [List.length_append]; omega)) (C52 (by rw [List.length_append, List.length_append, b4_len]; omega) (by omega)) (C51 (by rw [List.length_append, List.length_append, List.length_append, b4_len]; omega))
theorem C57v {b0 b1 b2 b3 : BL} {o : Op} (g0 : Fn Tryd.prog 89 [wB b0] [.ptr 0 0 0 0, .ro (([o.time, o.device, o.seq, o.kind, o.cont] : List Int).map iv)] [] [wB b1]) (g1 : Fn Tryd.prog 53 [wB b1] [.ptr 0 0 0 0, .agg o.piece.plate.av] [] [wB b2])
    (g2 : Fn Tryd.prog 89 [wB b2] [.ptr 0 0 0 0, .ro (([o.piece.weight, o.piece.category] : List Int).map iv)] [] [wB b3]) : Fn Tryd.prog 57 [wB b0] [.ptr 0 0 0 0, .agg o.av] [] [wB b3] := by
  refine Spec.body Tryd.func57 rfl Tryd.ntmps57 (by simp) rfl ?_; intro S0 own0 v0 w0 gl
  (refine AW.seq_k ?_; intro K hK)
  refine AW.region ?_
  refine awJ (op_box rfl rfl rfl sz32 rfl) ?_; (try simp only [nA, Nat.reduceBEq, Nat.reduceEqDiff, ↓reduceIte, Nat.reduceAdd, Nat.reduceSub])
  refine AWL.nil ?_
  (refine hK _ ?_; clear hK K; (try simp only [nA, Nat.reduceBEq, Nat.reduceEqDiff, ↓reduceIte, Nat.reduceAdd, Nat.reduceSub]))
  (refine AW.seq_k ?_; intro K hK)
  refine AW.region ?_
  refine awP (op_move rfl rfl) ?_; (try simp only [nA, Nat.reduceBEq, Nat.reduceEqDiff, ↓reduceIte, Nat.reduceAdd, Nat.reduceSub])
  (first | refine awP (op_fa_ptr rfl rfl rfl fl32_0 (by exact sz3) (by decide) rfl) ?_ | refine awP (op_fa_rop rfl rfl fl32_0 (by exact sz3) (by decide) (Nat.le_of_ble_eq_true rfl) rfl) ?_); (try simp only [nA, Nat.reduceBEq, Nat.reduceEqDiff, ↓reduceIte, Nat.reduceAdd, Nat.reduceSub])
  (first | refine awR (op_load_ptr1 rfl rfl rfl rfl ag3 rfl rfl) ?_ | refine awR (op_load_rop1 rfl rfl ag3) ?_); (try simp only [nA, Nat.reduceBEq, Nat.reduceEqDiff, ↓reduceIte, Nat.reduceAdd, Nat.reduceSub])
  (first | refine awP (op_fa_ptr rfl rfl rfl fl32_1 (by exact sz3) (by decide) rfl) ?_ | refine awP (op_fa_rop rfl rfl fl32_1 (by exact sz3) (by decide) (Nat.le_of_ble_eq_true rfl) rfl) ?_); (try simp only [nA, Nat.reduceBEq, Nat.reduceEqDiff, ↓reduceIte, Nat.reduceAdd, Nat.reduceSub])
  (first | refine awR (op_load_ptr1 rfl rfl rfl rfl ag3 rfl rfl) ?_ | refine awR (op_load_rop1 rfl rfl ag3) ?_); (try simp only [nA, Nat.reduceBEq, Nat.reduceEqDiff, ↓reduceIte, Nat.reduceAdd, Nat.reduceSub])
  (first | refine awP (op_fa_ptr rfl rfl rfl fl32_2 (by exact sz3) (by decide) rfl) ?_ | refine awP (op_fa_rop rfl rfl fl32_2 (by exact sz3) (by decide) (Nat.le_of_ble_eq_true rfl) rfl) ?_); (try simp only [nA, Nat.reduceBEq, Nat.reduceEqDiff, ↓reduceIte, Nat.reduceAdd, Nat.reduceSub])
  (first | refine awR (op_load_ptr1 rfl rfl rfl rfl ag3 rfl rfl) ?_ | refine awR (op_load_rop1 rfl rfl ag3) ?_); (try simp only [nA, Nat.reduceBEq, Nat.reduceEqDiff, ↓reduceIte, Nat.reduceAdd, Nat.reduceSub])
  (first | refine awP (op_fa_ptr rfl rfl rfl fl32_3 (by exact sz3) (by decide) rfl) ?_ | refine awP (op_fa_rop rfl rfl fl32_3 (by exact sz3) (by decide) (Nat.le_of_ble_eq_true rfl) rfl) ?_); (try simp only [nA, Nat.reduceBEq, Nat.reduceEqDiff, ↓reduceIte, Nat.reduceAdd, Nat.reduceSub])
  (first | refine awR (op_load_ptr1 rfl rfl rfl rfl ag3 rfl rfl) ?_ | refine awR (op_load_rop1 rfl rfl ag3) ?_); (try simp only [nA, Nat.reduceBEq, Nat.reduceEqDiff, ↓reduceIte, Nat.reduceAdd, Nat.reduceSub])
  (first | refine awP (op_fa_ptr rfl rfl rfl fl32_4 (by exact sz3) (by decide) rfl) ?_ | refine awP (op_fa_rop rfl rfl fl32_4 (by exact sz3) (by decide) (Nat.le_of_ble_eq_true rfl) rfl) ?_); (try simp only [nA, Nat.reduceBEq, Nat.reduceEqDiff, ↓reduceIte, Nat.reduceAdd, Nat.reduceSub])
  (first | refine awR (op_load_ptr1 rfl rfl rfl rfl ag3 rfl rfl) ?_ | refine awR (op_load_rop1 rfl rfl ag3) ?_); (try simp only [nA, Nat.reduceBEq, Nat.reduceEqDiff, ↓reduceIte, Nat.reduceAdd, Nat.reduceSub])
  refine awJ (OpJ.frz (op_buildSlice rfl [(0, iv o.time), (1, iv o.device), (2, iv o.seq), (3, iv o.kind), (4, iv o.cont)] (([o.time, o.device, o.seq, o.kind, o.cont] : List Int).map iv) Tryd.underlying36 ze3 rfl (by simp) (fold_dense 1 (([o.time, o.device, o.seq, o.kind, o.cont] : List Int).map iv) (iv_len _)) (iv_len _) rfl (Nat.le_of_ble_eq_true rfl) (by simp [maxLen])) (iv_flat [o.time, o.device, o.seq, o.kind, o.cont]) rfl) ?_; (try simp only [nA, Nat.reduceBEq, Nat.reduceEqDiff, ↓reduceIte, Nat.reduceAdd, Nat.reduceSub])
  refine awJ (op_call1 rfl en89 g0 (by exact rfl) (RL.cons .ptr (RL.cons (.base (by first | exact View.same rfl | exact View.nil | exact View.rof | exact View.src .ro | exact View.src .rof | exact View.src (.sl rfl rfl) | exact View.ptr rfl rfl rfl)) (RL.nil))) (by exact ⟨_, _, _, rfl, rfl, rfl⟩) (by exact rfl) (by exact rfl) (by exact rfl)) ?_; (try simp only [nA, Nat.reduceBEq, Nat.reduceEqDiff, ↓reduceIte, Nat.reduceAdd, Nat.reduceSub])
  refine AWL.nil ?_
  (refine hK _ ?_; clear hK K; (try simp only [nA, Nat.reduceBEq, Nat.reduceEqDiff, ↓reduceIte, Nat.reduceAdd, Nat.reduceSub]))
  (refine AW.seq_k ?_; intro K hK)
  refine AW.region ?_
  refine awP (op_move rfl rfl) ?_; (try simp only [nA, Nat.reduceBEq, Nat.reduceEqDiff, ↓reduceIte, Nat.reduceAdd, Nat.reduceSub])
  (first | refine awP (op_fa_ptr rfl rfl rfl fl32_5 (by exact sz30) (by decide) rfl) ?_ | refine awP (op_fa_rop rfl rfl fl32_5 (by exact sz30) (by decide) (Nat.le_of_ble_eq_true rfl) rfl) ?_); (try simp only [nA, Nat.reduceBEq, Nat.reduceEqDiff, ↓reduceIte, Nat.reduceAdd, Nat.reduceSub])
  (first | refine awP (op_fa_ptr rfl rfl rfl fl30_0 (by exact sz23) (by decide) rfl) ?_ | refine awP (op_fa_rop rfl rfl fl30_0 (by exact sz23) (by decide) (Nat.le_of_ble_eq_true rfl) rfl) ?_); (try simp only [nA, Nat.reduceBEq, Nat.reduceEqDiff, ↓reduceIte, Nat.reduceAdd, Nat.reduceSub])
  (first | refine awR (op_load_ptr rfl rfl rfl rfl ag23 sz23 (Nat.le_of_ble_eq_true rfl) rfl) ?_ | refine awR (op_load_rop rfl rfl ag23 sz23 (Nat.le_of_ble_eq_true rfl) (by decide) rfl) ?_); (try simp only [nA, Nat.reduceBEq, Nat.reduceEqDiff, ↓reduceIte, Nat.reduceAdd, Nat.reduceSub])
  refine awJ (op_call1 rfl en53 g1 (by exact rfl) (RL.cons .ptr (RL.cons (.base (by first | exact View.same rfl | exact View.nil | exact View.rof | exact View.src .ro | exact View.src .rof | exact View.src (.sl rfl rfl) | exact View.ptr rfl rfl rfl)) (RL.nil))) (by exact ⟨_, _, _, rfl, rfl, rfl⟩) (by exact rfl) (by exact rfl) (by exact rfl)) ?_; (try simp only [nA, Nat.reduceBEq, Nat.reduceEqDiff, ↓reduceIte, Nat.reduceAdd, Nat.reduceSub])
  refine AWL.nil ?_
  (refine hK _ ?_; clear hK K; (try simp only [nA, Nat.reduceBEq, Nat.reduceEqDiff, ↓reduceIte, Nat.reduceAdd, Nat.reduceSub]))
  refine AW.region ?_
  refine awP (op_move rfl rfl) ?_; (try simp only [nA, Nat.reduceBEq, Nat.reduceEqDiff, ↓reduceIte, Nat.reduceAdd, Nat.reduceSub])
  (first | refine awP (op_fa_ptr rfl rfl rfl fl32_5 (by exact sz30) (by decide) rfl) ?_ | refine awP (op_fa_rop rfl rfl fl32_5 (by exact sz30) (by decide) (Nat.le_of_ble_eq_true rfl) rfl) ?_); (try simp only [nA, Nat.reduceBEq, Nat.reduceEqDiff, ↓reduceIte, Nat.reduceAdd, Nat.reduceSub])
  (first | refine awP (op_fa_ptr rfl rfl rfl fl30_1 (by exact sz3) (by decide) rfl) ?_ | refine awP (op_fa_rop rfl rfl fl30_1 (by exact sz3) (by decide) (Nat.le_of_ble_eq_true rfl) rfl) ?_); (try simp only [nA, Nat.reduceBEq, Nat.reduceEqDiff, ↓reduceIte, Nat.reduceAdd, Nat.reduceSub])
  (first | refine awR (op_load_ptr1 rfl rfl rfl rfl ag3 rfl rfl) ?_ | refine awR (op_load_rop1 rfl rfl ag3) ?_); (try simp only [nA, Nat.reduceBEq, Nat.reduceEqDiff, ↓reduceIte, Nat.reduceAdd, Nat.reduceSub])
  (first | refine awP (op_fa_ptr rfl rfl rfl fl32_5 (by exact sz30) (by decide) rfl) ?_ | refine awP (op_fa_rop rfl rfl fl32_5 (by exact sz30) (by decide) (Nat.le_of_ble_eq_true rfl) rfl) ?_); (try simp only [nA, Nat.reduceBEq, Nat.reduceEqDiff, ↓reduceIte, Nat.reduceAdd, Nat.reduceSub])
  (first | refine awP (op_fa_ptr rfl rfl rfl fl30_2 (by exact sz3) (by decide) rfl) ?_ | refine awP (op_fa_rop rfl rfl fl30_2 (by exact sz3) (by decide) (Nat.le_of_ble_eq_true rfl) rfl) ?_); (try simp only [nA, Nat.reduceBEq, Nat.reduceEqDiff, ↓reduceIte, Nat.reduceAdd, Nat.reduceSub])
  (first | refine awR (op_load_ptr1 rfl rfl rfl rfl ag3 rfl rfl) ?_ | refine awR (op_load_rop1 rfl rfl ag3) ?_); (try simp only [nA, Nat.reduceBEq, Nat.reduceEqDiff, ↓reduceIte, Nat.reduceAdd, Nat.reduceSub])
  refine awJ (OpJ.frz (op_buildSlice rfl [(0, iv o.piece.weight), (1, iv o.piece.category)] (([o.piece.weight, o.piece.category] : List Int).map iv) Tryd.underlying36 ze3 rfl (by simp) (fold_dense 1 (([o.piece.weight, o.piece.category] : List Int).map iv) (iv_len _)) (iv_len _) rfl (Nat.le_of_ble_eq_true rfl) (by simp [maxLen])) (iv_flat [o.piece.weight, o.piece.category]) rfl) ?_; (try simp only [nA, Nat.reduceBEq, Nat.reduceEqDiff, ↓reduceIte, Nat.reduceAdd, Nat.reduceSub])
  refine awJ (op_call1 rfl en89 g2 (by exact rfl) (RL.cons .ptr (RL.cons (.base (by first | exact View.same rfl | exact View.nil | exact View.rof | exact View.src .ro | exact View.src .rof | exact View.src (.sl rfl rfl) | exact View.ptr rfl rfl rfl)) (RL.nil))) (by exact ⟨_, _, _, rfl, rfl, rfl⟩) (by exact rfl) (by exact rfl) (by exact rfl)) ?_; (try simp only [nA, Nat.reduceBEq, Nat.reduceEqDiff, ↓reduceIte, Nat.reduceAdd, Nat.reduceSub])
  refine AWL.nil ?_
  exact RQ.of (.inr rfl) rfl .nil (by simp) rfl (one_out rfl)
theorem C57 {bs : BL} {o : Op} (hb : bs.length ≤ 800000) : Fn Tryd.prog 57 [wB bs] [.ptr 0 0 0 0, .agg o.av] [] [wB (bs ++ eOp o)] := by
  have e : bs ++ eOp o = ((bs ++ ([o.time, o.device, o.seq, o.kind, o.cont] : List Int).flatMap b4) ++ ePl o.piece.plate) ++ ([o.piece.weight, o.piece.category] : List Int).flatMap b4 := by simp [eOp, ePi]
  have l1 := flat_b4 [o.time, o.device, o.seq, o.kind, o.cont]
  have l2 := pl_len o.piece.plate
  simp only [List.length_cons, List.length_nil] at l1
  rw [e]
  exact C57v (C89 (by omega) (by simp)) (C53 (by rw [List.length_append, l1]; omega)) (C89 (by rw [List.length_append, List.length_append, l1, l2]; omega) (by simp))
theorem C56v {b0 b1 b2 : BL} {x : Ev} (g0 : Fn Tryd.prog 89 [wB b0] [.ptr 0 0 0 0, .ro (([x.rev.kind, x.rev.amount] : List Int).map iv)] [] [wB b1]) (g1 : Fn Tryd.prog 59 [wB b1] [.ptr 0 0 0 0, .agg x.rev.fl.av] [] [wB b2]) : Fn Tryd.prog 56 [wB b0] [.ptr 0 0 0 0, .agg x.av] [] [wB b2] := by
  refine Spec.body Tryd.func56 rfl Tryd.ntmps56 (by simp) rfl ?_; intro S0 own0 v0 w0 gl
  (refine AW.seq_k ?_; intro K hK)
  refine AW.region ?_
  refine awJ (op_box rfl rfl rfl sz35 rfl) ?_; (try simp only [nA, Nat.reduceBEq, Nat.reduceEqDiff, ↓reduceIte, Nat.reduceAdd, Nat.reduceSub])
  refine AWL.nil ?_
  (refine hK _ ?_; clear hK K; (try simp only [nA, Nat.reduceBEq, Nat.reduceEqDiff, ↓reduceIte, Nat.reduceAdd, Nat.reduceSub]))
  (refine AW.seq_k ?_; intro K hK)
  refine AW.region ?_
  refine awP (op_move rfl rfl) ?_; (try simp only [nA, Nat.reduceBEq, Nat.reduceEqDiff, ↓reduceIte, Nat.reduceAdd, Nat.reduceSub])
  (first | refine awP (op_fa_ptr rfl rfl rfl fl35_8 (by exact sz28) (by decide) rfl) ?_ | refine awP (op_fa_rop rfl rfl fl35_8 (by exact sz28) (by decide) (Nat.le_of_ble_eq_true rfl) rfl) ?_); (try simp only [nA, Nat.reduceBEq, Nat.reduceEqDiff, ↓reduceIte, Nat.reduceAdd, Nat.reduceSub])
  (first | refine awP (op_fa_ptr rfl rfl rfl fl28_0 (by exact sz3) (by decide) rfl) ?_ | refine awP (op_fa_rop rfl rfl fl28_0 (by exact sz3) (by decide) (Nat.le_of_ble_eq_true rfl) rfl) ?_); (try simp only [nA, Nat.reduceBEq, Nat.reduceEqDiff, ↓reduceIte, Nat.reduceAdd, Nat.reduceSub])
  (first | refine awR (op_load_ptr1 rfl rfl rfl rfl ag3 rfl rfl) ?_ | refine awR (op_load_rop1 rfl rfl ag3) ?_); (try simp only [nA, Nat.reduceBEq, Nat.reduceEqDiff, ↓reduceIte, Nat.reduceAdd, Nat.reduceSub])
  (first | refine awP (op_fa_ptr rfl rfl rfl fl35_8 (by exact sz28) (by decide) rfl) ?_ | refine awP (op_fa_rop rfl rfl fl35_8 (by exact sz28) (by decide) (Nat.le_of_ble_eq_true rfl) rfl) ?_); (try simp only [nA, Nat.reduceBEq, Nat.reduceEqDiff, ↓reduceIte, Nat.reduceAdd, Nat.reduceSub])
  (first | refine awP (op_fa_ptr rfl rfl rfl fl28_1 (by exact sz3) (by decide) rfl) ?_ | refine awP (op_fa_rop rfl rfl fl28_1 (by exact sz3) (by decide) (Nat.le_of_ble_eq_true rfl) rfl) ?_); (try simp only [nA, Nat.reduceBEq, Nat.reduceEqDiff, ↓reduceIte, Nat.reduceAdd, Nat.reduceSub])
  (first | refine awR (op_load_ptr1 rfl rfl rfl rfl ag3 rfl rfl) ?_ | refine awR (op_load_rop1 rfl rfl ag3) ?_); (try simp only [nA, Nat.reduceBEq, Nat.reduceEqDiff, ↓reduceIte, Nat.reduceAdd, Nat.reduceSub])
  refine awJ (OpJ.frz (op_buildSlice rfl [(0, iv x.rev.kind), (1, iv x.rev.amount)] (([x.rev.kind, x.rev.amount] : List Int).map iv) Tryd.underlying36 ze3 rfl (by simp) (fold_dense 1 (([x.rev.kind, x.rev.amount] : List Int).map iv) (iv_len _)) (iv_len _) rfl (Nat.le_of_ble_eq_true rfl) (by simp [maxLen])) (iv_flat [x.rev.kind, x.rev.amount]) rfl) ?_; (try simp only [nA, Nat.reduceBEq, Nat.reduceEqDiff, ↓reduceIte, Nat.reduceAdd, Nat.reduceSub])
  refine awJ (op_call1 rfl en89 g0 (by exact rfl) (RL.cons .ptr (RL.cons (.base (by first | exact View.same rfl | exact View.nil | exact View.rof | exact View.src .ro | exact View.src .rof | exact View.src (.sl rfl rfl) | exact View.ptr rfl rfl rfl)) (RL.nil))) (by exact ⟨_, _, _, rfl, rfl, rfl⟩) (by exact rfl) (by exact rfl) (by exact rfl)) ?_; (try simp only [nA, Nat.reduceBEq, Nat.reduceEqDiff, ↓reduceIte, Nat.reduceAdd, Nat.reduceSub])
  refine AWL.nil ?_
  (refine hK _ ?_; clear hK K; (try simp only [nA, Nat.reduceBEq, Nat.reduceEqDiff, ↓reduceIte, Nat.reduceAdd, Nat.reduceSub]))
  refine AW.region ?_
  refine awP (op_move rfl rfl) ?_; (try simp only [nA, Nat.reduceBEq, Nat.reduceEqDiff, ↓reduceIte, Nat.reduceAdd, Nat.reduceSub])
  (first | refine awP (op_fa_ptr rfl rfl rfl fl35_8 (by exact sz28) (by decide) rfl) ?_ | refine awP (op_fa_rop rfl rfl fl35_8 (by exact sz28) (by decide) (Nat.le_of_ble_eq_true rfl) rfl) ?_); (try simp only [nA, Nat.reduceBEq, Nat.reduceEqDiff, ↓reduceIte, Nat.reduceAdd, Nat.reduceSub])
  (first | refine awP (op_fa_ptr rfl rfl rfl fl28_2 (by exact sz26) (by decide) rfl) ?_ | refine awP (op_fa_rop rfl rfl fl28_2 (by exact sz26) (by decide) (Nat.le_of_ble_eq_true rfl) rfl) ?_); (try simp only [nA, Nat.reduceBEq, Nat.reduceEqDiff, ↓reduceIte, Nat.reduceAdd, Nat.reduceSub])
  (first | refine awR (op_load_ptr rfl rfl rfl rfl ag26 sz26 (Nat.le_of_ble_eq_true rfl) rfl) ?_ | refine awR (op_load_rop rfl rfl ag26 sz26 (Nat.le_of_ble_eq_true rfl) (by decide) rfl) ?_); (try simp only [nA, Nat.reduceBEq, Nat.reduceEqDiff, ↓reduceIte, Nat.reduceAdd, Nat.reduceSub])
  refine awJ (op_call1 rfl en59 g1 (by exact rfl) (RL.cons .ptr (RL.cons (.base (by first | exact View.same rfl | exact View.nil | exact View.rof | exact View.src .ro | exact View.src .rof | exact View.src (.sl rfl rfl) | exact View.ptr rfl rfl rfl)) (RL.nil))) (by exact ⟨_, _, _, rfl, rfl, rfl⟩) (by exact rfl) (by exact rfl) (by exact rfl)) ?_; (try simp only [nA, Nat.reduceBEq, Nat.reduceEqDiff, ↓reduceIte, Nat.reduceAdd, Nat.reduceSub])
  refine AWL.nil ?_
  exact RQ.of (.inr rfl) rfl .nil (by simp) rfl (one_out rfl)
theorem C56 {bs : BL} {x : Ev} (hb : bs.length ≤ 700000) (h1 : x.rev.fl.carrier.size ≤ 1000) (h2 : x.rev.fl.suffix.size ≤ 1000) : Fn Tryd.prog 56 [wB bs] [.ptr 0 0 0 0, .agg x.av] [] [wB (bs ++ eRv x.rev)] := by
  have e : bs ++ eRv x.rev = (bs ++ ([x.rev.kind, x.rev.amount] : List Int).flatMap b4) ++ eFl x.rev.fl := by simp [eRv]
  have l1 := flat_b4 [x.rev.kind, x.rev.amount]
  simp only [List.length_cons, List.length_nil] at l1
  rw [e]
  exact C56v (C89 (by omega) (by simp)) (C59 (by rw [List.length_append, l1]; omega) h1 h2)
end Go.Proofs.YtfmnaigedgmhoaaDoor
namespace Go.Proofs.YtfmnaigedgmhoaaDoor
open Go.RowKit
set_option linter.unusedSimpArgs false
set_option linter.unusedVariables false
set_option maxRecDepth 100000
theorem take_flatG {α : Type} [Inhabited α] {e : α → BL} {bs : BL} {xs : List α} {i : Nat} (h : i < xs.length) : (bs ++ (xs.take i).flatMap e) ++ e (xs.getD i default) = bs ++ (xs.take (i + 1)).flatMap e := by
  rw [List.take_add_one, List.getElem?_eq_getElem h, getD_of h, List.flatMap_append, List.append_assoc]
  congr 2
  exact (List.append_nil _).symm
theorem flatTk {α : Type} {e : α → BL} {xs : List α} {k i : Nat} (h : ∀ x ∈ xs, (e x).length ≤ k) : ((xs.take i).flatMap e).length ≤ xs.length * k :=
  Nat.le_trans (flatB_len fun x hx => h x (List.mem_of_mem_take hx)) (Nat.mul_le_mul_right k (by rw [List.length_take]; omega))
theorem C58 {bs : BL} {x : Ev} (hb : bs.length ≤ 10000) (ho : x.ops.length ≤ 60) : Fn Tryd.prog 58 [wB bs] [.ptr 0 0 0 0, .agg x.av] [] [wB (bs ++ eLs eOp x.ops)] := by
  refine Spec.body Tryd.func58 rfl Tryd.ntmps58 (by simp) rfl ?_; intro S0 own0 v0 w0 gl
  (refine AW.seq_k ?_; intro K hK)
  refine AW.region ?_
  refine awJ (op_box rfl rfl rfl sz35 rfl) ?_; (try simp only [nA, Nat.reduceBEq, Nat.reduceEqDiff, ↓reduceIte, Nat.reduceAdd, Nat.reduceSub])
  refine AWL.nil ?_
  (refine hK _ ?_; clear hK K; (try simp only [nA, Nat.reduceBEq, Nat.reduceEqDiff, ↓reduceIte, Nat.reduceAdd, Nat.reduceSub]))
  (refine AW.seq_k ?_; intro K hK)
  refine AW.region ?_
  refine awP (op_move rfl rfl) ?_; (try simp only [nA, Nat.reduceBEq, Nat.reduceEqDiff, ↓reduceIte, Nat.reduceAdd, Nat.reduceSub])
  (first | refine awP (op_fa_ptr rfl rfl rfl fl35_11 (by exact sz33) (by decide) rfl) ?_ | refine awP (op_fa_rop rfl rfl fl35_11 (by exact sz33) (by decide) (Nat.le_of_ble_eq_true rfl) rfl) ?_); (try simp only [nA, Nat.reduceBEq, Nat.reduceEqDiff, ↓reduceIte, Nat.reduceAdd, Nat.reduceSub])
  (first | refine awR (op_load_ptr1 rfl rfl rfl rfl ag33 rfl rfl) ?_ | refine awR (op_load_rop1 rfl rfl ag33) ?_); (try simp only [nA, Nat.reduceBEq, Nat.reduceEqDiff, ↓reduceIte, Nat.reduceAdd, Nat.reduceSub])
  refine awP (op_len_ro (n := x.ops.length) rfl rfl Tryd.underlying33 (.inr (.inl ⟨_, rfl, by simp⟩))) ?_; (try simp only [nA, Nat.reduceBEq, Nat.reduceEqDiff, ↓reduceIte, Nat.reduceAdd, Nat.reduceSub])
  refine awJ (op_call1 rfl en51 (C51 (bs := bs) (n := (x.ops.length : Nat)) (by omega)) (by exact rfl) (RL.cons .ptr (RL.cons (.base (by first | exact View.same rfl | exact View.nil | exact View.rof | exact View.src .ro | exact View.src .rof | exact View.src (.sl rfl rfl) | exact View.ptr rfl rfl rfl)) (RL.nil))) (by exact ⟨_, _, _, rfl, rfl, rfl⟩) (by exact rfl) (by exact rfl) (by exact rfl)) ?_; (try simp only [nA, Nat.reduceBEq, Nat.reduceEqDiff, ↓reduceIte, Nat.reduceAdd, Nat.reduceSub])
  refine AWL.nil ?_
  (refine hK _ ?_; clear hK K; (try simp only [nA, Nat.reduceBEq, Nat.reduceEqDiff, ↓reduceIte, Nat.reduceAdd, Nat.reduceSub]))
  (refine AW.seq_k ?_; intro K hK)
  refine AW.region ?_
  (first | refine awP (op_fa_ptr rfl rfl rfl fl35_11 (by exact sz33) (by decide) rfl) ?_ | refine awP (op_fa_rop rfl rfl fl35_11 (by exact sz33) (by decide) (Nat.le_of_ble_eq_true rfl) rfl) ?_); (try simp only [nA, Nat.reduceBEq, Nat.reduceEqDiff, ↓reduceIte, Nat.reduceAdd, Nat.reduceSub])
  (first | refine awR (op_load_ptr1 rfl rfl rfl rfl ag33 rfl rfl) ?_ | refine awR (op_load_rop1 rfl rfl ag33) ?_); (try simp only [nA, Nat.reduceBEq, Nat.reduceEqDiff, ↓reduceIte, Nat.reduceAdd, Nat.reduceSub])
  refine awP (op_len_ro (n := x.ops.length) rfl rfl Tryd.underlying33 (.inr (.inl ⟨_, rfl, by simp⟩))) ?_; (try simp only [nA, Nat.reduceBEq, Nat.reduceEqDiff, ↓reduceIte, Nat.reduceAdd, Nat.reduceSub])
  refine awP (op_move rfl rfl) ?_; (try simp only [nA, Nat.reduceBEq, Nat.reduceEqDiff, ↓reduceIte, Nat.reduceAdd, Nat.reduceSub])
  refine AWL.nil ?_
  (refine hK _ ?_; clear hK K; (try simp only [nA, Nat.reduceBEq, Nat.reduceEqDiff, ↓reduceIte, Nat.reduceAdd, Nat.reduceSub]))
  refine AW.block ?_
  refine AW.loopI (fun (q : Nat × Nat) => [(0, .ptr 0 0 0 0), (12, .ro (x.ops.map Op.av)), (13, .v (.int .i64 x.ops.length)), (14, .v (.int .i64 (q.1 : Nat)))]) (fun q => ⟨[(0, wB ((bs ++ b4 (x.ops.length : Nat)) ++ (x.ops.take q.1).flatMap eOp)), (1, .own 35 [x.av])], q.2⟩) (fun q => q.1 ≤ x.ops.length) (fun q => x.ops.length - q.1) (0, 2) (by simp) ⟨rfl, rfl, rfl, rfl, trivial⟩ (by simp) ?_; rintro ⟨i, ep⟩ ρ hi; dsimp only at hi ⊢; simp only [updL]; (try simp only [nA, Nat.reduceBEq, Nat.reduceEqDiff, ↓reduceIte, Nat.reduceAdd, Nat.reduceSub]); have hfl := flatTk (xs := x.ops) (e := eOp) (k := 40) (i := i) fun o _ => by rw [op_len]; omega
  (refine AW.seq_k ?_; intro K hK)
  refine AW.region ?_
  refine awP (op_lss rfl rfl rfl) ?_; (try simp only [nA, Nat.reduceBEq, Nat.reduceEqDiff, ↓reduceIte, Nat.reduceAdd, Nat.reduceSub])
  refine AWL.nil ?_
  (refine hK _ ?_; clear hK K; (try simp only [nA, Nat.reduceBEq, Nat.reduceEqDiff, ↓reduceIte, Nat.reduceAdd, Nat.reduceSub]))
  (refine AW.seq_k ?_; intro K hK)
  refine AW.cond rfl rfl rfl (fun hc => ?_) (fun hc => ?_)
  ·
   (skip); have hc1 := hc; have hlt : i < x.ops.length := (by simpa using hc1)
   refine AW.skip ?_
   (refine hK _ ?_; clear hK K; (try simp only [nA, Nat.reduceBEq, Nat.reduceEqDiff, ↓reduceIte, Nat.reduceAdd, Nat.reduceSub]))
   (refine AW.seq_k ?_; intro K hK)
   refine AW.block ?_
   (refine AW.seq_k ?_; intro K hK)
   refine AW.region ?_
   refine awP (op_ia_ro i rfl (.inl rfl) rfl Tryd.underlying33 rfl (get_mapD (by omega)) (by exact sz32) (Nat.le_of_ble_eq_true rfl)) ?_; (try simp only [nA, Nat.reduceBEq, Nat.reduceEqDiff, ↓reduceIte, Nat.reduceAdd, Nat.reduceSub])
   (first | refine awR (op_load_ptr rfl rfl rfl rfl ag32 sz32 (Nat.le_of_ble_eq_true rfl) rfl) ?_ | refine awR (op_load_rop rfl rfl ag32 sz32 (Nat.le_of_ble_eq_true rfl) (by decide) rfl) ?_); (try simp only [nA, Nat.reduceBEq, Nat.reduceEqDiff, ↓reduceIte, Nat.reduceAdd, Nat.reduceSub])
   refine awJ (op_alloc rfl ze32 rfl) ?_; (try simp only [nA, Nat.reduceBEq, Nat.reduceEqDiff, ↓reduceIte, Nat.reduceAdd, Nat.reduceSub])
   refine awJ (op_store rfl rfl rfl rfl rfl rfl sz32 rfl (Nat.le_of_ble_eq_true rfl) rfl) ?_; (try simp only [nA, Nat.reduceBEq, Nat.reduceEqDiff, ↓reduceIte, Nat.reduceAdd, Nat.reduceSub])
   refine AWL.nil ?_
   (refine hK _ ?_; clear hK K; (try simp only [nA, Nat.reduceBEq, Nat.reduceEqDiff, ↓reduceIte, Nat.reduceAdd, Nat.reduceSub]))
   refine AW.region ?_
   refine awP (op_move rfl rfl) ?_; (try simp only [nA, Nat.reduceBEq, Nat.reduceEqDiff, ↓reduceIte, Nat.reduceAdd, Nat.reduceSub])
   (first | refine awR (op_load_ptr rfl rfl rfl rfl ag32 sz32 (Nat.le_of_ble_eq_true rfl) rfl) ?_ | refine awR (op_load_rop rfl rfl ag32 sz32 (Nat.le_of_ble_eq_true rfl) (by decide) rfl) ?_); (try simp only [nA, Nat.reduceBEq, Nat.reduceEqDiff, ↓reduceIte, Nat.reduceAdd, Nat.reduceSub])
   refine awJ (op_call1 rfl en57 (C57 (bs := (bs ++ b4 (x.ops.length : Nat)) ++ (x.ops.take i).flatMap eOp) (o := x.ops.getD i default) (by rw [List.length_append, List.length_append, b4_len]; omega)) (by exact rfl) (RL.cons .ptr (RL.cons (.base (by first | exact View.same rfl | exact View.nil | exact View.rof | exact View.src .ro | exact View.src .rof | exact View.src (.sl rfl rfl) | exact View.ptr rfl rfl rfl)) (RL.nil))) (by exact ⟨_, _, _, rfl, rfl, rfl⟩) (by exact rfl) (by exact rfl) (by exact rfl)) ?_; (try simp only [nA, Nat.reduceBEq, Nat.reduceEqDiff, ↓reduceIte, Nat.reduceAdd, Nat.reduceSub])
   refine AWL.nil ?_
   (try simp only [thenE, inBlk, Nat.reduceEqDiff, ↓reduceIte])
   (refine hK _ ?_; clear hK K; (try simp only [nA, Nat.reduceBEq, Nat.reduceEqDiff, ↓reduceIte, Nat.reduceAdd, Nat.reduceSub]))
   refine AW.region ?_
   (first | refine awP (op_addi rfl rfl rfl (by omega)) ?_ | refine awP (op_add rfl rfl rfl rfl) ?_); (try simp only [nA, Nat.reduceBEq, Nat.reduceEqDiff, ↓reduceIte, Nat.reduceAdd, Nat.reduceSub])
   refine awP (op_move rfl rfl) ?_; (try simp only [nA, Nat.reduceBEq, Nat.reduceEqDiff, ↓reduceIte, Nat.reduceAdd, Nat.reduceSub])
   refine AWL.gh (Gh.drop 2) ?_; (try simp only [nA, Nat.reduceBEq, Nat.reduceEqDiff, ↓reduceIte, Nat.reduceAdd, Nat.reduceSub])
   refine AWL.nil ?_
   refine ⟨(i + 1, _), by dsimp only; omega, by dsimp only; omega, ⟨rfl, rfl, rfl, by dsimp only; exact congrArg (fun z => AV.v (.int .i64 z)) (by omega), trivial⟩, congrArg (fun z => (⟨[(0, wB z), (1, .own 35 [x.av])], _⟩ : Sl)) (take_flatG hlt), (by first | rfl | trivial)⟩
  ·
   (skip); have hc1 := hc; have hnl : ¬ i < x.ops.length := (by simpa using hc1); rw [show x.ops.take i = x.ops from List.take_of_length_le (by omega)]
   refine AW.exit ?_; (try simp only [thenE, inBlk, Nat.reduceEqDiff, ↓reduceIte])
   clear hK K
   show RQ _ _ _ _ _ _; rw [show bs ++ eLs eOp x.ops = (bs ++ b4 (x.ops.length : Nat)) ++ x.ops.flatMap eOp by simp [eLs]]; exact RQ.of (.inr rfl) rfl .nil (by simp) rfl (one_out rfl)
theorem C55 {bs : BL} {x : Ev} (hb : bs.length ≤ 10000) (hr : x.reports.length ≤ 24) (hp : x.reports.all rpB = true) : Fn Tryd.prog 55 [wB bs] [.ptr 0 0 0 0, .agg x.av] [] [wB (bs ++ eLs eRp x.reports)] := by
  refine Spec.body Tryd.func55 rfl Tryd.ntmps55 (by simp) rfl ?_; intro S0 own0 v0 w0 gl
  (refine AW.seq_k ?_; intro K hK)
  refine AW.region ?_
  refine awJ (op_box rfl rfl rfl sz35 rfl) ?_; (try simp only [nA, Nat.reduceBEq, Nat.reduceEqDiff, ↓reduceIte, Nat.reduceAdd, Nat.reduceSub])
  refine AWL.nil ?_
  (refine hK _ ?_; clear hK K; (try simp only [nA, Nat.reduceBEq, Nat.reduceEqDiff, ↓reduceIte, Nat.reduceAdd, Nat.reduceSub]))
  (refine AW.seq_k ?_; intro K hK)
  refine AW.region ?_
  refine awP (op_move rfl rfl) ?_; (try simp only [nA, Nat.reduceBEq, Nat.reduceEqDiff, ↓reduceIte, Nat.reduceAdd, Nat.reduceSub])
  (first | refine awP (op_fa_ptr rfl rfl rfl fl35_7 (by exact sz24) (by decide) rfl) ?_ | refine awP (op_fa_rop rfl rfl fl35_7 (by exact sz24) (by decide) (Nat.le_of_ble_eq_true rfl) rfl) ?_); (try simp only [nA, Nat.reduceBEq, Nat.reduceEqDiff, ↓reduceIte, Nat.reduceAdd, Nat.reduceSub])
  (first | refine awR (op_load_ptr1 rfl rfl rfl rfl ag24 rfl rfl) ?_ | refine awR (op_load_rop1 rfl rfl ag24) ?_); (try simp only [nA, Nat.reduceBEq, Nat.reduceEqDiff, ↓reduceIte, Nat.reduceAdd, Nat.reduceSub])
  refine awP (op_len_ro (n := x.reports.length) rfl rfl Tryd.underlying24 (.inr (.inl ⟨_, rfl, by simp⟩))) ?_; (try simp only [nA, Nat.reduceBEq, Nat.reduceEqDiff, ↓reduceIte, Nat.reduceAdd, Nat.reduceSub])
  refine awJ (op_call1 rfl en51 (C51 (bs := bs) (n := (x.reports.length : Nat)) (by omega)) (by exact rfl) (RL.cons .ptr (RL.cons (.base (by first | exact View.same rfl | exact View.nil | exact View.rof | exact View.src .ro | exact View.src .rof | exact View.src (.sl rfl rfl) | exact View.ptr rfl rfl rfl)) (RL.nil))) (by exact ⟨_, _, _, rfl, rfl, rfl⟩) (by exact rfl) (by exact rfl) (by exact rfl)) ?_; (try simp only [nA, Nat.reduceBEq, Nat.reduceEqDiff, ↓reduceIte, Nat.reduceAdd, Nat.reduceSub])
  refine AWL.nil ?_
  (refine hK _ ?_; clear hK K; (try simp only [nA, Nat.reduceBEq, Nat.reduceEqDiff, ↓reduceIte, Nat.reduceAdd, Nat.reduceSub]))
  (refine AW.seq_k ?_; intro K hK)
  refine AW.region ?_
  (first | refine awP (op_fa_ptr rfl rfl rfl fl35_7 (by exact sz24) (by decide) rfl) ?_ | refine awP (op_fa_rop rfl rfl fl35_7 (by exact sz24) (by decide) (Nat.le_of_ble_eq_true rfl) rfl) ?_); (try simp only [nA, Nat.reduceBEq, Nat.reduceEqDiff, ↓reduceIte, Nat.reduceAdd, Nat.reduceSub])
  (first | refine awR (op_load_ptr1 rfl rfl rfl rfl ag24 rfl rfl) ?_ | refine awR (op_load_rop1 rfl rfl ag24) ?_); (try simp only [nA, Nat.reduceBEq, Nat.reduceEqDiff, ↓reduceIte, Nat.reduceAdd, Nat.reduceSub])
  refine awP (op_len_ro (n := x.reports.length) rfl rfl Tryd.underlying24 (.inr (.inl ⟨_, rfl, by simp⟩))) ?_; (try simp only [nA, Nat.reduceBEq, Nat.reduceEqDiff, ↓reduceIte, Nat.reduceAdd, Nat.reduceSub])
  refine awP (op_move rfl rfl) ?_; (try simp only [nA, Nat.reduceBEq, Nat.reduceEqDiff, ↓reduceIte, Nat.reduceAdd, Nat.reduceSub])
  refine AWL.nil ?_
  (refine hK _ ?_; clear hK K; (try simp only [nA, Nat.reduceBEq, Nat.reduceEqDiff, ↓reduceIte, Nat.reduceAdd, Nat.reduceSub]))
  refine AW.block ?_
  refine AW.loopI (fun (q : Nat × Nat) => [(0, .ptr 0 0 0 0), (12, .ro (x.reports.map Report.av)), (13, .v (.int .i64 x.reports.length)), (14, .v (.int .i64 (q.1 : Nat)))]) (fun q => ⟨[(0, wB ((bs ++ b4 (x.reports.length : Nat)) ++ (x.reports.take q.1).flatMap eRp)), (1, .own 35 [x.av])], q.2⟩) (fun q => q.1 ≤ x.reports.length) (fun q => x.reports.length - q.1) (0, 2) (by simp) ⟨rfl, rfl, rfl, rfl, trivial⟩ (by simp) ?_; rintro ⟨i, ep⟩ ρ hi; dsimp only at hi ⊢; simp only [updL]; (try simp only [nA, Nat.reduceBEq, Nat.reduceEqDiff, ↓reduceIte, Nat.reduceAdd, Nat.reduceSub]); have hfl := flatTk (xs := x.reports) (e := eRp) (k := 19) (i := i) fun r hr => rp_len (List.all_eq_true.1 hp r hr)
  (refine AW.seq_k ?_; intro K hK)
  refine AW.region ?_
  refine awP (op_lss rfl rfl rfl) ?_; (try simp only [nA, Nat.reduceBEq, Nat.reduceEqDiff, ↓reduceIte, Nat.reduceAdd, Nat.reduceSub])
  refine AWL.nil ?_
  (refine hK _ ?_; clear hK K; (try simp only [nA, Nat.reduceBEq, Nat.reduceEqDiff, ↓reduceIte, Nat.reduceAdd, Nat.reduceSub]))
  (refine AW.seq_k ?_; intro K hK)
  refine AW.cond rfl rfl rfl (fun hc => ?_) (fun hc => ?_)
  ·
   (skip); have hc1 := hc; have hlt : i < x.reports.length := (by simpa using hc1); have hrd : (x.reports.getD i default).read.size ≤ 10 := (rp_good (List.all_eq_true.1 hp _ (by rw [getD_of hlt]; exact List.getElem_mem hlt))).2; have hcl : (((bs ++ b4 (x.reports.length : Nat)) ++ (x.reports.take i).flatMap eRp)).length ≤ 10000 + 4 + 24 * 19 := (by rw [List.length_append, List.length_append, b4_len]; omega); obtain ⟨rv, hrv⟩ : ∃ rv, rv = (x.reports.getD i default) := ⟨_, rfl⟩; rw [← hrv] at hrd; obtain ⟨cb, hcb⟩ : ∃ cb, cb = ((bs ++ b4 (x.reports.length : Nat)) ++ (x.reports.take i).flatMap eRp) := ⟨_, rfl⟩; rw [← hcb] at hcl; have g0 := C51 (bs := cb) (n := rv.device) (by omega); have g1 := C54 (bs := cb ++ b4 rv.device) (yes := rv.seen) (by rw [List.length_append, b4_len]; omega); have g2 := C52 (bs := (cb ++ b4 rv.device) ++ eTr rv.seen) (s := rv.read) (by rw [List.length_append, List.length_append, b4_len]; show _ + 1 ≤ _; omega) (by omega); generalize hB1 : cb ++ b4 rv.device = B1 at g0 g1 g2; generalize hB2 : B1 ++ eTr rv.seen = B2 at g1 g2; generalize hB3 : B2 ++ eWd rv.read = B3 at g2; have hB : B3 = (bs ++ b4 (x.reports.length : Nat)) ++ (x.reports.take (i + 1)).flatMap eRp := (by rw [← take_flatG hlt, ← hB3, ← hB2, ← hB1, hcb, ← hrv]; simp [eRp]); rw [hcb, hrv] at *
   refine AW.skip ?_
   (refine hK _ ?_; clear hK K; (try simp only [nA, Nat.reduceBEq, Nat.reduceEqDiff, ↓reduceIte, Nat.reduceAdd, Nat.reduceSub]))
   (refine AW.seq_k ?_; intro K hK)
   refine AW.block ?_
   (refine AW.seq_k ?_; intro K hK)
   refine AW.region ?_
   refine awP (op_ia_ro i rfl (.inl rfl) rfl Tryd.underlying24 rfl (get_mapD (by omega)) (by exact sz66) (Nat.le_of_ble_eq_true rfl)) ?_; (try simp only [nA, Nat.reduceBEq, Nat.reduceEqDiff, ↓reduceIte, Nat.reduceAdd, Nat.reduceSub])
   (first | refine awR (op_load_ptr rfl rfl rfl rfl ag66 sz66 (Nat.le_of_ble_eq_true rfl) rfl) ?_ | refine awR (op_load_rop rfl rfl ag66 sz66 (Nat.le_of_ble_eq_true rfl) (by decide) rfl) ?_); (try simp only [nA, Nat.reduceBEq, Nat.reduceEqDiff, ↓reduceIte, Nat.reduceAdd, Nat.reduceSub])
   refine awJ (op_alloc rfl ze66 rfl) ?_; (try simp only [nA, Nat.reduceBEq, Nat.reduceEqDiff, ↓reduceIte, Nat.reduceAdd, Nat.reduceSub])
   refine awJ (op_store rfl rfl rfl rfl rfl rfl sz66 rfl (Nat.le_of_ble_eq_true rfl) rfl) ?_; (try simp only [nA, Nat.reduceBEq, Nat.reduceEqDiff, ↓reduceIte, Nat.reduceAdd, Nat.reduceSub])
   refine AWL.nil ?_
   (refine hK _ ?_; clear hK K; (try simp only [nA, Nat.reduceBEq, Nat.reduceEqDiff, ↓reduceIte, Nat.reduceAdd, Nat.reduceSub]))
   (refine AW.seq_k ?_; intro K hK)
   refine AW.region ?_
   refine awP (op_move rfl rfl) ?_; (try simp only [nA, Nat.reduceBEq, Nat.reduceEqDiff, ↓reduceIte, Nat.reduceAdd, Nat.reduceSub])
   (first | refine awP (op_fa_ptr rfl rfl rfl fl66_0 (by exact sz3) (by decide) rfl) ?_ | refine awP (op_fa_rop rfl rfl fl66_0 (by exact sz3) (by decide) (Nat.le_of_ble_eq_true rfl) rfl) ?_); (try simp only [nA, Nat.reduceBEq, Nat.reduceEqDiff, ↓reduceIte, Nat.reduceAdd, Nat.reduceSub])
   (first | refine awR (op_load_ptr1 rfl rfl rfl rfl ag3 rfl rfl) ?_ | refine awR (op_load_rop1 rfl rfl ag3) ?_); (try simp only [nA, Nat.reduceBEq, Nat.reduceEqDiff, ↓reduceIte, Nat.reduceAdd, Nat.reduceSub])
   refine awJ (op_call1 rfl en51 g0 (by exact rfl) (RL.cons .ptr (RL.cons (.base (by first | exact View.same rfl | exact View.nil | exact View.rof | exact View.src .ro | exact View.src .rof | exact View.src (.sl rfl rfl) | exact View.ptr rfl rfl rfl)) (RL.nil))) (by exact ⟨_, _, _, rfl, rfl, rfl⟩) (by exact rfl) (by exact rfl) (by exact rfl)) ?_; (try simp only [nA, Nat.reduceBEq, Nat.reduceEqDiff, ↓reduceIte, Nat.reduceAdd, Nat.reduceSub])
   refine AWL.nil ?_
   (refine hK _ ?_; clear hK K; (try simp only [nA, Nat.reduceBEq, Nat.reduceEqDiff, ↓reduceIte, Nat.reduceAdd, Nat.reduceSub]))
   (refine AW.seq_k ?_; intro K hK)
   refine AW.region ?_
   refine awP (op_move rfl rfl) ?_; (try simp only [nA, Nat.reduceBEq, Nat.reduceEqDiff, ↓reduceIte, Nat.reduceAdd, Nat.reduceSub])
   (first | refine awP (op_fa_ptr rfl rfl rfl fl66_1 (by exact sz4) (by decide) rfl) ?_ | refine awP (op_fa_rop rfl rfl fl66_1 (by exact sz4) (by decide) (Nat.le_of_ble_eq_true rfl) rfl) ?_); (try simp only [nA, Nat.reduceBEq, Nat.reduceEqDiff, ↓reduceIte, Nat.reduceAdd, Nat.reduceSub])
   (first | refine awR (op_load_ptr1 rfl rfl rfl rfl ag4 rfl rfl) ?_ | refine awR (op_load_rop1 rfl rfl ag4) ?_); (try simp only [nA, Nat.reduceBEq, Nat.reduceEqDiff, ↓reduceIte, Nat.reduceAdd, Nat.reduceSub])
   refine awJ (op_call1 rfl en54 g1 (by exact rfl) (RL.cons .ptr (RL.cons (.base (by first | exact View.same rfl | exact View.nil | exact View.rof | exact View.src .ro | exact View.src .rof | exact View.src (.sl rfl rfl) | exact View.ptr rfl rfl rfl)) (RL.nil))) (by exact ⟨_, _, _, rfl, rfl, rfl⟩) (by exact rfl) (by exact rfl) (by exact rfl)) ?_; (try simp only [nA, Nat.reduceBEq, Nat.reduceEqDiff, ↓reduceIte, Nat.reduceAdd, Nat.reduceSub])
   refine AWL.nil ?_
   (refine hK _ ?_; clear hK K; (try simp only [nA, Nat.reduceBEq, Nat.reduceEqDiff, ↓reduceIte, Nat.reduceAdd, Nat.reduceSub]))
   refine AW.region ?_
   refine awP (op_move rfl rfl) ?_; (try simp only [nA, Nat.reduceBEq, Nat.reduceEqDiff, ↓reduceIte, Nat.reduceAdd, Nat.reduceSub])
   (first | refine awP (op_fa_ptr rfl rfl rfl fl66_2 (by exact sz9) (by decide) rfl) ?_ | refine awP (op_fa_rop rfl rfl fl66_2 (by exact sz9) (by decide) (Nat.le_of_ble_eq_true rfl) rfl) ?_); (try simp only [nA, Nat.reduceBEq, Nat.reduceEqDiff, ↓reduceIte, Nat.reduceAdd, Nat.reduceSub])
   (first | refine awR (op_load_ptr1 rfl rfl rfl rfl ag9 rfl rfl) ?_ | refine awR (op_load_rop1 rfl rfl ag9) ?_); (try simp only [nA, Nat.reduceBEq, Nat.reduceEqDiff, ↓reduceIte, Nat.reduceAdd, Nat.reduceSub])
   refine awJ (op_call1 rfl en52 g2 (by exact rfl) (RL.cons .ptr (RL.cons (.base (by first | exact View.same rfl | exact View.nil | exact View.rof | exact View.src .ro | exact View.src .rof | exact View.src (.sl rfl rfl) | exact View.ptr rfl rfl rfl)) (RL.nil))) (by exact ⟨_, _, _, rfl, rfl, rfl⟩) (by exact rfl) (by exact rfl) (by exact rfl)) ?_; (try simp only [nA, Nat.reduceBEq, Nat.reduceEqDiff, ↓reduceIte, Nat.reduceAdd, Nat.reduceSub])
   refine AWL.nil ?_
   (try simp only [thenE, inBlk, Nat.reduceEqDiff, ↓reduceIte])
   (refine hK _ ?_; clear hK K; (try simp only [nA, Nat.reduceBEq, Nat.reduceEqDiff, ↓reduceIte, Nat.reduceAdd, Nat.reduceSub]))
   refine AW.region ?_
   (first | refine awP (op_addi rfl rfl rfl (by omega)) ?_ | refine awP (op_add rfl rfl rfl rfl) ?_); (try simp only [nA, Nat.reduceBEq, Nat.reduceEqDiff, ↓reduceIte, Nat.reduceAdd, Nat.reduceSub])
   refine awP (op_move rfl rfl) ?_; (try simp only [nA, Nat.reduceBEq, Nat.reduceEqDiff, ↓reduceIte, Nat.reduceAdd, Nat.reduceSub])
   refine AWL.gh (Gh.drop 2) ?_; (try simp only [nA, Nat.reduceBEq, Nat.reduceEqDiff, ↓reduceIte, Nat.reduceAdd, Nat.reduceSub])
   refine AWL.nil ?_
   refine ⟨(i + 1, _), by dsimp only; omega, by dsimp only; omega, ⟨rfl, rfl, rfl, by dsimp only; exact congrArg (fun z => AV.v (.int .i64 z)) (by omega), trivial⟩, congrArg (fun z => (⟨[(0, wB z), (1, .own 35 [x.av])], _⟩ : Sl)) hB, (by first | rfl | trivial)⟩
  ·
   (skip); have hc1 := hc; have hnl : ¬ i < x.reports.length := (by simpa using hc1); rw [show x.reports.take i = x.reports from List.take_of_length_le (by omega)]
   refine AW.exit ?_; (try simp only [thenE, inBlk, Nat.reduceEqDiff, ↓reduceIte])
   clear hK K
   show RQ _ _ _ _ _ _; rw [show bs ++ eLs eRp x.reports = (bs ++ b4 (x.reports.length : Nat)) ++ x.reports.flatMap eRp by simp [eLs]]; exact RQ.of (.inr rfl) rfl .nil (by simp) rfl (one_out rfl)
structure Ev.Wr (x : Ev) (p : Nat) : Prop where
  t : x.text.size ≤ 2048
  r : x.reports.length ≤ 24
  o : x.ops.length ≤ 60
  pr : prB x p = true
theorem ePart_rest {x : Ev} {p : Nat} (h : 12 ≤ p) : ePart x p = [] := by
  obtain ⟨n, rfl⟩ : ∃ n, p = n + 12 := ⟨p - 12, by omega⟩
  rfl
theorem C30 {bs : BL} {x : Ev} {p : Nat} (hb : bs.length ≤ 10000) (hx : x.Wr p) : Fn Tryd.prog 30 [wB bs] [.ptr 0 0 0 0, .agg x.av, .v (.int .i64 (p : Nat))] [] [wB (bs ++ ePart x p)] := by
  refine Spec.body Tryd.func30 rfl Tryd.ntmps30 (by simp) rfl ?_; intro S0 own0 v0 w0 gl
  (refine AW.seq_k ?_; intro K hK)
  refine AW.region ?_
  refine awJ (op_box rfl rfl rfl sz35 rfl) ?_; (try simp only [nA, Nat.reduceBEq, Nat.reduceEqDiff, ↓reduceIte, Nat.reduceAdd, Nat.reduceSub])
  refine AWL.nil ?_
  (refine hK _ ?_; clear hK K; (try simp only [nA, Nat.reduceBEq, Nat.reduceEqDiff, ↓reduceIte, Nat.reduceAdd, Nat.reduceSub]))
  (refine AW.seq_k ?_; intro K hK)
  refine AW.region ?_
  refine awP (op_move rfl rfl) ?_; (try simp only [nA, Nat.reduceBEq, Nat.reduceEqDiff, ↓reduceIte, Nat.reduceAdd, Nat.reduceSub])
  refine AWL.nil ?_
  (refine hK _ ?_; clear hK K; (try simp only [nA, Nat.reduceBEq, Nat.reduceEqDiff, ↓reduceIte, Nat.reduceAdd, Nat.reduceSub]))
  refine AW.block ?_
  (refine AW.seq_k ?_; intro K hK)
  refine AW.region ?_
  (first | refine awP (op_eql rfl rfl rfl) ?_ | refine awP (op_seql rfl rfl rfl) ?_); (try simp only [nA, Nat.reduceBEq, Nat.reduceEqDiff, ↓reduceIte, Nat.reduceAdd, Nat.reduceSub])
  refine awP (op_assign rfl rfl) ?_; (try simp only [nA, Nat.reduceBEq, Nat.reduceEqDiff, ↓reduceIte, Nat.reduceAdd, Nat.reduceSub])
  refine AWL.nil ?_
  (refine hK _ ?_; clear hK K; (try simp only [nA, Nat.reduceBEq, Nat.reduceEqDiff, ↓reduceIte, Nat.reduceAdd, Nat.reduceSub]))
  refine AW.cond rfl rfl rfl (fun hc => ?_) (fun hc => ?_)
  ·
   (skip); have hc1 := hc; obtain rfl : p = 0 := (by have := of_decide_eq_true hc1; omega); have hpr := hx.pr
   refine AW.region ?_
   refine awP (op_move rfl rfl) ?_; (try simp only [nA, Nat.reduceBEq, Nat.reduceEqDiff, ↓reduceIte, Nat.reduceAdd, Nat.reduceSub])
   (first | refine awP (op_fa_ptr rfl rfl rfl fl35_1 (by exact sz3) (by decide) rfl) ?_ | refine awP (op_fa_rop rfl rfl fl35_1 (by exact sz3) (by decide) (Nat.le_of_ble_eq_true rfl) rfl) ?_); (try simp only [nA, Nat.reduceBEq, Nat.reduceEqDiff, ↓reduceIte, Nat.reduceAdd, Nat.reduceSub])
   (first | refine awR (op_load_ptr1 rfl rfl rfl rfl ag3 rfl rfl) ?_ | refine awR (op_load_rop1 rfl rfl ag3) ?_); (try simp only [nA, Nat.reduceBEq, Nat.reduceEqDiff, ↓reduceIte, Nat.reduceAdd, Nat.reduceSub])
   refine awJ (op_call1 rfl en51 (C51 (bs := bs) (n := x.time) (by omega)) (by exact rfl) (RL.cons .ptr (RL.cons (.base (by first | exact View.same rfl | exact View.nil | exact View.rof | exact View.src .ro | exact View.src .rof | exact View.src (.sl rfl rfl) | exact View.ptr rfl rfl rfl)) (RL.nil))) (by exact ⟨_, _, _, rfl, rfl, rfl⟩) (by exact rfl) (by exact rfl) (by exact rfl)) ?_; (try simp only [nA, Nat.reduceBEq, Nat.reduceEqDiff, ↓reduceIte, Nat.reduceAdd, Nat.reduceSub])
   refine AWL.nil ?_
   (try simp only [thenE, inBlk, Nat.reduceEqDiff, ↓reduceIte])
   exact RQ.of (.inr rfl) rfl .nil (by simp) rfl (one_out rfl)
  ·
   (skip); have hc1 := hc; skip
   (refine AW.seq_k ?_; intro K hK)
   refine AW.region ?_
   (first | refine awP (op_eql rfl rfl rfl) ?_ | refine awP (op_seql rfl rfl rfl) ?_); (try simp only [nA, Nat.reduceBEq, Nat.reduceEqDiff, ↓reduceIte, Nat.reduceAdd, Nat.reduceSub])
   refine awP (op_assign rfl rfl) ?_; (try simp only [nA, Nat.reduceBEq, Nat.reduceEqDiff, ↓reduceIte, Nat.reduceAdd, Nat.reduceSub])
   refine AWL.nil ?_
   (refine hK _ ?_; clear hK K; (try simp only [nA, Nat.reduceBEq, Nat.reduceEqDiff, ↓reduceIte, Nat.reduceAdd, Nat.reduceSub]))
   refine AW.cond rfl rfl rfl (fun hc => ?_) (fun hc => ?_)
   ·
    (skip); have hc2 := hc; obtain rfl : p = 1 := (by have := of_decide_eq_true hc2; omega); have hpr := hx.pr
    refine AW.region ?_
    refine awP (op_move rfl rfl) ?_; (try simp only [nA, Nat.reduceBEq, Nat.reduceEqDiff, ↓reduceIte, Nat.reduceAdd, Nat.reduceSub])
    (first | refine awP (op_fa_ptr rfl rfl rfl fl35_2 (by exact sz9) (by decide) rfl) ?_ | refine awP (op_fa_rop rfl rfl fl35_2 (by exact sz9) (by decide) (Nat.le_of_ble_eq_true rfl) rfl) ?_); (try simp only [nA, Nat.reduceBEq, Nat.reduceEqDiff, ↓reduceIte, Nat.reduceAdd, Nat.reduceSub])
    (first | refine awR (op_load_ptr1 rfl rfl rfl rfl ag9 rfl rfl) ?_ | refine awR (op_load_rop1 rfl rfl ag9) ?_); (try simp only [nA, Nat.reduceBEq, Nat.reduceEqDiff, ↓reduceIte, Nat.reduceAdd, Nat.reduceSub])
    refine awJ (op_call1 rfl en52 (C52 (bs := bs) (s := x.text) (by omega) (by have := hx.t; omega)) (by exact rfl) (RL.cons .ptr (RL.cons (.base (by first | exact View.same rfl | exact View.nil | exact View.rof | exact View.src .ro | exact View.src .rof | exact View.src (.sl rfl rfl) | exact View.ptr rfl rfl rfl)) (RL.nil))) (by exact ⟨_, _, _, rfl, rfl, rfl⟩) (by exact rfl) (by exact rfl) (by exact rfl)) ?_; (try simp only [nA, Nat.reduceBEq, Nat.reduceEqDiff, ↓reduceIte, Nat.reduceAdd, Nat.reduceSub])
    refine AWL.nil ?_
    (try simp only [thenE, inBlk, Nat.reduceEqDiff, ↓reduceIte])
    exact RQ.of (.inr rfl) rfl .nil (by simp) rfl (one_out rfl)
   ·
    (skip); have hc2 := hc; skip
    (refine AW.seq_k ?_; intro K hK)
    refine AW.region ?_
    (first | refine awP (op_eql rfl rfl rfl) ?_ | refine awP (op_seql rfl rfl rfl) ?_); (try simp only [nA, Nat.reduceBEq, Nat.reduceEqDiff, ↓reduceIte, Nat.reduceAdd, Nat.reduceSub])
    refine awP (op_assign rfl rfl) ?_; (try simp only [nA, Nat.reduceBEq, Nat.reduceEqDiff, ↓reduceIte, Nat.reduceAdd, Nat.reduceSub])
    refine AWL.nil ?_
    (refine hK _ ?_; clear hK K; (try simp only [nA, Nat.reduceBEq, Nat.reduceEqDiff, ↓reduceIte, Nat.reduceAdd, Nat.reduceSub]))
    refine AW.cond rfl rfl rfl (fun hc => ?_) (fun hc => ?_)
    ·
     (skip); have hc3 := hc; obtain rfl : p = 2 := (by have := of_decide_eq_true hc3; omega); have hpr := hx.pr
     refine AW.region ?_
     refine awP (op_move rfl rfl) ?_; (try simp only [nA, Nat.reduceBEq, Nat.reduceEqDiff, ↓reduceIte, Nat.reduceAdd, Nat.reduceSub])
     (first | refine awP (op_fa_ptr rfl rfl rfl fl35_3 (by exact sz23) (by decide) rfl) ?_ | refine awP (op_fa_rop rfl rfl fl35_3 (by exact sz23) (by decide) (Nat.le_of_ble_eq_true rfl) rfl) ?_); (try simp only [nA, Nat.reduceBEq, Nat.reduceEqDiff, ↓reduceIte, Nat.reduceAdd, Nat.reduceSub])
     (first | refine awR (op_load_ptr rfl rfl rfl rfl ag23 sz23 (Nat.le_of_ble_eq_true rfl) rfl) ?_ | refine awR (op_load_rop rfl rfl ag23 sz23 (Nat.le_of_ble_eq_true rfl) (by decide) rfl) ?_); (try simp only [nA, Nat.reduceBEq, Nat.reduceEqDiff, ↓reduceIte, Nat.reduceAdd, Nat.reduceSub])
     refine awJ (op_call1 rfl en53 (C53 (bs := bs) (p := x.plate) (by omega)) (by exact rfl) (RL.cons .ptr (RL.cons (.base (by first | exact View.same rfl | exact View.nil | exact View.rof | exact View.src .ro | exact View.src .rof | exact View.src (.sl rfl rfl) | exact View.ptr rfl rfl rfl)) (RL.nil))) (by exact ⟨_, _, _, rfl, rfl, rfl⟩) (by exact rfl) (by exact rfl) (by exact rfl)) ?_; (try simp only [nA, Nat.reduceBEq, Nat.reduceEqDiff, ↓reduceIte, Nat.reduceAdd, Nat.reduceSub])
     refine AWL.nil ?_
     (try simp only [thenE, inBlk, Nat.reduceEqDiff, ↓reduceIte])
     exact RQ.of (.inr rfl) rfl .nil (by simp) rfl (one_out rfl)
    ·
     (skip); have hc3 := hc; skip
     (refine AW.seq_k ?_; intro K hK)
     refine AW.region ?_
     (first | refine awP (op_eql rfl rfl rfl) ?_ | refine awP (op_seql rfl rfl rfl) ?_); (try simp only [nA, Nat.reduceBEq, Nat.reduceEqDiff, ↓reduceIte, Nat.reduceAdd, Nat.reduceSub])
     refine awP (op_assign rfl rfl) ?_; (try simp only [nA, Nat.reduceBEq, Nat.reduceEqDiff, ↓reduceIte, Nat.reduceAdd, Nat.reduceSub])
     refine AWL.nil ?_
     (refine hK _ ?_; clear hK K; (try simp only [nA, Nat.reduceBEq, Nat.reduceEqDiff, ↓reduceIte, Nat.reduceAdd, Nat.reduceSub]))
     refine AW.cond rfl rfl rfl (fun hc => ?_) (fun hc => ?_)
     ·
      (skip); have hc4 := hc; obtain rfl : p = 3 := (by have := of_decide_eq_true hc4; omega); have hpr := hx.pr
      refine AW.region ?_
      refine awP (op_move rfl rfl) ?_; (try simp only [nA, Nat.reduceBEq, Nat.reduceEqDiff, ↓reduceIte, Nat.reduceAdd, Nat.reduceSub])
      (first | refine awP (op_fa_ptr rfl rfl rfl fl35_4 (by exact sz3) (by decide) rfl) ?_ | refine awP (op_fa_rop rfl rfl fl35_4 (by exact sz3) (by decide) (Nat.le_of_ble_eq_true rfl) rfl) ?_); (try simp only [nA, Nat.reduceBEq, Nat.reduceEqDiff, ↓reduceIte, Nat.reduceAdd, Nat.reduceSub])
      (first | refine awR (op_load_ptr1 rfl rfl rfl rfl ag3 rfl rfl) ?_ | refine awR (op_load_rop1 rfl rfl ag3) ?_); (try simp only [nA, Nat.reduceBEq, Nat.reduceEqDiff, ↓reduceIte, Nat.reduceAdd, Nat.reduceSub])
      refine awJ (op_call1 rfl en51 (C51 (bs := bs) (n := x.node) (by omega)) (by exact rfl) (RL.cons .ptr (RL.cons (.base (by first | exact View.same rfl | exact View.nil | exact View.rof | exact View.src .ro | exact View.src .rof | exact View.src (.sl rfl rfl) | exact View.ptr rfl rfl rfl)) (RL.nil))) (by exact ⟨_, _, _, rfl, rfl, rfl⟩) (by exact rfl) (by exact rfl) (by exact rfl)) ?_; (try simp only [nA, Nat.reduceBEq, Nat.reduceEqDiff, ↓reduceIte, Nat.reduceAdd, Nat.reduceSub])
      refine AWL.nil ?_
      (try simp only [thenE, inBlk, Nat.reduceEqDiff, ↓reduceIte])
      exact RQ.of (.inr rfl) rfl .nil (by simp) rfl (one_out rfl)
     ·
      (skip); have hc4 := hc; skip
      (refine AW.seq_k ?_; intro K hK)
      refine AW.region ?_
      (first | refine awP (op_eql rfl rfl rfl) ?_ | refine awP (op_seql rfl rfl rfl) ?_); (try simp only [nA, Nat.reduceBEq, Nat.reduceEqDiff, ↓reduceIte, Nat.reduceAdd, Nat.reduceSub])
      refine awP (op_assign rfl rfl) ?_; (try simp only [nA, Nat.reduceBEq, Nat.reduceEqDiff, ↓reduceIte, Nat.reduceAdd, Nat.reduceSub])
      refine AWL.nil ?_
      (refine hK _ ?_; clear hK K; (try simp only [nA, Nat.reduceBEq, Nat.reduceEqDiff, ↓reduceIte, Nat.reduceAdd, Nat.reduceSub]))
      refine AW.cond rfl rfl rfl (fun hc => ?_) (fun hc => ?_)
      ·
       (skip); have hc5 := hc; obtain rfl : p = 4 := (by have := of_decide_eq_true hc5; omega); have hpr := hx.pr
       refine AW.region ?_
       refine awP (op_move rfl rfl) ?_; (try simp only [nA, Nat.reduceBEq, Nat.reduceEqDiff, ↓reduceIte, Nat.reduceAdd, Nat.reduceSub])
       (first | refine awP (op_fa_ptr rfl rfl rfl fl35_5 (by exact sz3) (by decide) rfl) ?_ | refine awP (op_fa_rop rfl rfl fl35_5 (by exact sz3) (by decide) (Nat.le_of_ble_eq_true rfl) rfl) ?_); (try simp only [nA, Nat.reduceBEq, Nat.reduceEqDiff, ↓reduceIte, Nat.reduceAdd, Nat.reduceSub])
       (first | refine awR (op_load_ptr1 rfl rfl rfl rfl ag3 rfl rfl) ?_ | refine awR (op_load_rop1 rfl rfl ag3) ?_); (try simp only [nA, Nat.reduceBEq, Nat.reduceEqDiff, ↓reduceIte, Nat.reduceAdd, Nat.reduceSub])
       refine awJ (op_call1 rfl en51 (C51 (bs := bs) (n := x.image) (by omega)) (by exact rfl) (RL.cons .ptr (RL.cons (.base (by first | exact View.same rfl | exact View.nil | exact View.rof | exact View.src .ro | exact View.src .rof | exact View.src (.sl rfl rfl) | exact View.ptr rfl rfl rfl)) (RL.nil))) (by exact ⟨_, _, _, rfl, rfl, rfl⟩) (by exact rfl) (by exact rfl) (by exact rfl)) ?_; (try simp only [nA, Nat.reduceBEq, Nat.reduceEqDiff, ↓reduceIte, Nat.reduceAdd, Nat.reduceSub])
       refine AWL.nil ?_
       (try simp only [thenE, inBlk, Nat.reduceEqDiff, ↓reduceIte])
       exact RQ.of (.inr rfl) rfl .nil (by simp) rfl (one_out rfl)
      ·
       (skip); have hc5 := hc; skip
       (refine AW.seq_k ?_; intro K hK)
       refine AW.region ?_
       (first | refine awP (op_eql rfl rfl rfl) ?_ | refine awP (op_seql rfl rfl rfl) ?_); (try simp only [nA, Nat.reduceBEq, Nat.reduceEqDiff, ↓reduceIte, Nat.reduceAdd, Nat.reduceSub])
       refine awP (op_assign rfl rfl) ?_; (try simp only [nA, Nat.reduceBEq, Nat.reduceEqDiff, ↓reduceIte, Nat.reduceAdd, Nat.reduceSub])
       refine AWL.nil ?_
       (refine hK _ ?_; clear hK K; (try simp only [nA, Nat.reduceBEq, Nat.reduceEqDiff, ↓reduceIte, Nat.reduceAdd, Nat.reduceSub]))
       refine AW.cond rfl rfl rfl (fun hc => ?_) (fun hc => ?_)
       ·
        (skip); have hc6 := hc; obtain rfl : p = 5 := (by have := of_decide_eq_true hc6; omega); have hpr := hx.pr
        refine AW.region ?_
        refine awP (op_move rfl rfl) ?_; (try simp only [nA, Nat.reduceBEq, Nat.reduceEqDiff, ↓reduceIte, Nat.reduceAdd, Nat.reduceSub])
        (first | refine awP (op_fa_ptr rfl rfl rfl fl35_6 (by exact sz4) (by decide) rfl) ?_ | refine awP (op_fa_rop rfl rfl fl35_6 (by exact sz4) (by decide) (Nat.le_of_ble_eq_true rfl) rfl) ?_); (try simp only [nA, Nat.reduceBEq, Nat.reduceEqDiff, ↓reduceIte, Nat.reduceAdd, Nat.reduceSub])
        (first | refine awR (op_load_ptr1 rfl rfl rfl rfl ag4 rfl rfl) ?_ | refine awR (op_load_rop1 rfl rfl ag4) ?_); (try simp only [nA, Nat.reduceBEq, Nat.reduceEqDiff, ↓reduceIte, Nat.reduceAdd, Nat.reduceSub])
        refine awJ (op_call1 rfl en54 (C54 (bs := bs) (yes := x.clear) (by omega)) (by exact rfl) (RL.cons .ptr (RL.cons (.base (by first | exact View.same rfl | exact View.nil | exact View.rof | exact View.src .ro | exact View.src .rof | exact View.src (.sl rfl rfl) | exact View.ptr rfl rfl rfl)) (RL.nil))) (by exact ⟨_, _, _, rfl, rfl, rfl⟩) (by exact rfl) (by exact rfl) (by exact rfl)) ?_; (try simp only [nA, Nat.reduceBEq, Nat.reduceEqDiff, ↓reduceIte, Nat.reduceAdd, Nat.reduceSub])
        refine AWL.nil ?_
        (try simp only [thenE, inBlk, Nat.reduceEqDiff, ↓reduceIte])
        exact RQ.of (.inr rfl) rfl .nil (by simp) rfl (one_out rfl)
       ·
        (skip); have hc6 := hc; skip
        (refine AW.seq_k ?_; intro K hK)
        refine AW.region ?_
        (first | refine awP (op_eql rfl rfl rfl) ?_ | refine awP (op_seql rfl rfl rfl) ?_); (try simp only [nA, Nat.reduceBEq, Nat.reduceEqDiff, ↓reduceIte, Nat.reduceAdd, Nat.reduceSub])
        refine awP (op_assign rfl rfl) ?_; (try simp only [nA, Nat.reduceBEq, Nat.reduceEqDiff, ↓reduceIte, Nat.reduceAdd, Nat.reduceSub])
        refine AWL.nil ?_
        (refine hK _ ?_; clear hK K; (try simp only [nA, Nat.reduceBEq, Nat.reduceEqDiff, ↓reduceIte, Nat.reduceAdd, Nat.reduceSub]))
        refine AW.cond rfl rfl rfl (fun hc => ?_) (fun hc => ?_)
        ·
         (skip); have hc7 := hc; obtain rfl : p = 6 := (by have := of_decide_eq_true hc7; omega); have hpr := hx.pr
         refine AW.region ?_
         refine awP (op_move rfl rfl) ?_; (try simp only [nA, Nat.reduceBEq, Nat.reduceEqDiff, ↓reduceIte, Nat.reduceAdd, Nat.reduceSub])
         (first | refine awR (op_load_ptr rfl rfl rfl rfl ag35 sz35 (Nat.le_of_ble_eq_true rfl) rfl) ?_ | refine awR (op_load_rop rfl rfl ag35 sz35 (Nat.le_of_ble_eq_true rfl) (by decide) rfl) ?_); (try simp only [nA, Nat.reduceBEq, Nat.reduceEqDiff, ↓reduceIte, Nat.reduceAdd, Nat.reduceSub])
         refine awJ (op_call1 rfl en55 (C55 (bs := bs) (x := x) hb hx.r hpr) (by exact rfl) (RL.cons .ptr (RL.cons (.base (by first | exact View.same rfl | exact View.nil | exact View.rof | exact View.src .ro | exact View.src .rof | exact View.src (.sl rfl rfl) | exact View.ptr rfl rfl rfl)) (RL.nil))) (by exact ⟨_, _, _, rfl, rfl, rfl⟩) (by exact rfl) (by exact rfl) (by exact rfl)) ?_; (try simp only [nA, Nat.reduceBEq, Nat.reduceEqDiff, ↓reduceIte, Nat.reduceAdd, Nat.reduceSub])
         refine AWL.nil ?_
         (try simp only [thenE, inBlk, Nat.reduceEqDiff, ↓reduceIte])
         exact RQ.of (.inr rfl) rfl .nil (by simp) rfl (one_out rfl)
        ·
         (skip); have hc7 := hc; skip
         (refine AW.seq_k ?_; intro K hK)
         refine AW.region ?_
         (first | refine awP (op_eql rfl rfl rfl) ?_ | refine awP (op_seql rfl rfl rfl) ?_); (try simp only [nA, Nat.reduceBEq, Nat.reduceEqDiff, ↓reduceIte, Nat.reduceAdd, Nat.reduceSub])
         refine awP (op_assign rfl rfl) ?_; (try simp only [nA, Nat.reduceBEq, Nat.reduceEqDiff, ↓reduceIte, Nat.reduceAdd, Nat.reduceSub])
         refine AWL.nil ?_
         (refine hK _ ?_; clear hK K; (try simp only [nA, Nat.reduceBEq, Nat.reduceEqDiff, ↓reduceIte, Nat.reduceAdd, Nat.reduceSub]))
         refine AW.cond rfl rfl rfl (fun hc => ?_) (fun hc => ?_)
         ·
          (skip); have hc8 := hc; obtain rfl : p = 7 := (by have := of_decide_eq_true hc8; omega); have hpr := hx.pr; have hfl := (fl_good (f := x.rev.fl) (Bool.and_eq_true _ _ |>.mp hpr).2).2
          refine AW.region ?_
          refine awP (op_move rfl rfl) ?_; (try simp only [nA, Nat.reduceBEq, Nat.reduceEqDiff, ↓reduceIte, Nat.reduceAdd, Nat.reduceSub])
          (first | refine awR (op_load_ptr rfl rfl rfl rfl ag35 sz35 (Nat.le_of_ble_eq_true rfl) rfl) ?_ | refine awR (op_load_rop rfl rfl ag35 sz35 (Nat.le_of_ble_eq_true rfl) (by decide) rfl) ?_); (try simp only [nA, Nat.reduceBEq, Nat.reduceEqDiff, ↓reduceIte, Nat.reduceAdd, Nat.reduceSub])
          refine awJ (op_call1 rfl en56 (C56 (bs := bs) (x := x) (by omega) (by omega) (by omega)) (by exact rfl) (RL.cons .ptr (RL.cons (.base (by first | exact View.same rfl | exact View.nil | exact View.rof | exact View.src .ro | exact View.src .rof | exact View.src (.sl rfl rfl) | exact View.ptr rfl rfl rfl)) (RL.nil))) (by exact ⟨_, _, _, rfl, rfl, rfl⟩) (by exact rfl) (by exact rfl) (by exact rfl)) ?_; (try simp only [nA, Nat.reduceBEq, Nat.reduceEqDiff, ↓reduceIte, Nat.reduceAdd, Nat.reduceSub])
          refine AWL.nil ?_
          (try simp only [thenE, inBlk, Nat.reduceEqDiff, ↓reduceIte])
          exact RQ.of (.inr rfl) rfl .nil (by simp) rfl (one_out rfl)
         ·
          (skip); have hc8 := hc; skip
          (refine AW.seq_k ?_; intro K hK)
          refine AW.region ?_
          (first | refine awP (op_eql rfl rfl rfl) ?_ | refine awP (op_seql rfl rfl rfl) ?_); (try simp only [nA, Nat.reduceBEq, Nat.reduceEqDiff, ↓reduceIte, Nat.reduceAdd, Nat.reduceSub])
          refine awP (op_assign rfl rfl) ?_; (try simp only [nA, Nat.reduceBEq, Nat.reduceEqDiff, ↓reduceIte, Nat.reduceAdd, Nat.reduceSub])
          refine AWL.nil ?_
          (refine hK _ ?_; clear hK K; (try simp only [nA, Nat.reduceBEq, Nat.reduceEqDiff, ↓reduceIte, Nat.reduceAdd, Nat.reduceSub]))
          refine AW.cond rfl rfl rfl (fun hc => ?_) (fun hc => ?_)
          ·
           (skip); have hc9 := hc; obtain rfl : p = 8 := (by have := of_decide_eq_true hc9; omega); have hpr := hx.pr
           refine AW.region ?_
           refine awP (op_move rfl rfl) ?_; (try simp only [nA, Nat.reduceBEq, Nat.reduceEqDiff, ↓reduceIte, Nat.reduceAdd, Nat.reduceSub])
           (first | refine awP (op_fa_ptr rfl rfl rfl fl35_9 (by exact sz3) (by decide) rfl) ?_ | refine awP (op_fa_rop rfl rfl fl35_9 (by exact sz3) (by decide) (Nat.le_of_ble_eq_true rfl) rfl) ?_); (try simp only [nA, Nat.reduceBEq, Nat.reduceEqDiff, ↓reduceIte, Nat.reduceAdd, Nat.reduceSub])
           (first | refine awR (op_load_ptr1 rfl rfl rfl rfl ag3 rfl rfl) ?_ | refine awR (op_load_rop1 rfl rfl ag3) ?_); (try simp only [nA, Nat.reduceBEq, Nat.reduceEqDiff, ↓reduceIte, Nat.reduceAdd, Nat.reduceSub])
           refine awJ (op_call1 rfl en51 (C51 (bs := bs) (n := x.device) (by omega)) (by exact rfl) (RL.cons .ptr (RL.cons (.base (by first | exact View.same rfl | exact View.nil | exact View.rof | exact View.src .ro | exact View.src .rof | exact View.src (.sl rfl rfl) | exact View.ptr rfl rfl rfl)) (RL.nil))) (by exact ⟨_, _, _, rfl, rfl, rfl⟩) (by exact rfl) (by exact rfl) (by exact rfl)) ?_; (try simp only [nA, Nat.reduceBEq, Nat.reduceEqDiff, ↓reduceIte, Nat.reduceAdd, Nat.reduceSub])
           refine AWL.nil ?_
           (try simp only [thenE, inBlk, Nat.reduceEqDiff, ↓reduceIte])
           exact RQ.of (.inr rfl) rfl .nil (by simp) rfl (one_out rfl)
          ·
           (skip); have hc9 := hc; skip
           (refine AW.seq_k ?_; intro K hK)
           refine AW.region ?_
           (first | refine awP (op_eql rfl rfl rfl) ?_ | refine awP (op_seql rfl rfl rfl) ?_); (try simp only [nA, Nat.reduceBEq, Nat.reduceEqDiff, ↓reduceIte, Nat.reduceAdd, Nat.reduceSub])
           refine awP (op_assign rfl rfl) ?_; (try simp only [nA, Nat.reduceBEq, Nat.reduceEqDiff, ↓reduceIte, Nat.reduceAdd, Nat.reduceSub])
           refine AWL.nil ?_
           (refine hK _ ?_; clear hK K; (try simp only [nA, Nat.reduceBEq, Nat.reduceEqDiff, ↓reduceIte, Nat.reduceAdd, Nat.reduceSub]))
           refine AW.cond rfl rfl rfl (fun hc => ?_) (fun hc => ?_)
           ·
            (skip); have hc10 := hc; obtain rfl : p = 9 := (by have := of_decide_eq_true hc10; omega); have hpr := hx.pr
            refine AW.region ?_
            refine awP (op_move rfl rfl) ?_; (try simp only [nA, Nat.reduceBEq, Nat.reduceEqDiff, ↓reduceIte, Nat.reduceAdd, Nat.reduceSub])
            (first | refine awP (op_fa_ptr rfl rfl rfl fl35_10 (by exact sz32) (by decide) rfl) ?_ | refine awP (op_fa_rop rfl rfl fl35_10 (by exact sz32) (by decide) (Nat.le_of_ble_eq_true rfl) rfl) ?_); (try simp only [nA, Nat.reduceBEq, Nat.reduceEqDiff, ↓reduceIte, Nat.reduceAdd, Nat.reduceSub])
            (first | refine awR (op_load_ptr rfl rfl rfl rfl ag32 sz32 (Nat.le_of_ble_eq_true rfl) rfl) ?_ | refine awR (op_load_rop rfl rfl ag32 sz32 (Nat.le_of_ble_eq_true rfl) (by decide) rfl) ?_); (try simp only [nA, Nat.reduceBEq, Nat.reduceEqDiff, ↓reduceIte, Nat.reduceAdd, Nat.reduceSub])
            refine awJ (op_call1 rfl en57 (C57 (bs := bs) (o := x.op) (by omega)) (by exact rfl) (RL.cons .ptr (RL.cons (.base (by first | exact View.same rfl | exact View.nil | exact View.rof | exact View.src .ro | exact View.src .rof | exact View.src (.sl rfl rfl) | exact View.ptr rfl rfl rfl)) (RL.nil))) (by exact ⟨_, _, _, rfl, rfl, rfl⟩) (by exact rfl) (by exact rfl) (by exact rfl)) ?_; (try simp only [nA, Nat.reduceBEq, Nat.reduceEqDiff, ↓reduceIte, Nat.reduceAdd, Nat.reduceSub])
            refine AWL.nil ?_
            (try simp only [thenE, inBlk, Nat.reduceEqDiff, ↓reduceIte])
            exact RQ.of (.inr rfl) rfl .nil (by simp) rfl (one_out rfl)
           ·
            (skip); have hc10 := hc; skip
            (refine AW.seq_k ?_; intro K hK)
            refine AW.region ?_
            (first | refine awP (op_eql rfl rfl rfl) ?_ | refine awP (op_seql rfl rfl rfl) ?_); (try simp only [nA, Nat.reduceBEq, Nat.reduceEqDiff, ↓reduceIte, Nat.reduceAdd, Nat.reduceSub])
            refine awP (op_assign rfl rfl) ?_; (try simp only [nA, Nat.reduceBEq, Nat.reduceEqDiff, ↓reduceIte, Nat.reduceAdd, Nat.reduceSub])
            refine AWL.nil ?_
            (refine hK _ ?_; clear hK K; (try simp only [nA, Nat.reduceBEq, Nat.reduceEqDiff, ↓reduceIte, Nat.reduceAdd, Nat.reduceSub]))
            refine AW.cond rfl rfl rfl (fun hc => ?_) (fun hc => ?_)
            ·
             (skip); have hc11 := hc; obtain rfl : p = 10 := (by have := of_decide_eq_true hc11; omega); have hpr := hx.pr
             refine AW.region ?_
             refine awP (op_move rfl rfl) ?_; (try simp only [nA, Nat.reduceBEq, Nat.reduceEqDiff, ↓reduceIte, Nat.reduceAdd, Nat.reduceSub])
             (first | refine awR (op_load_ptr rfl rfl rfl rfl ag35 sz35 (Nat.le_of_ble_eq_true rfl) rfl) ?_ | refine awR (op_load_rop rfl rfl ag35 sz35 (Nat.le_of_ble_eq_true rfl) (by decide) rfl) ?_); (try simp only [nA, Nat.reduceBEq, Nat.reduceEqDiff, ↓reduceIte, Nat.reduceAdd, Nat.reduceSub])
             refine awJ (op_call1 rfl en58 (C58 (bs := bs) (x := x) hb hx.o) (by exact rfl) (RL.cons .ptr (RL.cons (.base (by first | exact View.same rfl | exact View.nil | exact View.rof | exact View.src .ro | exact View.src .rof | exact View.src (.sl rfl rfl) | exact View.ptr rfl rfl rfl)) (RL.nil))) (by exact ⟨_, _, _, rfl, rfl, rfl⟩) (by exact rfl) (by exact rfl) (by exact rfl)) ?_; (try simp only [nA, Nat.reduceBEq, Nat.reduceEqDiff, ↓reduceIte, Nat.reduceAdd, Nat.reduceSub])
             refine AWL.nil ?_
             (try simp only [thenE, inBlk, Nat.reduceEqDiff, ↓reduceIte])
             exact RQ.of (.inr rfl) rfl .nil (by simp) rfl (one_out rfl)
            ·
             (skip); have hc11 := hc; skip
             (refine AW.seq_k ?_; intro K hK)
             refine AW.region ?_
             (first | refine awP (op_eql rfl rfl rfl) ?_ | refine awP (op_seql rfl rfl rfl) ?_); (try simp only [nA, Nat.reduceBEq, Nat.reduceEqDiff, ↓reduceIte, Nat.reduceAdd, Nat.reduceSub])
             refine awP (op_assign rfl rfl) ?_; (try simp only [nA, Nat.reduceBEq, Nat.reduceEqDiff, ↓reduceIte, Nat.reduceAdd, Nat.reduceSub])
             refine AWL.nil ?_
             (refine hK _ ?_; clear hK K; (try simp only [nA, Nat.reduceBEq, Nat.reduceEqDiff, ↓reduceIte, Nat.reduceAdd, Nat.reduceSub]))
             refine AW.cond rfl rfl rfl (fun hc => ?_) (fun hc => ?_)
             ·
              (skip); have hc12 := hc; obtain rfl : p = 11 := (by have := of_decide_eq_true hc12; omega); have hpr := hx.pr; have hfl := (fl_good (f := x.fl) hpr).2
              refine AW.region ?_
              refine awP (op_move rfl rfl) ?_; (try simp only [nA, Nat.reduceBEq, Nat.reduceEqDiff, ↓reduceIte, Nat.reduceAdd, Nat.reduceSub])
              (first | refine awP (op_fa_ptr rfl rfl rfl fl35_12 (by exact sz26) (by decide) rfl) ?_ | refine awP (op_fa_rop rfl rfl fl35_12 (by exact sz26) (by decide) (Nat.le_of_ble_eq_true rfl) rfl) ?_); (try simp only [nA, Nat.reduceBEq, Nat.reduceEqDiff, ↓reduceIte, Nat.reduceAdd, Nat.reduceSub])
              (first | refine awR (op_load_ptr rfl rfl rfl rfl ag26 sz26 (Nat.le_of_ble_eq_true rfl) rfl) ?_ | refine awR (op_load_rop rfl rfl ag26 sz26 (Nat.le_of_ble_eq_true rfl) (by decide) rfl) ?_); (try simp only [nA, Nat.reduceBEq, Nat.reduceEqDiff, ↓reduceIte, Nat.reduceAdd, Nat.reduceSub])
              refine awJ (op_call1 rfl en59 (C59 (bs := bs) (f := x.fl) (by omega) (by omega) (by omega)) (by exact rfl) (RL.cons .ptr (RL.cons (.base (by first | exact View.same rfl | exact View.nil | exact View.rof | exact View.src .ro | exact View.src .rof | exact View.src (.sl rfl rfl) | exact View.ptr rfl rfl rfl)) (RL.nil))) (by exact ⟨_, _, _, rfl, rfl, rfl⟩) (by exact rfl) (by exact rfl) (by exact rfl)) ?_; (try simp only [nA, Nat.reduceBEq, Nat.reduceEqDiff, ↓reduceIte, Nat.reduceAdd, Nat.reduceSub])
              refine AWL.nil ?_
              (try simp only [thenE, inBlk, Nat.reduceEqDiff, ↓reduceIte])
              exact RQ.of (.inr rfl) rfl .nil (by simp) rfl (one_out rfl)
             ·
              (skip); have hc12 := hc; skip
              refine AW.skip ?_
              (try simp only [thenE, inBlk, Nat.reduceEqDiff, ↓reduceIte])
              rw [show ePart x p = [] from ePart_rest (by simp only [decide_eq_false_iff_not] at hc1 hc2 hc3 hc4 hc5 hc6 hc7 hc8 hc9 hc10 hc11 hc12; omega), List.append_nil]; exact RQ.of (.inr rfl) rfl .nil (by simp) rfl (one_out rfl)
end Go.Proofs.YtfmnaigedgmhoaaDoor
namespace Go.Proofs.YtfmnaigedgmhoaaDoor
open Go.RowKit
set_option linter.unusedSimpArgs false
set_option linter.unusedVariables false
set_option maxRecDepth 100000
theorem C30i {bs : BL} {x : Ev} {p : Int} (hp : 0 ≤ p) (hb : bs.length ≤ 10000) (hx : x.Wr p.toNat) : Fn Tryd.prog 30 [wB bs] [.ptr 0 0 0 0, .agg x.av, .v (.int .i64 p)] [] [wB (bs ++ ePart x p.toNat)] := by
  obtain ⟨n, rfl⟩ := Int.eq_ofNat_of_zero_le hp
  exact C30 hb hx
abbrev ePI (x : Ev) (p : Int) : BL := ePart x p.toNat
theorem encI (x : Ev) : [byI x.kind] ++ (fldI x.kind).flatMap (ePI x) = encB x := by
  unfold fldI encB
  rw [List.flatMap_map]
  rfl
theorem fldI_mem {k p : Int} (h : p ∈ fldI k) : 0 ≤ p ∧ p.toNat ∈ fieldsL k := by
  obtain ⟨n, hn, rfl⟩ := List.mem_map.1 h
  exact ⟨by omega, hn⟩
theorem Good.wr {x : Ev} (h : Good x) {p : Int} (hp : p ∈ fldI x.kind) : x.Wr p.toNat := ⟨h.lim.1, h.lim.2.1, h.lim.2.2, h.pr _ (fldI_mem hp).2⟩
def pfx (x : Ev) (i : Nat) : BL := [byI x.kind] ++ ((fldI x.kind).take i).flatMap (ePI x)
theorem pfx_0 (x : Ev) : pfx x 0 = [byI x.kind] := rfl
theorem pfx_step {x : Ev} {i : Nat} (h : i < (fldI x.kind).length) : pfx x i ++ ePart x ((fldI x.kind).getD i default).toNat = pfx x (i + 1) := take_flatG (e := ePI x) h
theorem pfx_end {x : Ev} {i : Nat} (h : ¬ i < (fldI x.kind).length) : pfx x i = encB x := by
  unfold pfx
  rw [List.take_of_length_le (by omega), encI]
theorem pfx_len {x : Ev} (h : Good x) (i : Nat) : (pfx x i).length ≤ 10000 := by
  have h1 := flatTk (xs := fldI x.kind) (e := ePI x) (k := 2404) (i := i) fun p hp => part_len h _ (fldI_mem hp).2
  have h2 := fldI_len x.kind
  unfold pfx
  rw [List.length_append, List.length_singleton]
  have := Nat.mul_le_mul_right 2404 h2
  omega
theorem C13 {x : Ev} (hx : x.Sm) : Fn Tryd.prog 13 [] [.agg x.av] [.ro ((encV x).1.map bv), .v (.int .i64 (encV x).2)] [] := by
  refine Spec.body Tryd.func13 rfl Tryd.ntmps13 (by simp) rfl ?_; intro S0 own0 v0 w0 gl
  (refine AW.seq_k ?_; intro K hK)
  refine AW.region ?_
  refine awJ (op_box rfl rfl rfl sz35 rfl) ?_; (try simp only [nA, Nat.reduceBEq, Nat.reduceEqDiff, ↓reduceIte, Nat.reduceAdd, Nat.reduceSub])
  refine awP (op_assign rfl rfl) ?_; (try simp only [nA, Nat.reduceBEq, Nat.reduceEqDiff, ↓reduceIte, Nat.reduceAdd, Nat.reduceSub])
  refine awP (op_assign rfl rfl) ?_; (try simp only [nA, Nat.reduceBEq, Nat.reduceEqDiff, ↓reduceIte, Nat.reduceAdd, Nat.reduceSub])
  refine AWL.nil ?_
  (refine hK _ ?_; clear hK K; (try simp only [nA, Nat.reduceBEq, Nat.reduceEqDiff, ↓reduceIte, Nat.reduceAdd, Nat.reduceSub]))
  (refine AW.seq_k ?_; intro K hK)
  (refine AW.seq_k ?_; intro K hK)
  refine AW.region ?_
  (first | refine awR (op_load_ptr rfl rfl rfl rfl ag35 sz35 (Nat.le_of_ble_eq_true rfl) rfl) ?_ | refine awR (op_load_rop rfl rfl ag35 sz35 (Nat.le_of_ble_eq_true rfl) (by decide) rfl) ?_); (try simp only [nA, Nat.reduceBEq, Nat.reduceEqDiff, ↓reduceIte, Nat.reduceAdd, Nat.reduceSub])
  refine awJ (OpQ.j (op_callQ (b := true) rfl en15 (C15 (x := x) hx) (RL.cons (by first | exact View.same rfl | exact View.nil | exact View.rof | exact View.src .ro | exact View.src .rof | exact View.src (.sl rfl rfl) | exact View.ptr rfl rfl rfl) (RL.nil)) rfl)) ?_; (try simp only [nA, Nat.reduceBEq, Nat.reduceEqDiff, ↓reduceIte, Nat.reduceAdd, Nat.reduceSub])
  refine awP (op_assign rfl rfl) ?_; (try simp only [nA, Nat.reduceBEq, Nat.reduceEqDiff, ↓reduceIte, Nat.reduceAdd, Nat.reduceSub])
  refine AWL.nil ?_
  (refine hK _ ?_; clear hK K; (try simp only [nA, Nat.reduceBEq, Nat.reduceEqDiff, ↓reduceIte, Nat.reduceAdd, Nat.reduceSub]))
  (refine AW.seq_k ?_; intro K hK)
  refine AW.region ?_
  refine awP (op_move rfl rfl) ?_; (try simp only [nA, Nat.reduceBEq, Nat.reduceEqDiff, ↓reduceIte, Nat.reduceAdd, Nat.reduceSub])
  (first | refine awP (op_neq rfl rfl rfl) ?_ | refine awP (op_sneq rfl rfl rfl) ?_); (try simp only [nA, Nat.reduceBEq, Nat.reduceEqDiff, ↓reduceIte, Nat.reduceAdd, Nat.reduceSub])
  refine AWL.nil ?_
  (refine hK _ ?_; clear hK K; (try simp only [nA, Nat.reduceBEq, Nat.reduceEqDiff, ↓reduceIte, Nat.reduceAdd, Nat.reduceSub]))
  refine AW.cond rfl rfl rfl (fun hc => ?_) (fun hc => ?_)
  ·
   (skip); have hc1 := hc; have hv : valV x ≠ 0 := (by simpa using hc1); have hng : ¬ Good x := fun h => hv (valV_0.2 h)
   (refine AW.seq_k ?_; intro K hK)
   refine AW.region ?_
   refine awP (op_move rfl rfl) ?_; (try simp only [nA, Nat.reduceBEq, Nat.reduceEqDiff, ↓reduceIte, Nat.reduceAdd, Nat.reduceSub])
   refine awP (op_assign rfl rfl) ?_; (try simp only [nA, Nat.reduceBEq, Nat.reduceEqDiff, ↓reduceIte, Nat.reduceAdd, Nat.reduceSub])
   refine awP (op_assign rfl rfl) ?_; (try simp only [nA, Nat.reduceBEq, Nat.reduceEqDiff, ↓reduceIte, Nat.reduceAdd, Nat.reduceSub])
   refine AWL.nil ?_
   (refine hK _ ?_; clear hK K; (try simp only [nA, Nat.reduceBEq, Nat.reduceEqDiff, ↓reduceIte, Nat.reduceAdd, Nat.reduceSub]))
   refine AW.gh (Gh.nil (e := 5) 2 (Nat.le_of_ble_eq_true rfl) rfl sz5) ?_; (try simp only [nA, Nat.reduceBEq, Nat.reduceEqDiff, ↓reduceIte, Nat.reduceAdd, Nat.reduceSub]); refine AW.gh (Gh.freeze 2 (Nat.le_of_ble_eq_true rfl) rfl rfl (by simp) (es' := ([] : BL).map bv) rfl) ?_; (try simp only [nA, Nat.reduceBEq, Nat.reduceEqDiff, ↓reduceIte, Nat.reduceAdd, Nat.reduceSub])
   refine AW.ret ?_; (try simp only [thenE, inBlk, Nat.reduceEqDiff, ↓reduceIte]); rw [enc_no hng]; exact RQ.of0 rfl (.tmp (Nat.le_of_ble_eq_true rfl) rfl rfl (.tmp (Nat.le_of_ble_eq_true rfl) rfl rfl .nil))
  ·
   (skip); have hc1 := hc; have hv : valV x = 0 := (by simpa using hc1); have hG := valV_0.1 hv
   refine AW.skip ?_
   (refine hK _ ?_; clear hK K; (try simp only [nA, Nat.reduceBEq, Nat.reduceEqDiff, ↓reduceIte, Nat.reduceAdd, Nat.reduceSub]))
   (refine AW.seq_k ?_; intro K hK)
   refine AW.region ?_
   (first | refine awP (op_fa_ptr rfl rfl rfl fl35_0 (by exact sz3) (by decide) rfl) ?_ | refine awP (op_fa_rop rfl rfl fl35_0 (by exact sz3) (by decide) (Nat.le_of_ble_eq_true rfl) rfl) ?_); (try simp only [nA, Nat.reduceBEq, Nat.reduceEqDiff, ↓reduceIte, Nat.reduceAdd, Nat.reduceSub])
   (first | refine awR (op_load_ptr1 rfl rfl rfl rfl ag3 rfl rfl) ?_ | refine awR (op_load_rop1 rfl rfl ag3) ?_); (try simp only [nA, Nat.reduceBEq, Nat.reduceEqDiff, ↓reduceIte, Nat.reduceAdd, Nat.reduceSub])
   refine awP (op_conv rfl rfl Tryd.underlying3 Tryd.underlying5 (wrapU _)) ?_; (try simp only [nA, Nat.reduceBEq, Nat.reduceEqDiff, ↓reduceIte, Nat.reduceAdd, Nat.reduceSub])
   refine awX (OpJ.nmS (op_buildSlice rfl [(0, bv (byI x.kind))] ([byI x.kind].map bv) Tryd.underlying43 ze5 rfl (by simp) rfl (bv_len _) rfl (Nat.le_of_ble_eq_true rfl) (by simp [maxLen])) rfl rfl) ?_; rintro _ _ ⟨u, hu, rfl, rfl⟩; (try simp only [nA, Nat.reduceBEq, Nat.reduceEqDiff, ↓reduceIte, Nat.reduceAdd, Nat.reduceSub])
   refine awP (op_build2 (xs := [_]) rfl pl77 ze77 [(0, [_])] rfl rfl rfl) ?_; (try simp only [nA, Nat.reduceBEq, Nat.reduceEqDiff, ↓reduceIte, Nat.reduceAdd, Nat.reduceSub])
   refine awJ (op_box rfl rfl rfl sz77 rfl) ?_; (try simp only [nA, Nat.reduceBEq, Nat.reduceEqDiff, ↓reduceIte, Nat.reduceAdd, Nat.reduceSub]); refine AWL.gh (Gh.nest (r := 2) (q := 1) (row := [.v u]) 0 0 rfl rfl rfl rfl (by decide) (es2 := [[.own 5 ([byI x.kind].map bv)]]) rfl) ?_; (try simp only [nA, Nat.reduceBEq, Nat.reduceEqDiff, ↓reduceIte, Nat.reduceAdd, Nat.reduceSub])
   refine awP (op_assign rfl rfl) ?_; (try simp only [nA, Nat.reduceBEq, Nat.reduceEqDiff, ↓reduceIte, Nat.reduceAdd, Nat.reduceSub])
   refine AWL.nil ?_
   (refine hK _ ?_; clear hK K; (try simp only [nA, Nat.reduceBEq, Nat.reduceEqDiff, ↓reduceIte, Nat.reduceAdd, Nat.reduceSub]))
   (refine AW.seq_k ?_; intro K hK)
   (refine AW.seq_k ?_; intro K hK)
   refine AW.region ?_
   (first | refine awP (op_fa_ptr rfl rfl rfl fl35_0 (by exact sz3) (by decide) rfl) ?_ | refine awP (op_fa_rop rfl rfl fl35_0 (by exact sz3) (by decide) (Nat.le_of_ble_eq_true rfl) rfl) ?_); (try simp only [nA, Nat.reduceBEq, Nat.reduceEqDiff, ↓reduceIte, Nat.reduceAdd, Nat.reduceSub])
   (first | refine awR (op_load_ptr1 rfl rfl rfl rfl ag3 rfl rfl) ?_ | refine awR (op_load_rop1 rfl rfl ag3) ?_); (try simp only [nA, Nat.reduceBEq, Nat.reduceEqDiff, ↓reduceIte, Nat.reduceAdd, Nat.reduceSub])
   refine awP (op_ia_glob x.kind.toNat rfl rfl Tryd.underlying79 (by have := hG.kind; omega) (fldI_row hG.kind) (by exact sz78)) ?_; (try simp only [nA, Nat.reduceBEq, Nat.reduceEqDiff, ↓reduceIte, Nat.reduceAdd, Nat.reduceSub])
   (first | refine awR (op_load_ptr1 rfl rfl rfl rfl ag78 rfl rfl) ?_ | refine awR (op_load_rop1 rfl rfl ag78) ?_); (try simp only [nA, Nat.reduceBEq, Nat.reduceEqDiff, ↓reduceIte, Nat.reduceAdd, Nat.reduceSub])
   refine awP (op_len_ro (n := (fldI x.kind).length) rfl rfl Tryd.underlying78 (.inr (.inl ⟨_, rfl, by simp⟩))) ?_; (try simp only [nA, Nat.reduceBEq, Nat.reduceEqDiff, ↓reduceIte, Nat.reduceAdd, Nat.reduceSub])
   refine awP (op_move rfl rfl) ?_; (try simp only [nA, Nat.reduceBEq, Nat.reduceEqDiff, ↓reduceIte, Nat.reduceAdd, Nat.reduceSub])
   refine AWL.nil ?_
   (refine hK _ ?_; clear hK K; (try simp only [nA, Nat.reduceBEq, Nat.reduceEqDiff, ↓reduceIte, Nat.reduceAdd, Nat.reduceSub]))
   refine AW.block ?_
   have hfn := fldI_len x.kind; refine AW.loopI (fun i => [(1, .ptr 0 1 0 0), (5, .ptr 2 3 0 0), (22, .ro ((fldI x.kind).map fun n => [.v (.int .i64 n)])), (23, .v (.int .i64 (fldI x.kind).length)), (24, .v (.int .i64 (i : Nat)))]) (fun i => ⟨[(1, .own 35 [x.av]), (2, .any), (3, wB (pfx x i))], 4⟩) (fun i => i ≤ (fldI x.kind).length) (fun i => (fldI x.kind).length - i) 0 (by simp) ⟨rfl, rfl, rfl, rfl, rfl, trivial⟩ (by rw [pfx_0]; rfl) ?_; intro i ρ hi; simp only [updL]; (try simp only [nA, Nat.reduceBEq, Nat.reduceEqDiff, ↓reduceIte, Nat.reduceAdd, Nat.reduceSub])
   (refine AW.seq_k ?_; intro K hK)
   refine AW.region ?_
   refine awP (op_lss rfl rfl rfl) ?_; (try simp only [nA, Nat.reduceBEq, Nat.reduceEqDiff, ↓reduceIte, Nat.reduceAdd, Nat.reduceSub])
   refine AWL.nil ?_
   (refine hK _ ?_; clear hK K; (try simp only [nA, Nat.reduceBEq, Nat.reduceEqDiff, ↓reduceIte, Nat.reduceAdd, Nat.reduceSub]))
   (refine AW.seq_k ?_; intro K hK)
   refine AW.cond rfl rfl rfl (fun hc => ?_) (fun hc => ?_)
   ·
    (skip); have hc2 := hc; have hlt : i < (fldI x.kind).length := (by simpa using hc2); have hpb := fldI_bd hlt; have hpm : (fldI x.kind).getD i default ∈ fldI x.kind := (by rw [getD_of hlt]; exact List.getElem_mem hlt)
    refine AW.skip ?_
    (refine hK _ ?_; clear hK K; (try simp only [nA, Nat.reduceBEq, Nat.reduceEqDiff, ↓reduceIte, Nat.reduceAdd, Nat.reduceSub]))
    (refine AW.seq_k ?_; intro K hK)
    refine AW.block ?_
    (refine AW.seq_k ?_; intro K hK)
    refine AW.region ?_
    refine awP (op_ia_ro i rfl (.inl rfl) rfl Tryd.underlying78 rfl (get_mapD (by omega)) (by exact sz80) (Nat.le_of_ble_eq_true rfl)) ?_; (try simp only [nA, Nat.reduceBEq, Nat.reduceEqDiff, ↓reduceIte, Nat.reduceAdd, Nat.reduceSub])
    (first | refine awR (op_load_ptr1 rfl rfl rfl rfl ag80 rfl rfl) ?_ | refine awR (op_load_rop1 rfl rfl ag80) ?_); (try simp only [nA, Nat.reduceBEq, Nat.reduceEqDiff, ↓reduceIte, Nat.reduceAdd, Nat.reduceSub])
    refine awP (op_assign rfl rfl) ?_; (try simp only [nA, Nat.reduceBEq, Nat.reduceEqDiff, ↓reduceIte, Nat.reduceAdd, Nat.reduceSub])
    refine AWL.nil ?_
    (refine hK _ ?_; clear hK K; (try simp only [nA, Nat.reduceBEq, Nat.reduceEqDiff, ↓reduceIte, Nat.reduceAdd, Nat.reduceSub]))
    refine AW.region ?_
    refine awP (op_move rfl rfl) ?_; (try simp only [nA, Nat.reduceBEq, Nat.reduceEqDiff, ↓reduceIte, Nat.reduceAdd, Nat.reduceSub])
    (first | refine awR (op_load_ptr rfl rfl rfl rfl ag35 sz35 (Nat.le_of_ble_eq_true rfl) rfl) ?_ | refine awR (op_load_rop rfl rfl ag35 sz35 (Nat.le_of_ble_eq_true rfl) (by decide) rfl) ?_); (try simp only [nA, Nat.reduceBEq, Nat.reduceEqDiff, ↓reduceIte, Nat.reduceAdd, Nat.reduceSub])
    refine awP (op_move rfl rfl) ?_; (try simp only [nA, Nat.reduceBEq, Nat.reduceEqDiff, ↓reduceIte, Nat.reduceAdd, Nat.reduceSub])
    refine awJ (op_call1 rfl en30 (C30i (bs := (pfx x i)) (x := x) (p := (fldI x.kind).getD i default) hpb.1 (pfx_len hG i) (hG.wr hpm)) (by exact rfl) (RL.cons .ptr (RL.cons (.base (by first | exact View.same rfl | exact View.nil | exact View.rof | exact View.src .ro | exact View.src .rof | exact View.src (.sl rfl rfl) | exact View.ptr rfl rfl rfl)) (RL.cons (.base (by first | exact View.same rfl | exact View.nil | exact View.rof | exact View.src .ro | exact View.src .rof | exact View.src (.sl rfl rfl) | exact View.ptr rfl rfl rfl)) (RL.nil)))) (by exact ⟨_, _, _, rfl, rfl, rfl⟩) (by exact rfl) (by exact rfl) (by exact rfl)) ?_; (try simp only [nA, Nat.reduceBEq, Nat.reduceEqDiff, ↓reduceIte, Nat.reduceAdd, Nat.reduceSub])
    refine AWL.nil ?_
    (try simp only [thenE, inBlk, Nat.reduceEqDiff, ↓reduceIte])
    (refine hK _ ?_; clear hK K; (try simp only [nA, Nat.reduceBEq, Nat.reduceEqDiff, ↓reduceIte, Nat.reduceAdd, Nat.reduceSub]))
    refine AW.region ?_
    (first | refine awP (op_addi rfl rfl rfl (by omega)) ?_ | refine awP (op_add rfl rfl rfl rfl) ?_); (try simp only [nA, Nat.reduceBEq, Nat.reduceEqDiff, ↓reduceIte, Nat.reduceAdd, Nat.reduceSub])
    refine awP (op_move rfl rfl) ?_; (try simp only [nA, Nat.reduceBEq, Nat.reduceEqDiff, ↓reduceIte, Nat.reduceAdd, Nat.reduceSub])
    skip
    refine AWL.nil ?_
    refine ⟨i + 1, by omega, by omega, ⟨rfl, rfl, rfl, rfl, rfl, trivial⟩, congrArg (fun z => (⟨[(1, .own 35 [x.av]), (2, .any), (3, wB z)], 4⟩ : Sl)) (pfx_step hlt), (by first | rfl | trivial)⟩
   ·
    (skip); have hc2 := hc; have hnl : ¬ i < (fldI x.kind).length := (by simpa using hc2); rw [pfx_end hnl]
    refine AW.exit ?_; (try simp only [thenE, inBlk, Nat.reduceEqDiff, ↓reduceIte])
    clear hK K
    (refine hK _ ?_; clear hK K; (try simp only [nA, Nat.reduceBEq, Nat.reduceEqDiff, ↓reduceIte, Nat.reduceAdd, Nat.reduceSub]))
    (refine AW.seq_k ?_; intro K hK)
    refine AW.region ?_
    refine awP (op_move rfl rfl) ?_; (try simp only [nA, Nat.reduceBEq, Nat.reduceEqDiff, ↓reduceIte, Nat.reduceAdd, Nat.reduceSub])
    (first | refine awP (op_nil_slot rfl rfl rfl) ?_ | refine awP (op_nil_ptr rfl rfl) ?_); (try simp only [nA, Nat.reduceBEq, Nat.reduceEqDiff, ↓reduceIte, Nat.reduceAdd, Nat.reduceSub])
    (first | refine awP (op_fa_ptr rfl rfl rfl fl77_0 (by exact sz43) (by decide) rfl) ?_ | refine awP (op_fa_rop rfl rfl fl77_0 (by exact sz43) (by decide) (Nat.le_of_ble_eq_true rfl) rfl) ?_); (try simp only [nA, Nat.reduceBEq, Nat.reduceEqDiff, ↓reduceIte, Nat.reduceAdd, Nat.reduceSub])
    refine awJ (op_load_nest (i := 0) (j := 0) rfl rfl rfl rfl ag43 rfl rfl) ?_; (try simp only [nA, Nat.reduceBEq, Nat.reduceEqDiff, ↓reduceIte, Nat.reduceAdd, Nat.reduceSub])
    refine awP (op_assign rfl rfl) ?_; (try simp only [nA, Nat.reduceBEq, Nat.reduceEqDiff, ↓reduceIte, Nat.reduceAdd, Nat.reduceSub])
    refine awP (op_assign rfl rfl) ?_; (try simp only [nA, Nat.reduceBEq, Nat.reduceEqDiff, ↓reduceIte, Nat.reduceAdd, Nat.reduceSub])
    refine AWL.nil ?_
    (refine hK _ ?_; clear hK K; (try simp only [nA, Nat.reduceBEq, Nat.reduceEqDiff, ↓reduceIte, Nat.reduceAdd, Nat.reduceSub]))
    refine AW.gh (Gh.freeze 2 (Nat.le_of_ble_eq_true rfl) rfl rfl (bv_flat _) (es' := (encB x).map bv) (List.take_of_length_le (by rw [List.length_map]; exact Nat.le_refl _))) ?_; (try simp only [nA, Nat.reduceBEq, Nat.reduceEqDiff, ↓reduceIte, Nat.reduceAdd, Nat.reduceSub])
    refine AW.ret ?_; (try simp only [thenE, inBlk, Nat.reduceEqDiff, ↓reduceIte]); rw [enc_ok hG]; exact RQ.of0 rfl (.tmp (Nat.le_of_ble_eq_true rfl) rfl rfl (.tmp (Nat.le_of_ble_eq_true rfl) rfl rfl .nil))
end Go.Proofs.YtfmnaigedgmhoaaDoor
namespace Go.Proofs.YtfmnaigedgmhoaaDoor
open Go.RowKit
set_option linter.unusedSimpArgs false
set_option linter.unusedVariables false
def vCell (es : List (List AV)) : Prop := ∀ x ∈ es, ∀ c ∈ x, ∃ u, c = .v u
section
variable {C : Cx} {T : Sl} {S S2 : Nat → Prop} {vals : List Value} {bss : List (List Nat)} {w w' : World} {o : Oper} {ev : Operand → AV}
variable {Q : Exit → Sta → Prop} {σ : Sta}
end
end Go.Proofs.YtfmnaigedgmhoaaDoor
namespace Go.Proofs.YtfmnaigedgmhoaaDoor
open Go.RowKit
set_option linter.unusedSimpArgs false
set_option linter.unusedVariables false
set_option maxRecDepth 100000
abbrev wO (bs : BL) : AV := .own 5 (bs.map bv)
end Go.Proofs.YtfmnaigedgmhoaaDoor
namespace Go.Proofs.YtfmnaigedgmhoaaDoor
open Go.RowKit
set_option linter.unusedSimpArgs false
set_option linter.unusedVariables false
set_option maxRecDepth 100000
end Go.Proofs.YtfmnaigedgmhoaaDoor
namespace Go.Proofs.YtfmnaigedgmhoaaDoor
open Go.RowKit
set_option linter.unusedSimpArgs false
set_option linter.unusedVariables false
set_option maxRecDepth 100000
def hd0 (x : Ev) : BL := [byI x.kind]
end Go.Proofs.YtfmnaigedgmhoaaDoor
namespace Go.Proofs.YtfmnaigedgmhoaaDoor
open Go.RowKit
set_option linter.unusedSimpArgs false
set_option linter.unusedVariables false
set_option maxRecDepth 100000
theorem sz95 : sizeIs Tryd.prog 95 1 := by unfold sizeIs; kernel_rfl
abbrev fnA (f : FuncId) : AV := .v (.func (.func f) #[] #[])
abbrev rdsL : List FuncId := [73, 74, 75, 76, 77, 78, 79, 80, 81, 82, 83, 84]
abbrev rdsA : List AV := [fnA 73, fnA 74, fnA 75, fnA 76, fnA 77, fnA 78, fnA 79, fnA 80, fnA 81, fnA 82, fnA 83, fnA 84]
theorem C44 : Fn Tryd.prog 44 [] [] [.agg rdsA] [] := by
  refine Spec.body Tryd.func44 rfl Tryd.ntmps44 (by simp) rfl ?_; intro S0 own0 v0 w0 gl
  (refine AW.seq_k ?_; intro K hK)
  refine AW.region ?_
  refine awJ (op_alloc rfl ze96 rfl) ?_; (try simp only [nA, Nat.reduceBEq, Nat.reduceEqDiff, ↓reduceIte, Nat.reduceAdd, Nat.reduceSub])
  refine AWL.nil ?_
  (refine hK _ ?_; clear hK K; (try simp only [nA, Nat.reduceBEq, Nat.reduceEqDiff, ↓reduceIte, Nat.reduceAdd, Nat.reduceSub]))
  (refine AW.seq_k ?_; intro K hK)
  refine AW.region ?_
  refine awP (op_buildArr (xs := rdsA) rfl [(0, [fnA 73]), (1, [fnA 74]), (2, [fnA 75]), (3, [fnA 76]), (4, [fnA 77]), (5, [fnA 78]), (6, [fnA 79]), (7, [fnA 80]), (8, [fnA 81]), (9, [fnA 82]), (10, [fnA 83]), (11, [fnA 84])] Tryd.underlying96 sz95 ze96 rfl rfl rfl) ?_; (try simp only [nA, Nat.reduceBEq, Nat.reduceEqDiff, ↓reduceIte, Nat.reduceAdd, Nat.reduceSub]); (try simp only [nA, Nat.reduceBEq, Nat.reduceEqDiff, ↓reduceIte, Nat.reduceAdd, Nat.reduceSub])
  refine awJ (op_store rfl rfl rfl rfl rfl rfl sz96 rfl (Nat.le_of_ble_eq_true rfl) rfl) ?_; (try simp only [nA, Nat.reduceBEq, Nat.reduceEqDiff, ↓reduceIte, Nat.reduceAdd, Nat.reduceSub])
  refine AWL.nil ?_
  (refine hK _ ?_; clear hK K; (try simp only [nA, Nat.reduceBEq, Nat.reduceEqDiff, ↓reduceIte, Nat.reduceAdd, Nat.reduceSub]))
  skip
  refine AW.ret ?_; (try simp only [thenE, inBlk, Nat.reduceEqDiff, ↓reduceIte]); exact RQ.of0 rfl (.cell (Nat.le_of_ble_eq_true rfl) rfl rfl rfl ag96 sz96 (Nat.le_of_ble_eq_true rfl) rfl rfl .nil)
end Go.Proofs.YtfmnaigedgmhoaaDoor
namespace Go.Proofs.YtfmnaigedgmhoaaDoor
open Go.RowKit
set_option linter.unusedSimpArgs false
set_option linter.unusedVariables false
set_option maxRecDepth 100000
abbrev rowY (y : Ev) (s : RS) : List AV := rdC y (.own 66 (y.reports.map Report.av)) (.own 32 (y.ops.map Op.av)) s
theorem C73p {p : Nat} {y : Ev} {s : RS} (hp : p ≤ 11) (hl : s.b.length ≤ 1000000) (h6 : p = 6 → y.reports = []) (h10 : p = 10 → y.ops = []) : Fn Tryd.prog (73 + p) [.own 94 [rowY y s]] [.ptr 0 0 0 0] [] [.own 94 [rowY (dM rE p y s).1 (dM rE p y s).2]] := by
  match p, hp, h6, h10 with
  | 0, _, _, _ => exact C73v (C99 hl)
  | 1, _, _, _ => exact C74v (C100 hl)
  | 2, _, _, _ => exact C75v (C101 hl)
  | 3, _, _, _ => exact C76v (C99 hl)
  | 4, _, _, _ => exact C77v (C99 hl)
  | 5, _, _, _ => exact C78v (C102 hl)
  | 6, _, h6, _ =>
    have e := h6 rfl
    have h := C79 (x := y) (os := .own 32 (y.ops.map Op.av)) hl
    show Fn Tryd.prog 79 [.own 94 [rdC y (.own 66 (y.reports.map Report.av)) (.own 32 (y.ops.map Op.av)) s]] [.ptr 0 0 0 0] [] [.own 94 [rdC y (.own 66 ((lsM rE (rpM rE) y.reports s).1.map Report.av)) (.own 32 (y.ops.map Op.av)) (lsM rE (rpM rE) y.reports s).2]]
    rw [e]
    exact h
  | 7, _, _, _ => exact C80v (C99 hl) (C99 (len1 hl)) (C103 (len1 (len1 hl)))
  | 8, _, _, _ => exact C81v (C99 hl)
  | 9, _, _, _ => exact C82v (C104 hl)
  | 10, _, _, h10 =>
    have e := h10 rfl
    have h := C83 (x := y) (rs := .own 66 (y.reports.map Report.av)) hl
    show Fn Tryd.prog 83 [.own 94 [rdC y (.own 66 (y.reports.map Report.av)) (.own 32 (y.ops.map Op.av)) s]] [.ptr 0 0 0 0] [] [.own 94 [rdC y (.own 66 (y.reports.map Report.av)) (.own 32 ((lsM rE (opM rE) y.ops s).1.map Op.av)) (lsM rE (opM rE) y.ops s).2]]
    rw [e]
    exact h
  | 11, _, _, _ => exact C84v (C103 hl)
theorem en_p {p : Nat} (hp : p ≤ 11) : Enters Tryd.prog (73 + p) := by
  match p, hp with
  | 0, _ => exact en73
  | 1, _ => exact en74
  | 2, _ => exact en75
  | 3, _ => exact en76
  | 4, _ => exact en77
  | 5, _ => exact en78
  | 6, _ => exact en79
  | 7, _ => exact en80
  | 8, _ => exact en81
  | 9, _ => exact en82
  | 10, _ => exact en83
  | 11, _ => exact en84
theorem rds_get {p : Nat} (hp : p ≤ 11) : rdsA[p]? = some (fnA (73 + p)) := by
  match p, hp with
  | 0, _ => rfl
  | 1, _ => rfl
  | 2, _ => rfl
  | 3, _ => rfl
  | 4, _ => rfl
  | 5, _ => rfl
  | 6, _ => rfl
  | 7, _ => rfl
  | 8, _ => rfl
  | 9, _ => rfl
  | 10, _ => rfl
  | 11, _ => rfl
theorem repM_len {α : Type} {m : M α} (h : ∀ s, (m s).2.b.length ≤ s.b.length) : ∀ (n : Nat) (acc : List α) (s : RS), (repM m n acc s).2.b.length ≤ s.b.length
  | 0, _, _ => Nat.le_refl _
  | n + 1, acc, s => by
    show (if s.bad = true then (acc, s) else repM m n (acc ++ [(m s).1]) (m s).2).2.b.length ≤ _
    split
    · exact Nat.le_refl _
    · exact Nat.le_trans (repM_len h n _ _) (h s)
theorem lsM_len {α : Type} {m : M α} (h : ∀ s, (m s).2.b.length ≤ s.b.length) (acc : List α) (s : RS) : (lsM rE m acc s).2.b.length ≤ s.b.length := Nat.le_trans (repM_len h _ _ _) (numE_len s)
theorem flM_le (s : RS) : (flM rE s).2.b.length ≤ s.b.length := Nat.le_trans (numE_len _) (Nat.le_trans (wdE_len _) (Nat.le_trans (numE_len _) (wdE_len s)))
theorem dM_len (p : Nat) (y : Ev) (s : RS) : (dM rE p y s).2.b.length ≤ s.b.length := by
  match p with
  | 0 => exact numE_len s
  | 1 => exact wdE_len s
  | 2 => exact pl_le s
  | 3 => exact numE_len s
  | 4 => exact numE_len s
  | 5 => exact trE_len s
  | 6 => exact lsM_len rp_le _ s
  | 7 => exact Nat.le_trans (flM_le _) (Nat.le_trans (numE_len _) (numE_len s))
  | 8 => exact numE_len s
  | 9 => exact op_le s
  | 10 => exact lsM_len op_le _ s
  | 11 => exact flM_le s
  | n + 12 => exact Nat.le_refl _
theorem dM_lists (p : Nat) (y : Ev) (s : RS) : (p ≠ 6 → (dM rE p y s).1.reports = y.reports) ∧ (p ≠ 10 → (dM rE p y s).1.ops = y.ops) ∧ (dM rE p y s).1.kind = y.kind := by
  match p with
  | 0 => exact ⟨fun _ => rfl, fun _ => rfl, rfl⟩
  | 1 => exact ⟨fun _ => rfl, fun _ => rfl, rfl⟩
  | 2 => exact ⟨fun _ => rfl, fun _ => rfl, rfl⟩
  | 3 => exact ⟨fun _ => rfl, fun _ => rfl, rfl⟩
  | 4 => exact ⟨fun _ => rfl, fun _ => rfl, rfl⟩
  | 5 => exact ⟨fun _ => rfl, fun _ => rfl, rfl⟩
  | 6 => exact ⟨fun h => absurd rfl h, fun _ => rfl, rfl⟩
  | 7 => exact ⟨fun _ => rfl, fun _ => rfl, rfl⟩
  | 8 => exact ⟨fun _ => rfl, fun _ => rfl, rfl⟩
  | 9 => exact ⟨fun _ => rfl, fun _ => rfl, rfl⟩
  | 10 => exact ⟨fun _ => rfl, fun h => absurd rfl h, rfl⟩
  | 11 => exact ⟨fun _ => rfl, fun _ => rfl, rfl⟩
  | n + 12 => exact ⟨fun _ => rfl, fun _ => rfl, rfl⟩
theorem decM_snoc (R : Rdr) : ∀ (l : List Nat) (p : Nat) (y : Ev) (s : RS), decM R (l ++ [p]) y s = dM R p (decM R l y s).1 (decM R l y s).2
  | [], _, _, _ => rfl
  | q :: l, p, y, s => decM_snoc R l p (dM R q y s).1 (dM R q y s).2
/-- What is read of the first i parts. -/
def rdP (k : Int) (r : BL) (i : Nat) : Ev × RS := decM rE ((fieldsL k).take i) (ev0 k) ⟨r, false⟩
theorem fld_get {k : Int} {i : Nat} (h2 : i < (fieldsL k).length) : ((fldI k).getD i default).toNat = (fieldsL k)[i] := by
  unfold fldI
  rw [List.getD_eq_getElem?_getD, List.getElem?_map, List.getElem?_eq_getElem h2]
  exact Int.toNat_natCast _
theorem rdP_step {k : Int} {r : BL} {i : Nat} (h : i < (fldI k).length) : dM rE ((fldI k).getD i default).toNat (rdP k r i).1 (rdP k r i).2 = rdP k r (i + 1) := by
  have h2 : i < (fieldsL k).length := by unfold fldI at h; rw [List.length_map] at h; exact h
  have e := fld_get h2
  unfold rdP
  rw [e, List.take_add_one, List.getElem?_eq_getElem h2]
  exact (decM_snoc rE _ _ _ _).symm
theorem rdP_len (k : Int) (r : BL) : ∀ (i : Nat), (rdP k r i).2.b.length ≤ r.length
  | 0 => Nat.le_refl _
  | i + 1 => by
    by_cases h : i < (fldI k).length
    · rw [← rdP_step h]
      exact Nat.le_trans (dM_len _ _ _) (rdP_len k r i)
    · have e : rdP k r (i + 1) = rdP k r i := by
        unfold rdP
        have h2 : (fieldsL k).length ≤ i := by unfold fldI at h; rw [List.length_map] at h; omega
        rw [List.take_of_length_le (by omega), List.take_of_length_le h2]
      rw [e]
      exact rdP_len k r i
theorem decM_lists : ∀ (l : List Nat) (y : Ev) (s : RS), (6 ∉ l → (decM rE l y s).1.reports = y.reports) ∧ (10 ∉ l → (decM rE l y s).1.ops = y.ops) ∧ (decM rE l y s).1.kind = y.kind
  | [], _, _ => ⟨fun _ => rfl, fun _ => rfl, rfl⟩
  | p :: l, y, s => by
    have h1 := dM_lists p y s
    have h2 := decM_lists l (dM rE p y s).1 (dM rE p y s).2
    refine ⟨fun h => ?_, fun h => ?_, h2.2.2.trans h1.2.2⟩
    · exact (h2.1 fun h' => h (by simp [h'])).trans (h1.1 fun e => h (by simp [e]))
    · exact (h2.2.1 fun h' => h (by simp [h'])).trans (h1.2.1 fun e => h (by simp [e]))
theorem rdP_lists {k : Int} {r : BL} {i : Nat} (h : i < (fldI k).length) : (((fldI k).getD i default).toNat = 6 → (rdP k r i).1.reports = []) ∧ (((fldI k).getD i default).toNat = 10 → (rdP k r i).1.ops = []) := by
  have h2 : i < (fieldsL k).length := by unfold fldI at h; rw [List.length_map] at h; exact h
  have e := fld_get h2
  have hn := fields_nodup k
  have hni : (fieldsL k)[i] ∉ (fieldsL k).take i := fun hm => by
    obtain ⟨j, hj, ej⟩ := List.mem_iff_getElem.1 hm
    rw [List.length_take] at hj
    rw [List.getElem_take] at ej
    have := (List.getElem_inj hn).1 ej
    omega
  have h3 := decM_lists ((fieldsL k).take i) (ev0 k) ⟨r, false⟩
  rw [e]
  exact ⟨fun h6 => h3.1 (h6 ▸ hni), fun h10 => h3.2.1 (h10 ▸ hni)⟩
theorem rdP_end {k : Int} {r : BL} {i : Nat} (h : ¬ i < (fldI k).length) : rdP k r i = decM rE (fieldsL k) (ev0 k) ⟨r, false⟩ := by
  unfold rdP
  rw [List.take_of_length_le (by unfold fldI at h; rw [List.length_map] at h; omega)]
end Go.Proofs.YtfmnaigedgmhoaaDoor
namespace Go.Proofs.YtfmnaigedgmhoaaDoor
open Go.RowKit
set_option linter.unusedSimpArgs false
set_option linter.unusedVariables false
set_option maxRecDepth 100000
theorem ag95 : aggB Tryd.prog 95 = some false := by unfold aggB; kernel_rfl
def rdD (a : UInt8) (r : BL) : Ev × RS := decM rE (fieldsL (a.toNat : Int)) (ev0 (a.toNat : Int)) ⟨r, false⟩
theorem decB_rd (a : UInt8) (r : BL) : decB (a :: r) = if (rdD a r).2.bad = true ∨ (rdD a r).2.b ≠ [] then none else some (rdD a r).1 := (runD_eq rE_ok (a :: r)).symm
theorem dec_k {b : BL} (h : (decide ((b.length : Int) = 0) || !inB ((b.getD 0 default).toNat : Int) 1 14) = true) : decV b = (ev0 0, 4) := by
  match b, h with
  | [], _ => rfl
  | a :: r, h =>
    have h2 : inB (a.toNat : Int) 1 14 = false := by
      rcases (Bool.or_eq_true _ _).mp h with h | h
      · have := of_decide_eq_true h
        rw [List.length_cons] at this
        omega
      · simpa using h
    unfold decV
    dsimp only
    rw [if_pos h2]
theorem dec_no {a : UInt8} {r : BL} (hk : inB (a.toNat : Int) 1 14 = true) (h : (rdD a r).2.bad = true ∨ (rdD a r).2.b ≠ [] ∨ valV (rdD a r).1 ≠ 0) : decV (a :: r) = (ev0 0, 3) := by
  unfold decV
  dsimp only
  rw [if_neg (by rw [hk]; decide), decB_rd]
  by_cases h1 : (rdD a r).2.bad = true ∨ (rdD a r).2.b ≠ []
  · rw [if_pos h1]
  · rw [if_neg h1]
    have h2 : valV (rdD a r).1 ≠ 0 := by
      rcases h with h | h | h
      · exact absurd (.inl h) h1
      · exact absurd (.inr h) h1
      · exact h
    dsimp only
    rw [if_neg h2]
theorem dec_yes {a : UInt8} {r : BL} (hk : inB (a.toNat : Int) 1 14 = true) (h1 : (rdD a r).2.bad = false) (h2 : (rdD a r).2.b = []) (h3 : valV (rdD a r).1 = 0) : decV (a :: r) = ((rdD a r).1, 0) := by
  unfold decV
  dsimp only
  rw [if_neg (by rw [hk]; decide), decB_rd, if_neg (fun h => h.elim (fun h => by rw [h1] at h; cases h) fun h => h h2)]
  dsimp only
  rw [if_pos h3]
theorem only_lists : ∀ (l : List Nat) (x y : Ev), (6 ∉ l → (onlyP l x y).reports = y.reports) ∧ (10 ∉ l → (onlyP l x y).ops = y.ops) ∧ (1 ∉ l → (onlyP l x y).text = y.text)
  | [], _, _ => ⟨fun _ => rfl, fun _ => rfl, fun _ => rfl⟩
  | p :: l, x, y => by
    have h2 := only_lists l x (setP p x y)
    have h1 : (p ≠ 6 → (setP p x y).reports = y.reports) ∧ (p ≠ 10 → (setP p x y).ops = y.ops) ∧ (p ≠ 1 → (setP p x y).text = y.text) := by
      unfold setP
      split <;> refine ⟨fun h => ?_, fun h => ?_, fun h => ?_⟩ <;> first | rfl | exact absurd rfl h
    exact ⟨fun h => (h2.1 fun h' => h (by simp [h'])).trans (h1.1 fun e => h (by simp [e])), fun h => (h2.2.1 fun h' => h (by simp [h'])).trans (h1.2.1 fun e => h (by simp [e])), fun h => (h2.2.2 fun h' => h (by simp [h'])).trans (h1.2.2 fun e => h (by simp [e]))⟩
theorem part_in {α : Type} {e : α → BL} : ∀ {l : List α} {x : α}, x ∈ l → (e x).length ≤ (l.flatMap e).length
  | y :: l, x, h => by
    rw [List.flatMap_cons, List.length_append]
    rcases List.mem_cons.1 h with rfl | h
    · omega
    · have := part_in (e := e) h; omega
theorem len_in {α : Type} {e : α → BL} (he : ∀ x, 1 ≤ (e x).length) : ∀ (l : List α), l.length ≤ (l.flatMap e).length
  | [] => Nat.le_refl _
  | y :: l => by
    rw [List.flatMap_cons, List.length_append, List.length_cons]
    have := len_in he l
    have := he y
    omega
theorem rp_len1 (r : Report) : (eRp r).length = 9 + r.read.size := by
  show (b4 r.device ++ ([_] ++ eWd r.read)).length = _
  simp only [List.length_append, b4_len, wd_len, List.length_cons, List.length_nil]
  omega
theorem rd_sm {a : UInt8} {r : BL} (hl : r.length ≤ 1000000) (hk : inB (a.toNat : Int) 1 14 = true) (h1 : (rdD a r).2.bad = false) (h2 : (rdD a r).2.b = []) : (rdD a r).1.Sm := by
  have hd : decB (a :: r) = some (rdD a r).1 := by rw [decB_rd, if_neg (fun h => h.elim (fun h => by rw [h1] at h; cases h) fun h => h h2)]
  have hkk : (rdD a r).1.kind = (a.toNat : Int) := (decM_lists (fieldsL (a.toNat : Int)) (ev0 (a.toNat : Int)) ⟨r, false⟩).2.2
  obtain ⟨he, ho, -⟩ := decB_of hd (by rw [hkk]; exact inB_iff.1 hk)
  generalize (rdD a r).1 = x at he ho
  have hr : r = (fieldsL x.kind).flatMap (ePart x) := (List.cons.inj he).2
  have hp : ∀ p ∈ fieldsL x.kind, (ePart x p).length ≤ 1000000 := fun p hp => by
    have := part_in (e := ePart x) hp
    rw [← hr] at this
    omega
  have hol := only_lists (fieldsL x.kind) x (ev0 x.kind)
  rw [show onlyP (fieldsL x.kind) x (ev0 x.kind) = x from ho.symm] at hol
  refine ⟨?_, ?_, ?_, ?_⟩
  · by_cases h : 6 ∈ fieldsL x.kind
    · have h3 : (b4 (x.reports.length : Nat) ++ x.reports.flatMap eRp).length ≤ 1000000 := hp 6 h
      rw [List.length_append] at h3
      have := len_in (e := eRp) (fun x => by rw [rp_len1]; omega) x.reports
      omega
    · rw [hol.1 h]; exact Nat.zero_le _
  · by_cases h : 10 ∈ fieldsL x.kind
    · have h3 : (b4 (x.ops.length : Nat) ++ x.ops.flatMap eOp).length ≤ 1000000 := hp 10 h
      rw [List.length_append] at h3
      have := len_in (e := eOp) (fun x => by rw [op_len]; omega) x.ops
      omega
    · rw [hol.2.1 h]; exact Nat.zero_le _
  · by_cases h : 1 ∈ fieldsL x.kind
    · have h3 : (eWd x.text).length ≤ 1000000 := hp 1 h
      rw [wd_len] at h3
      omega
    · rw [hol.2.2 h]; exact Nat.zero_le _
  · intro q hq
    by_cases h : 6 ∈ fieldsL x.kind
    · have h3 : (b4 (x.reports.length : Nat) ++ x.reports.flatMap eRp).length ≤ 1000000 := hp 6 h
      rw [List.length_append] at h3
      have h4 := part_in (e := eRp) hq
      rw [rp_len1] at h4
      omega
    · rw [hol.1 h] at hq; cases hq
theorem le_rd (k : Int) (r : BL) : RL (Le2 Tryd.prog) [rdC (ev0 k) (.v (.slice none 0 0)) (.v (.slice none 0 0)) ⟨r, false⟩].flatten [rowY (ev0 k) ⟨r, false⟩].flatten := by
  repeat (first | exact RL.nil | refine RL.cons Le2.same ?_ | refine RL.cons (Le2.nilo sz66) ?_ | refine RL.cons (Le2.nilo sz32) ?_)
theorem C20 {b : BL} (hl : b.length ≤ 1000000) : Fn Tryd.prog 20 [] [.ro (b.map bv)] [.agg (decV b).1.av, .v (.int .i64 (decV b).2)] [] := by
  refine Spec.body Tryd.func20 rfl Tryd.ntmps20 (by simp) rfl ?_; intro S0 own0 v0 w0 gl
  (refine AW.seq_k ?_; intro K hK)
  refine AW.region ?_
  refine awJ (op_alloc rfl ze35 rfl) ?_; (try simp only [nA, Nat.reduceBEq, Nat.reduceEqDiff, ↓reduceIte, Nat.reduceAdd, Nat.reduceSub])
  refine awP (op_assign rfl rfl) ?_
  refine AWL.nil ?_
  (refine hK _ ?_; clear hK K; (try simp only [nA, Nat.reduceBEq, Nat.reduceEqDiff, ↓reduceIte, Nat.reduceAdd, Nat.reduceSub]))
  (refine AW.seq_k ?_; intro K hK)
  (refine AW.seq_k ?_; intro K hK)
  refine AW.region (AWL.quiet ?_)
  refine aqP (op_move rfl rfl) ?_
  refine aqP (op_len_ro (n := b.length) rfl rfl Tryd.underlying43 (.inr (.inl ⟨_, rfl, by simp⟩))) ?_
  (first | refine aqP (op_eql rfl rfl rfl) ?_ | refine aqP (op_seql rfl rfl rfl) ?_)
  refine aqP (op_move rfl rfl) ?_
  refine' aqOr' [_, _, _, _, _, _] [12,13,14,15,16,17] rfl rfl rfl rfl rfl rfl rfl rfl rfl rfl rfl rfl (fun hb => ?_) ?_; rotate_left
  ·
   (try simp only [hcS] at hb)
   refine aqP (op_move rfl rfl) ?_
   refine aqP (op_ia_ro 0 rfl (.inl rfl) rfl Tryd.underlying43 rfl (get_mapD (f := bv) (xs := b) (by omega)) (by exact sz5) (Nat.le_of_ble_eq_true rfl)) ?_
   (first | refine aqR (op_load_ptr1 rfl rfl rfl rfl ag5 rfl rfl) ?_ | refine aqR (op_load_rop1 rfl rfl ag5) ?_)
   refine aqP (op_conv rfl rfl Tryd.underlying5 Tryd.underlying3 (wrapB _)) ?_
   refine aqQ (op_callQ (b := true) rfl en37 (C37 (n := ((b.getD 0 default).toNat : Nat)) (lo := 1) (hi := 14)) (RL.cons (by first | exact View.same rfl | exact View.nil | exact View.rof | exact View.src .ro | exact View.src .rof | exact View.src (.sl rfl rfl) | exact View.ptr rfl rfl rfl) (RL.cons (by first | exact View.same rfl | exact View.nil | exact View.rof | exact View.src .ro | exact View.src .rof | exact View.src (.sl rfl rfl) | exact View.ptr rfl rfl rfl) (RL.cons (by first | exact View.same rfl | exact View.nil | exact View.rof | exact View.src .ro | exact View.src .rof | exact View.src (.sl rfl rfl) | exact View.ptr rfl rfl rfl) (RL.nil)))) rfl) ?_; (try simp only [nA, Nat.reduceBEq, Nat.reduceEqDiff, ↓reduceIte, Nat.reduceAdd, Nat.reduceSub])
   refine aqP (op_not rfl rfl rfl) ?_
   (refine aqSeg rfl rfl rfl ?_; repeat (first | exact fun _ _ => rfl | refine upd_out rfl ?_ | refine era_out rfl ?_))
  (try simp only [nA, Nat.reduceBEq, Nat.reduceEqDiff, ↓reduceIte, Nat.reduceAdd, Nat.reduceSub])
  refine AQ.nil ?_
  (refine hK _ ?_; clear hK K; (try simp only [nA, Nat.reduceBEq, Nat.reduceEqDiff, ↓reduceIte, Nat.reduceAdd, Nat.reduceSub]))
  refine AW.cond rfl rfl rfl (fun hc => ?_) (fun hc => ?_)
  ·
   (skip); have hc1 := hc; skip
   (refine AW.seq_k ?_; intro K hK)
   refine AW.region ?_
   refine awP (op_build2 (xs := [.v (.int .i64 0), .v (.int .i64 0), .v (.string ⟨#[]⟩), .v (.int .i64 0), .v (.int .i64 0), .v (.int .i64 0), .v (.int .i64 0), .v (.int .i64 0), .v (.bool false), .v (.slice none 0 0), .v (.int .i64 0), .v (.int .i64 0), .v (.string ⟨#[]⟩), .v (.int .i64 0), .v (.string ⟨#[]⟩), .v (.int .i64 0), .v (.int .i64 0), .v (.int .i64 0), .v (.int .i64 0), .v (.int .i64 0), .v (.int .i64 0), .v (.int .i64 0), .v (.int .i64 0), .v (.int .i64 0), .v (.int .i64 0), .v (.int .i64 0), .v (.int .i64 0), .v (.slice none 0 0), .v (.string ⟨#[]⟩), .v (.int .i64 0), .v (.string ⟨#[]⟩), .v (.int .i64 0)]) rfl pl35 ze35 [] rfl rfl rfl) ?_
   refine awJ (op_store rfl rfl rfl rfl rfl rfl sz35 rfl (Nat.le_of_ble_eq_true rfl) rfl) ?_; (try simp only [nA, Nat.reduceBEq, Nat.reduceEqDiff, ↓reduceIte, Nat.reduceAdd, Nat.reduceSub])
   refine awP (op_assign rfl rfl) ?_
   refine AWL.nil ?_
   (refine hK _ ?_; clear hK K; (try simp only [nA, Nat.reduceBEq, Nat.reduceEqDiff, ↓reduceIte, Nat.reduceAdd, Nat.reduceSub]))
   refine AW.gh (Gh.slot (r := 0) (es' := [(ev0 0).av]) rfl rfl (le_ev0s 0)) ?_; (try simp only [nA, Nat.reduceBEq, Nat.reduceEqDiff, ↓reduceIte, Nat.reduceAdd, Nat.reduceSub])
   refine AW.ret ?_; (try simp only [thenE, inBlk, Nat.reduceEqDiff, ↓reduceIte]); rw [dec_k hc1]; exact RQ.of0 rfl (.cell (Nat.le_of_ble_eq_true rfl) rfl rfl rfl ag35 sz35 (Nat.le_of_ble_eq_true rfl) rfl rfl (.tmp (Nat.le_of_ble_eq_true rfl) rfl rfl .nil))
  ·
   (skip); have hc1 := hc; obtain ⟨a, r, rfl⟩ : ∃ a r, b = a :: r := (by match b, hc1 with | [], h => (simp at h) | a :: r, _ => exact ⟨a, r, rfl⟩); have hk0 : inB ((a.toNat : Nat) : Int) 1 14 = true := (by have h := (Bool.or_eq_false_iff.1 hc1).2; simpa using h); have hk := inB_iff.1 hk0; have hrl : r.length ≤ 1000000 := (by simp at hl; omega)
   refine AW.skip ?_
   (refine hK _ ?_; clear hK K; (try simp only [nA, Nat.reduceBEq, Nat.reduceEqDiff, ↓reduceIte, Nat.reduceAdd, Nat.reduceSub]))
   (refine AW.seq_k ?_; intro K hK)
   refine AW.quiet_tail 8 mix (by kernel_rfl) rfl rfl ?_
   refine aqP (op_move rfl rfl) ?_
   refine aqP (op_slice_ro 1 (a :: r).length rfl (.inl rfl) (by exact ⟨_, rfl⟩) (by simp [bndIs]) (by simp) (by simp) Tryd.underlying43 sz5 (bv_len (a :: r)) (es' := r.map bv) (by rw [List.take_of_length_le (by simp)]; rfl)) ?_; (try simp only [nA, Nat.reduceBEq, Nat.reduceEqDiff, ↓reduceIte, Nat.reduceAdd, Nat.reduceSub])
   refine aqP (op_move rfl rfl) ?_
   refine aqP (op_ia_ro 0 rfl (.inl rfl) rfl Tryd.underlying43 rfl rfl (by exact sz5) (Nat.le_of_ble_eq_true rfl)) ?_
   (first | refine aqR (op_load_ptr1 rfl rfl rfl rfl ag5 rfl rfl) ?_ | refine aqR (op_load_rop1 rfl rfl ag5) ?_)
   refine aqP (op_conv rfl rfl Tryd.underlying5 Tryd.underlying3 (wrapB _)) ?_
   refine aqP (op_build2 (xs := [_, .v (.int .i64 0), .v (.string ⟨#[]⟩), .v (.int .i64 0), .v (.int .i64 0), .v (.int .i64 0), .v (.int .i64 0), .v (.int .i64 0), .v (.bool false), .v (.slice none 0 0), .v (.int .i64 0), .v (.int .i64 0), .v (.string ⟨#[]⟩), .v (.int .i64 0), .v (.string ⟨#[]⟩), .v (.int .i64 0), .v (.int .i64 0), .v (.int .i64 0), .v (.int .i64 0), .v (.int .i64 0), .v (.int .i64 0), .v (.int .i64 0), .v (.int .i64 0), .v (.int .i64 0), .v (.int .i64 0), .v (.int .i64 0), .v (.int .i64 0), .v (.slice none 0 0), .v (.string ⟨#[]⟩), .v (.int .i64 0), .v (.string ⟨#[]⟩), .v (.int .i64 0)]) rfl pl35 ze35 [(0, [_])] rfl rfl rfl) ?_
   refine aqP (op_build2 (xs := [_, _, _, _, _, _, _, _, _, _, _, _, _, _, _, _, _, _, _, _, _, _, _, _, _, _, _, _, _, _, _, _, _, .v (.bool false)]) rfl pl94 ze94 [(0, [_]), (1, [_, _, _, _, _, _, _, _, _, _, _, _, _, _, _, _, _, _, _, _, _, _, _, _, _, _, _, _, _, _, _, _])] rfl rfl rfl) ?_
   refine AQ.nil ?_
   refine awJ (op_box rfl rfl rfl sz94 rfl) ?_; (try simp only [nA, Nat.reduceBEq, Nat.reduceEqDiff, ↓reduceIte, Nat.reduceAdd, Nat.reduceSub]); refine AWL.gh (Gh.slot2 (r := 1) (es' := [rowY (ev0 ((a.toNat : Nat) : Int)) ⟨r, false⟩]) rfl rfl (le_rd ((a.toNat : Nat) : Int) r)) ?_; (try simp only [nA, Nat.reduceBEq, Nat.reduceEqDiff, ↓reduceIte, Nat.reduceAdd, Nat.reduceSub])
   refine awP (op_assign rfl rfl) ?_
   refine AWL.nil ?_
   (refine hK _ ?_; clear hK K; (try simp only [nA, Nat.reduceBEq, Nat.reduceEqDiff, ↓reduceIte, Nat.reduceAdd, Nat.reduceSub]))
   (refine AW.seq_k ?_; intro K hK)
   refine AW.region ?_
   refine awJ (OpQ.j (op_callQA (b := true) rfl en44 (C44) (RL.nil) rfl)) ?_; (try simp only [nA, Nat.reduceBEq, Nat.reduceEqDiff, ↓reduceIte, Nat.reduceAdd, Nat.reduceSub])
   refine awJ (op_alloc rfl ze96 rfl) ?_; (try simp only [nA, Nat.reduceBEq, Nat.reduceEqDiff, ↓reduceIte, Nat.reduceAdd, Nat.reduceSub])
   refine awJ (op_store rfl rfl rfl rfl rfl rfl sz96 rfl (Nat.le_of_ble_eq_true rfl) rfl) ?_; (try simp only [nA, Nat.reduceBEq, Nat.reduceEqDiff, ↓reduceIte, Nat.reduceAdd, Nat.reduceSub])
   refine AWL.nil ?_
   (refine hK _ ?_; clear hK K; (try simp only [nA, Nat.reduceBEq, Nat.reduceEqDiff, ↓reduceIte, Nat.reduceAdd, Nat.reduceSub]))
   (refine AW.seq_k ?_; intro K hK)
   (refine AW.seq_k ?_; intro K hK)
   refine AW.region ?_
   refine awP (op_move rfl rfl) ?_
   (first | refine awP (op_nil_slot rfl rfl rfl) ?_ | refine awP (op_nil_ptr rfl rfl) ?_)
   (first | refine awP (op_fa_ptr rfl rfl rfl fl94_1 (by exact sz35) (by decide) rfl) ?_ | refine awP (op_fa_rop rfl rfl fl94_1 (by exact sz35) (by decide) (Nat.le_of_ble_eq_true rfl) rfl) ?_)
   (first | refine awP (op_fa_ptr rfl rfl rfl fl35_0 (by exact sz3) (by decide) rfl) ?_ | refine awP (op_fa_rop rfl rfl fl35_0 (by exact sz3) (by decide) (Nat.le_of_ble_eq_true rfl) rfl) ?_)
   (first | refine awR (op_load_ptr1 rfl rfl rfl rfl ag3 rfl rfl) ?_ | refine awR (op_load_rop1 rfl rfl ag3) ?_)
   refine awP (op_ia_glob (((a.toNat : Nat) : Int)).toNat rfl rfl Tryd.underlying79 (by show ((a.toNat : Nat) : Int) = _; omega) (fldI_row hk) (by exact sz78)) ?_
   (first | refine awR (op_load_ptr1 rfl rfl rfl rfl ag78 rfl rfl) ?_ | refine awR (op_load_rop1 rfl rfl ag78) ?_)
   refine awP (op_len_ro (n := (fldI ((a.toNat : Nat) : Int)).length) rfl rfl Tryd.underlying78 (.inr (.inl ⟨_, rfl, by simp⟩))) ?_
   refine awP (op_move rfl rfl) ?_
   refine AWL.nil ?_
   (refine hK _ ?_; clear hK K; (try simp only [nA, Nat.reduceBEq, Nat.reduceEqDiff, ↓reduceIte, Nat.reduceAdd, Nat.reduceSub]))
   refine AW.block ?_
   have hfn := fldI_len ((a.toNat : Nat) : Int); refine AW.loopI (fun i => [(2, .ptr 0 1 0 0), (4, .ptr 1 2 0 0), (5, .ptr 2 3 0 0), (36, .ro ((fldI ((a.toNat : Nat) : Int)).map fun n => [.v (.int .i64 n)])), (37, .v (.int .i64 (fldI ((a.toNat : Nat) : Int)).length)), (38, .v (.int .i64 (i : Nat)))]) (fun i => ⟨[(1, .own 35 [evC (ev0 0) (.v (.slice none 0 0)) (.v (.slice none 0 0))]), (2, .own 94 [rowY (rdP ((a.toNat : Nat) : Int) r i).1 (rdP ((a.toNat : Nat) : Int) r i).2]), (3, .own 96 [rdsA])], 4⟩) (fun i => i ≤ (fldI ((a.toNat : Nat) : Int)).length) (fun i => (fldI ((a.toNat : Nat) : Int)).length - i) 0 (by simp) ⟨rfl, rfl, rfl, rfl, rfl, rfl, trivial⟩ rfl ?_; intro i ρ hi; simp only [updL]; (try simp only [nA, Nat.reduceBEq, Nat.reduceEqDiff, ↓reduceIte, Nat.reduceAdd, Nat.reduceSub])
   (refine AW.seq_k ?_; intro K hK)
   refine AW.region ?_
   refine awP (op_lss rfl rfl rfl) ?_
   refine AWL.nil ?_
   (refine hK _ ?_; clear hK K; (try simp only [nA, Nat.reduceBEq, Nat.reduceEqDiff, ↓reduceIte, Nat.reduceAdd, Nat.reduceSub]))
   (refine AW.seq_k ?_; intro K hK)
   refine AW.cond rfl rfl rfl (fun hc => ?_) (fun hc => ?_)
   ·
    (skip); have hc2 := hc; have hlt : i < (fldI ((a.toNat : Nat) : Int)).length := (by simpa using hc2); have hpb := fldI_bd hlt; have hp11 : ((fldI ((a.toNat : Nat) : Int)).getD i default).toNat ≤ 11 := (by omega); have h610 := rdP_lists (r := r) hlt
    refine AW.skip ?_
    (refine hK _ ?_; clear hK K; (try simp only [nA, Nat.reduceBEq, Nat.reduceEqDiff, ↓reduceIte, Nat.reduceAdd, Nat.reduceSub]))
    (refine AW.seq_k ?_; intro K hK)
    refine AW.block ?_
    (refine AW.seq_k ?_; intro K hK)
    refine AW.region ?_
    refine awP (op_ia_ro i rfl (.inl rfl) rfl Tryd.underlying78 rfl (get_mapD (by omega)) (by exact sz80) (Nat.le_of_ble_eq_true rfl)) ?_
    (first | refine awR (op_load_ptr1 rfl rfl rfl rfl ag80 rfl rfl) ?_ | refine awR (op_load_rop1 rfl rfl ag80) ?_)
    refine awP (op_assign rfl rfl) ?_
    refine AWL.nil ?_
    (refine hK _ ?_; clear hK K; (try simp only [nA, Nat.reduceBEq, Nat.reduceEqDiff, ↓reduceIte, Nat.reduceAdd, Nat.reduceSub]))
    refine AW.region ?_
    refine awP (op_move rfl rfl) ?_
    refine awP (op_ia_arr ((fldI ((a.toNat : Nat) : Int)).getD i default).toNat 1 rfl rfl rfl rfl Tryd.underlying96 (by omega) (by omega) sz95 (j' := ((fldI ((a.toNat : Nat) : Int)).getD i default).toNat) (by omega)) ?_
    refine awR (op_load_ptr1 (row := rdsA) rfl rfl rfl rfl ag95 (rds_get hp11) rfl) ?_
    refine awP (op_move rfl rfl) ?_
    refine awJ (op_val1 rfl rfl (en_p hp11) (C73p hp11 (Nat.le_trans (rdP_len ((a.toNat : Nat) : Int) r i) hrl) h610.1 h610.2) (by exact rfl) (RL.cons .ptr RL.nil) (by exact ⟨_, _, _, rfl, rfl, rfl⟩) (by exact rfl) (by exact rfl) (by exact rfl)) ?_; (try simp only [nA, Nat.reduceBEq, Nat.reduceEqDiff, ↓reduceIte, Nat.reduceAdd, Nat.reduceSub])
    refine AWL.nil ?_
    (try simp only [thenE, inBlk, Nat.reduceEqDiff, ↓reduceIte])
    (refine hK _ ?_; clear hK K; (try simp only [nA, Nat.reduceBEq, Nat.reduceEqDiff, ↓reduceIte, Nat.reduceAdd, Nat.reduceSub]))
    refine AW.region ?_
    (first | refine awP (op_addi rfl rfl rfl (by omega)) ?_ | refine awP (op_add rfl rfl rfl rfl) ?_)
    refine awP (op_move rfl rfl) ?_
    skip
    refine AWL.nil ?_
    refine ⟨i + 1, by omega, by omega, ⟨rfl, rfl, rfl, rfl, rfl, rfl, trivial⟩, congrArg (fun z : Ev × RS => (⟨[(1, .own 35 [evC (ev0 0) (.v (.slice none 0 0)) (.v (.slice none 0 0))]), (2, .own 94 [rowY z.1 z.2]), (3, .own 96 [rdsA])], 4⟩ : Sl)) (rdP_step hlt), (by first | rfl | trivial)⟩
   ·
    (skip); have hc2 := hc; have hnl : ¬ i < (fldI ((a.toNat : Nat) : Int)).length := (by simpa using hc2); rw [show rdP ((a.toNat : Nat) : Int) r i = rdD a r from rdP_end hnl]; refine AW.gh (Gh.freezeC (r := 1) 0 10 rfl rfl rfl (rp_flat _) rfl) ?_; (try simp only [nA, Nat.reduceBEq, Nat.reduceEqDiff, ↓reduceIte, Nat.reduceAdd, Nat.reduceSub]); refine AW.gh (Gh.freezeC (r := 1) 0 28 rfl rfl rfl (op_flat _) rfl) ?_; (try simp only [nA, Nat.reduceBEq, Nat.reduceEqDiff, ↓reduceIte, Nat.reduceAdd, Nat.reduceSub])
    refine AW.exit ?_; (try simp only [thenE, inBlk, Nat.reduceEqDiff, ↓reduceIte])
    clear hK K
    (refine hK _ ?_; clear hK K; (try simp only [nA, Nat.reduceBEq, Nat.reduceEqDiff, ↓reduceIte, Nat.reduceAdd, Nat.reduceSub]))
    (refine AW.seq_k ?_; intro K hK)
    (refine AW.seq_k ?_; intro K hK)
    refine AW.region (AWL.quiet ?_)
    refine aqP (op_move rfl rfl) ?_
    (first | refine aqP (op_nil_slot rfl rfl rfl) ?_ | refine aqP (op_nil_ptr rfl rfl) ?_)
    (first | refine aqP (op_fa_ptr rfl rfl rfl fl94_2 (by exact sz4) (by decide) rfl) ?_ | refine aqP (op_fa_rop rfl rfl fl94_2 (by exact sz4) (by decide) (Nat.le_of_ble_eq_true rfl) rfl) ?_)
    (first | refine aqR (op_load_ptr1 rfl rfl rfl rfl ag4 rfl rfl) ?_ | refine aqR (op_load_rop1 rfl rfl ag4) ?_)
    refine aqP (op_move rfl rfl) ?_
    refine' aqOr' [_, _, _, _, _, _] [53,54,55,56,57,58] rfl rfl rfl rfl rfl rfl rfl rfl rfl rfl rfl rfl (fun hb => ?_) ?_; rotate_left
    ·
     (try simp only [hcS] at hb)
     refine aqP (op_move rfl rfl) ?_
     (first | refine aqP (op_nil_slot rfl rfl rfl) ?_ | refine aqP (op_nil_ptr rfl rfl) ?_)
     (first | refine aqP (op_fa_ptr rfl rfl rfl fl94_0 (by exact sz43) (by decide) rfl) ?_ | refine aqP (op_fa_rop rfl rfl fl94_0 (by exact sz43) (by decide) (Nat.le_of_ble_eq_true rfl) rfl) ?_)
     (first | refine aqR (op_load_ptr1 rfl rfl rfl rfl ag43 rfl rfl) ?_ | refine aqR (op_load_rop1 rfl rfl ag43) ?_)
     refine aqP (op_len_ro (n := (rdD a r).2.b.length) rfl rfl Tryd.underlying43 (.inr (.inl ⟨_, rfl, by simp⟩))) ?_
     refine aqP (op_gtr rfl rfl rfl) ?_
     (refine aqSeg rfl rfl rfl ?_; repeat (first | exact fun _ _ => rfl | refine upd_out rfl ?_ | refine era_out rfl ?_))
    (try simp only [nA, Nat.reduceBEq, Nat.reduceEqDiff, ↓reduceIte, Nat.reduceAdd, Nat.reduceSub])
    refine aqP (op_move rfl rfl) ?_
    refine' aqOr' [_, _, _, _, _, _] [61,62,63,64,65,66] rfl rfl rfl rfl rfl rfl rfl rfl rfl rfl rfl rfl (fun hb => ?_) ?_; rotate_left
    ·
     (try simp only [hcS] at hb)
     refine aqP (op_move rfl rfl) ?_
     (first | refine aqP (op_nil_slot rfl rfl rfl) ?_ | refine aqP (op_nil_ptr rfl rfl) ?_)
     (first | refine aqP (op_fa_ptr rfl rfl rfl fl94_1 (by exact sz35) (by decide) rfl) ?_ | refine aqP (op_fa_rop rfl rfl fl94_1 (by exact sz35) (by decide) (Nat.le_of_ble_eq_true rfl) rfl) ?_)
     (first | refine aqR (op_load_ptr rfl rfl rfl rfl ag35 sz35 (Nat.le_of_ble_eq_true rfl) rfl) ?_ | refine aqR (op_load_rop rfl rfl ag35 sz35 (Nat.le_of_ble_eq_true rfl) (by decide) rfl) ?_)
     refine aqQ (op_callQ (b := true) rfl en15 (C15 (x := (rdD a r).1) (by have hq : (rdD a r).2.bad = false ∧ (rdD a r).2.b = [] := (by simpa using hb); exact rd_sm hrl hk0 hq.1 hq.2)) (RL.cons (by first | exact View.same rfl | exact View.nil | exact View.rof | exact View.src .ro | exact View.src .rof | exact View.src (.sl rfl rfl) | exact View.ptr rfl rfl rfl) (RL.nil)) rfl) ?_; (try simp only [nA, Nat.reduceBEq, Nat.reduceEqDiff, ↓reduceIte, Nat.reduceAdd, Nat.reduceSub])
     (first | refine aqP (op_neq rfl rfl rfl) ?_ | refine aqP (op_sneq rfl rfl rfl) ?_)
     (refine aqSeg rfl rfl rfl ?_; repeat (first | exact fun _ _ => rfl | refine upd_out rfl ?_ | refine era_out rfl ?_))
    (try simp only [nA, Nat.reduceBEq, Nat.reduceEqDiff, ↓reduceIte, Nat.reduceAdd, Nat.reduceSub])
    refine AQ.nil ?_
    (refine hK _ ?_; clear hK K; (try simp only [nA, Nat.reduceBEq, Nat.reduceEqDiff, ↓reduceIte, Nat.reduceAdd, Nat.reduceSub]))
    refine AW.cond rfl rfl rfl (fun hc => ?_) (fun hc => ?_)
    ·
     (skip); have hc3 := hc; skip
     (refine AW.seq_k ?_; intro K hK)
     refine AW.region ?_
     refine awP (op_build2 (xs := [.v (.int .i64 0), .v (.int .i64 0), .v (.string ⟨#[]⟩), .v (.int .i64 0), .v (.int .i64 0), .v (.int .i64 0), .v (.int .i64 0), .v (.int .i64 0), .v (.bool false), .v (.slice none 0 0), .v (.int .i64 0), .v (.int .i64 0), .v (.string ⟨#[]⟩), .v (.int .i64 0), .v (.string ⟨#[]⟩), .v (.int .i64 0), .v (.int .i64 0), .v (.int .i64 0), .v (.int .i64 0), .v (.int .i64 0), .v (.int .i64 0), .v (.int .i64 0), .v (.int .i64 0), .v (.int .i64 0), .v (.int .i64 0), .v (.int .i64 0), .v (.int .i64 0), .v (.slice none 0 0), .v (.string ⟨#[]⟩), .v (.int .i64 0), .v (.string ⟨#[]⟩), .v (.int .i64 0)]) rfl pl35 ze35 [] rfl rfl rfl) ?_
     refine awJ (op_store rfl rfl rfl rfl rfl rfl sz35 rfl (Nat.le_of_ble_eq_true rfl) rfl) ?_; (try simp only [nA, Nat.reduceBEq, Nat.reduceEqDiff, ↓reduceIte, Nat.reduceAdd, Nat.reduceSub])
     refine awP (op_assign rfl rfl) ?_
     refine AWL.nil ?_
     (refine hK _ ?_; clear hK K; (try simp only [nA, Nat.reduceBEq, Nat.reduceEqDiff, ↓reduceIte, Nat.reduceAdd, Nat.reduceSub]))
     refine AW.gh (Gh.slot (r := 0) (es' := [(ev0 0).av]) rfl rfl (le_ev0s 0)) ?_; (try simp only [nA, Nat.reduceBEq, Nat.reduceEqDiff, ↓reduceIte, Nat.reduceAdd, Nat.reduceSub])
     refine AW.ret ?_; (try simp only [thenE, inBlk, Nat.reduceEqDiff, ↓reduceIte]); rw [dec_no hk0 (by have hq : ((rdD a r).2.bad = true ∨ ¬ (rdD a r).2.b = []) ∨ ¬ valV (rdD a r).1 = 0 := (by simpa [List.length_pos_iff] using hc3); rcases hq with (h | h) | h; exact .inl h; exact .inr (.inl h); exact .inr (.inr h))]; exact RQ.of0 rfl (.cell (Nat.le_of_ble_eq_true rfl) rfl rfl rfl ag35 sz35 (Nat.le_of_ble_eq_true rfl) rfl rfl (.tmp (Nat.le_of_ble_eq_true rfl) rfl rfl .nil))
    ·
     (skip); have hc3 := hc; skip
     refine AW.skip ?_
     (refine hK _ ?_; clear hK K; (try simp only [nA, Nat.reduceBEq, Nat.reduceEqDiff, ↓reduceIte, Nat.reduceAdd, Nat.reduceSub]))
     (refine AW.seq_k ?_; intro K hK)
     refine AW.region ?_
     refine awP (op_move rfl rfl) ?_
     (first | refine awP (op_nil_slot rfl rfl rfl) ?_ | refine awP (op_nil_ptr rfl rfl) ?_)
     (first | refine awP (op_fa_ptr rfl rfl rfl fl94_1 (by exact sz35) (by decide) rfl) ?_ | refine awP (op_fa_rop rfl rfl fl94_1 (by exact sz35) (by decide) (Nat.le_of_ble_eq_true rfl) rfl) ?_)
     (first | refine awR (op_load_ptr rfl rfl rfl rfl ag35 sz35 (Nat.le_of_ble_eq_true rfl) rfl) ?_ | refine awR (op_load_rop rfl rfl ag35 sz35 (Nat.le_of_ble_eq_true rfl) (by decide) rfl) ?_)
     refine awJ (op_store rfl rfl rfl rfl rfl rfl sz35 rfl (Nat.le_of_ble_eq_true rfl) rfl) ?_; (try simp only [nA, Nat.reduceBEq, Nat.reduceEqDiff, ↓reduceIte, Nat.reduceAdd, Nat.reduceSub])
     refine awP (op_assign rfl rfl) ?_
     refine AWL.nil ?_
     (refine hK _ ?_; clear hK K; (try simp only [nA, Nat.reduceBEq, Nat.reduceEqDiff, ↓reduceIte, Nat.reduceAdd, Nat.reduceSub]))
     skip
     refine AW.ret ?_; (try simp only [thenE, inBlk, Nat.reduceEqDiff, ↓reduceIte]); obtain ⟨⟨h1, h2⟩, h3⟩ : ((rdD a r).2.bad = false ∧ (rdD a r).2.b = []) ∧ valV (rdD a r).1 = 0 := (by simpa using hc3); rw [dec_yes hk0 h1 h2 h3]; exact RQ.of0 rfl (.cell (Nat.le_of_ble_eq_true rfl) rfl rfl rfl ag35 sz35 (Nat.le_of_ble_eq_true rfl) rfl rfl (.tmp (Nat.le_of_ble_eq_true rfl) rfl rfl .nil))
end Go.Proofs.YtfmnaigedgmhoaaDoor
namespace Go.Proofs.YtfmnaigedgmhoaaDoor
open Go.RowKit
set_option linter.unusedSimpArgs false
set_option linter.unusedVariables false
set_option maxRecDepth 100000
def rN (l : List Int) : Nat → Nat → Nat
  | 0, k => k
  | j + 1, k => rN l j (rawN l k)
def opV (l : List Int) (k : Nat) (d : Int) : Op := ⟨gmod (rawV l k) 1048577, d, 1 + gmod (rawV l (rN l 1 k)) 99, 1 + gmod (rawV l (rN l 2 k)) 2, 1 + gmod (rawV l (rN l 3 k)) 999, pieceV l (rN l 4 k) 1000⟩
theorem C29 {l : List Int} {k : Nat} {d : Int} (hl : l.length ≤ 2000) : Fn Tryd.prog 29 [.own 68 [srcRow l k]] [.ptr 0 0 0 0, .v (.int .i64 d)] [.agg (opV l k d).av] [.own 68 [srcRow l (rN l 7 k)]] := by
  have h1 := gmod_bd (x := rawV l (rN l 1 k)) (n := 99) (by decide)
  have h2 := gmod_bd (x := rawV l (rN l 2 k)) (n := 2) (by decide)
  have h3 := gmod_bd (x := rawV l (rN l 3 k)) (n := 999) (by decide)
  refine Spec.body Tryd.func29 rfl Tryd.ntmps29 (by simp) rfl ?_; intro S0 own0 v0 w0 gl
  (refine AW.seq_k ?_; intro K hK)
  refine AW.region ?_
  refine awJ (op_alloc rfl ze32 rfl) ?_; (try simp only [nA, Nat.reduceBEq, Nat.reduceEqDiff, ↓reduceIte, Nat.reduceAdd, Nat.reduceSub])
  refine AWL.nil ?_
  (refine hK _ ?_; clear hK K; (try simp only [nA, Nat.reduceBEq, Nat.reduceEqDiff, ↓reduceIte, Nat.reduceAdd, Nat.reduceSub]))
  (refine AW.seq_k ?_; intro K hK)
  refine AW.region ?_
  refine awP (op_move rfl rfl) ?_; (try simp only [nA, Nat.reduceBEq, Nat.reduceEqDiff, ↓reduceIte, Nat.reduceAdd, Nat.reduceSub])
  refine awJ (op_call1 rfl en22 (C22 (k := k) (n := 1048577) hl (by decide)) (by exact rfl) (RL.cons .ptr (RL.cons (.base (by first | exact View.same rfl | exact View.nil | exact View.rof | exact View.src .ro | exact View.src .rof | exact View.src (.sl rfl rfl) | exact View.ptr rfl rfl rfl)) (RL.nil))) (by exact ⟨_, _, _, rfl, rfl, rfl⟩) (by exact rfl) (by exact rfl) (by exact rfl)) ?_; (try simp only [nA, Nat.reduceBEq, Nat.reduceEqDiff, ↓reduceIte, Nat.reduceAdd, Nat.reduceSub])
  refine awP (op_move rfl rfl) ?_; (try simp only [nA, Nat.reduceBEq, Nat.reduceEqDiff, ↓reduceIte, Nat.reduceAdd, Nat.reduceSub])
  refine awP (op_move rfl rfl) ?_; (try simp only [nA, Nat.reduceBEq, Nat.reduceEqDiff, ↓reduceIte, Nat.reduceAdd, Nat.reduceSub])
  refine awJ (op_call1 rfl en22 (C22 (k := rN l 1 k) (n := 99) hl (by decide)) (by exact rfl) (RL.cons .ptr (RL.cons (.base (by first | exact View.same rfl | exact View.nil | exact View.rof | exact View.src .ro | exact View.src .rof | exact View.src (.sl rfl rfl) | exact View.ptr rfl rfl rfl)) (RL.nil))) (by exact ⟨_, _, _, rfl, rfl, rfl⟩) (by exact rfl) (by exact rfl) (by exact rfl)) ?_; (try simp only [nA, Nat.reduceBEq, Nat.reduceEqDiff, ↓reduceIte, Nat.reduceAdd, Nat.reduceSub])
  (first | refine awP (op_addi rfl rfl rfl (by omega)) ?_ | refine awP (op_add rfl rfl rfl rfl) ?_); (try simp only [nA, Nat.reduceBEq, Nat.reduceEqDiff, ↓reduceIte, Nat.reduceAdd, Nat.reduceSub])
  refine awP (op_move rfl rfl) ?_; (try simp only [nA, Nat.reduceBEq, Nat.reduceEqDiff, ↓reduceIte, Nat.reduceAdd, Nat.reduceSub])
  refine awJ (op_call1 rfl en22 (C22 (k := rN l 2 k) (n := 2) hl (by decide)) (by exact rfl) (RL.cons .ptr (RL.cons (.base (by first | exact View.same rfl | exact View.nil | exact View.rof | exact View.src .ro | exact View.src .rof | exact View.src (.sl rfl rfl) | exact View.ptr rfl rfl rfl)) (RL.nil))) (by exact ⟨_, _, _, rfl, rfl, rfl⟩) (by exact rfl) (by exact rfl) (by exact rfl)) ?_; (try simp only [nA, Nat.reduceBEq, Nat.reduceEqDiff, ↓reduceIte, Nat.reduceAdd, Nat.reduceSub])
  (first | refine awP (op_addi rfl rfl rfl (by omega)) ?_ | refine awP (op_add rfl rfl rfl rfl) ?_); (try simp only [nA, Nat.reduceBEq, Nat.reduceEqDiff, ↓reduceIte, Nat.reduceAdd, Nat.reduceSub])
  refine awP (op_move rfl rfl) ?_; (try simp only [nA, Nat.reduceBEq, Nat.reduceEqDiff, ↓reduceIte, Nat.reduceAdd, Nat.reduceSub])
  refine awJ (op_call1 rfl en22 (C22 (k := rN l 3 k) (n := 999) hl (by decide)) (by exact rfl) (RL.cons .ptr (RL.cons (.base (by first | exact View.same rfl | exact View.nil | exact View.rof | exact View.src .ro | exact View.src .rof | exact View.src (.sl rfl rfl) | exact View.ptr rfl rfl rfl)) (RL.nil))) (by exact ⟨_, _, _, rfl, rfl, rfl⟩) (by exact rfl) (by exact rfl) (by exact rfl)) ?_; (try simp only [nA, Nat.reduceBEq, Nat.reduceEqDiff, ↓reduceIte, Nat.reduceAdd, Nat.reduceSub])
  (first | refine awP (op_addi rfl rfl rfl (by omega)) ?_ | refine awP (op_add rfl rfl rfl rfl) ?_); (try simp only [nA, Nat.reduceBEq, Nat.reduceEqDiff, ↓reduceIte, Nat.reduceAdd, Nat.reduceSub])
  refine awP (op_move rfl rfl) ?_; (try simp only [nA, Nat.reduceBEq, Nat.reduceEqDiff, ↓reduceIte, Nat.reduceAdd, Nat.reduceSub])
  refine awJ (op_call1 rfl en50 (C50 (k := rN l 4 k) (n := 1000) hl (by decide)) (by exact rfl) (RL.cons .ptr (RL.cons (.base (by first | exact View.same rfl | exact View.nil | exact View.rof | exact View.src .ro | exact View.src .rof | exact View.src (.sl rfl rfl) | exact View.ptr rfl rfl rfl)) (RL.nil))) (by exact ⟨_, _, _, rfl, rfl, rfl⟩) (by exact rfl) (by exact rfl) (by exact rfl)) ?_; (try simp only [nA, Nat.reduceBEq, Nat.reduceEqDiff, ↓reduceIte, Nat.reduceAdd, Nat.reduceSub])
  refine awP (op_build2 (xs := [_, _, _, _, _, _, _, _, _, _]) rfl pl32 ze32 [(0, [_]), (1, [_]), (2, [_]), (3, [_]), (4, [_]), (5, [_, _, _, _, _])] rfl rfl rfl) ?_; (try simp only [nA, Nat.reduceBEq, Nat.reduceEqDiff, ↓reduceIte, Nat.reduceAdd, Nat.reduceSub])
  refine awJ (op_store rfl rfl rfl rfl rfl rfl sz32 rfl (Nat.le_of_ble_eq_true rfl) rfl) ?_; (try simp only [nA, Nat.reduceBEq, Nat.reduceEqDiff, ↓reduceIte, Nat.reduceAdd, Nat.reduceSub])
  refine AWL.nil ?_
  (refine hK _ ?_; clear hK K; (try simp only [nA, Nat.reduceBEq, Nat.reduceEqDiff, ↓reduceIte, Nat.reduceAdd, Nat.reduceSub]))
  skip
  refine AW.ret ?_; (try simp only [thenE, inBlk, Nat.reduceEqDiff, ↓reduceIte]); exact RQ.of (.inl rfl) rfl (.cell (Nat.le_of_ble_eq_true rfl) rfl rfl rfl ag32 sz32 (Nat.le_of_ble_eq_true rfl) rfl rfl .nil) (by simp) rfl (one_out rfl)
def evT : List ByteArray := [⟨#[]⟩, ⟨#[65]⟩, ⟨#[66, 83, 77, 10, 46, 86, 47, 49, 76, 67, 80, 72, 47, 49, 10, 69, 78, 68, 66, 83, 77, 10]⟩, ⟨#[0, 255]⟩]
def rpT : List ByteArray := [⟨#[]⟩, ⟨#[]⟩, ⟨#[48, 49, 49, 55, 48, 48, 49, 48, 48, 48]⟩, ⟨#[48, 49, 49, 55, 48, 48, 49, 48, 63, 48]⟩]
abbrev tmL : List Int := [0, 1, 300, 1048576]
def repsV (l : List Int) : Nat → Nat → List Report → List Report × Nat
  | 0, k, acc => (acc, k)
  | n + 1, k, acc => if gmod (rawV l k) 6 = 5 then repsV l n (rN l 3 k) (acc ++ [⟨((23 - n : Nat) : Int), decide (gmod (rawV l (rN l 1 k)) 2 = 1), textV l (rN l 2 k) rpT⟩]) else repsV l n (rN l 1 k) acc
def opsV (l : List Int) (d : Int) : Nat → Nat → List Op → List Op × Nat
  | 0, k, acc => (acc, k)
  | n + 1, k, acc => opsV l d n (rN l 7 k) (acc ++ [opV l k d])
def evK (l : List Int) (k : Nat) : Int := 1 + gmod (rawV l k) 14
def evD (l : List Int) (k : Nat) : Int := 1 + gmod (rawV l (rN l 1 k)) 6
def evV (l : List Int) (k : Nat) : Ev × Nat :=
  if evK l k = 1 then ({ ev0 (evK l k) with text := textV l (rN l 1 k) evT }, rN l 2 k)
  else if evK l k = 2 ∨ evK l k = 10 then ({ ev0 (evK l k) with plate := platesP (gmod (rawV l (rN l 1 k)) 1000), node := gmod (rawV l (rN l 2 k)) 24 }, rN l 3 k)
  else if evK l k = 3 then ({ ev0 (evK l k) with time := pickV l (rN l 1 k) tmL, reports := (repsV l 24 (rN l 2 k) []).1 }, (repsV l 24 (rN l 2 k) []).2)
  else if evK l k = 4 then ({ ev0 (evK l k) with image := gmod (rawV l (rN l 1 k)) 1048577, clear := decide (gmod (rawV l (rN l 2 k)) 2 = 1) }, rN l 3 k)
  else if evK l k = 5 then ({ ev0 (evK l k) with rev := ⟨1 + gmod (rawV l (rN l 1 k)) 5, gmod (rawV l (rN l 2 k)) 1048577, flS l (rN l 3 k)⟩ }, rN l 6 k)
  else if evK l k = 6 ∨ evK l k = 7 then ({ ev0 (evK l k) with node := gmod (rawV l (rN l 1 k)) 24 }, rN l 2 k)
  else if evK l k = 8 then ({ ev0 (evK l k) with op := { opV l (rN l 2 k) (evD l k) with kind := 1 }, node := gmod (rawV l (rN l 9 k)) 24 }, rN l 10 k)
  else if evK l k = 9 then ({ ev0 (evK l k) with op := { opV l (rN l 2 k) (evD l k) with kind := 2 } }, rN l 9 k)
  else if evK l k = 11 then ({ ev0 (evK l k) with device := evD l k }, rN l 2 k)
  else if evK l k = 12 then ({ ev0 (evK l k) with device := evD l k, ops := (opsV l (evD l k) (gmod (rawV l (rN l 2 k)) 6).toNat (rN l 3 k) []).1 }, (opsV l (evD l k) (gmod (rawV l (rN l 2 k)) 6).toNat (rN l 3 k) []).2)
  else if evK l k = 13 then ({ ev0 (evK l k) with fl := flS l (rN l 1 k) }, rN l 4 k)
  else (ev0 (evK l k), rN l 1 k)
section
variable {l : List Int} {k : Nat}
theorem evV_1 (h : evK l k = 1) : evV l k = ({ ev0 (evK l k) with text := textV l (rN l 1 k) evT }, rN l 2 k) := by
  unfold evV; rw [if_pos h]
theorem evV_2 (h : evK l k = 2 ∨ evK l k = 10) : evV l k = ({ ev0 (evK l k) with plate := platesP (gmod (rawV l (rN l 1 k)) 1000), node := gmod (rawV l (rN l 2 k)) 24 }, rN l 3 k) := by
  unfold evV; rw [if_neg (by omega), if_pos h]
theorem evV_3 (h : evK l k = 3) : evV l k = ({ ev0 (evK l k) with time := pickV l (rN l 1 k) tmL, reports := (repsV l 24 (rN l 2 k) []).1 }, (repsV l 24 (rN l 2 k) []).2) := by
  unfold evV; rw [if_neg (by omega), if_neg (by omega), if_pos h]
theorem evV_4 (h : evK l k = 4) : evV l k = ({ ev0 (evK l k) with image := gmod (rawV l (rN l 1 k)) 1048577, clear := decide (gmod (rawV l (rN l 2 k)) 2 = 1) }, rN l 3 k) := by
  unfold evV; rw [if_neg (by omega), if_neg (by omega), if_neg (by omega), if_pos h]
theorem evV_5 (h : evK l k = 5) : evV l k = ({ ev0 (evK l k) with rev := ⟨1 + gmod (rawV l (rN l 1 k)) 5, gmod (rawV l (rN l 2 k)) 1048577, flS l (rN l 3 k)⟩ }, rN l 6 k) := by
  unfold evV; rw [if_neg (by omega), if_neg (by omega), if_neg (by omega), if_neg (by omega), if_pos h]
theorem evV_6 (h : evK l k = 6 ∨ evK l k = 7) : evV l k = ({ ev0 (evK l k) with node := gmod (rawV l (rN l 1 k)) 24 }, rN l 2 k) := by
  unfold evV; rw [if_neg (by omega), if_neg (by omega), if_neg (by omega), if_neg (by omega), if_neg (by omega), if_pos h]
theorem evV_8 (h : evK l k = 8) : evV l k = ({ ev0 (evK l k) with op := { opV l (rN l 2 k) (evD l k) with kind := 1 }, node := gmod (rawV l (rN l 9 k)) 24 }, rN l 10 k) := by
  unfold evV; rw [if_neg (by omega), if_neg (by omega), if_neg (by omega), if_neg (by omega), if_neg (by omega), if_neg (by omega), if_pos h]
theorem evV_9 (h : evK l k = 9) : evV l k = ({ ev0 (evK l k) with op := { opV l (rN l 2 k) (evD l k) with kind := 2 } }, rN l 9 k) := by
  unfold evV; rw [if_neg (by omega), if_neg (by omega), if_neg (by omega), if_neg (by omega), if_neg (by omega), if_neg (by omega), if_neg (by omega), if_pos h]
theorem evV_11 (h : evK l k = 11) : evV l k = ({ ev0 (evK l k) with device := evD l k }, rN l 2 k) := by
  unfold evV; rw [if_neg (by omega), if_neg (by omega), if_neg (by omega), if_neg (by omega), if_neg (by omega), if_neg (by omega), if_neg (by omega), if_neg (by omega), if_pos h]
theorem evV_12 (h : evK l k = 12) : evV l k = ({ ev0 (evK l k) with device := evD l k, ops := (opsV l (evD l k) (gmod (rawV l (rN l 2 k)) 6).toNat (rN l 3 k) []).1 }, (opsV l (evD l k) (gmod (rawV l (rN l 2 k)) 6).toNat (rN l 3 k) []).2) := by
  unfold evV; rw [if_neg (by omega), if_neg (by omega), if_neg (by omega), if_neg (by omega), if_neg (by omega), if_neg (by omega), if_neg (by omega), if_neg (by omega), if_neg (by omega), if_pos h]
theorem evV_13 (h : evK l k = 13) : evV l k = ({ ev0 (evK l k) with fl := flS l (rN l 1 k) }, rN l 4 k) := by
  unfold evV; rw [if_neg (by omega), if_neg (by omega), if_neg (by omega), if_neg (by omega), if_neg (by omega), if_neg (by omega), if_neg (by omega), if_neg (by omega), if_neg (by omega), if_neg (by omega), if_pos h]
theorem evV_0 (h : evK l k ≠ 1 ∧ ¬ (evK l k = 2 ∨ evK l k = 10) ∧ evK l k ≠ 3 ∧ evK l k ≠ 4 ∧ evK l k ≠ 5 ∧ ¬ (evK l k = 6 ∨ evK l k = 7) ∧ ¬ (evK l k = 8 ∨ evK l k = 9) ∧ evK l k ≠ 11 ∧ evK l k ≠ 12 ∧ evK l k ≠ 13) : evV l k = (ev0 (evK l k), rN l 1 k) := by
  unfold evV; rw [if_neg (by omega), if_neg (by omega), if_neg (by omega), if_neg (by omega), if_neg (by omega), if_neg (by omega), if_neg (by omega), if_neg (by omega), if_neg (by omega), if_neg (by omega), if_neg (by omega)]
end
end Go.Proofs.YtfmnaigedgmhoaaDoor
namespace Go.Proofs.YtfmnaigedgmhoaaDoor
open Go.RowKit
set_option linter.unusedSimpArgs false
set_option linter.unusedVariables false
set_option maxRecDepth 100000
theorem reps_y {l : List Int} {i kk : Nat} {acc : List Report} (hi : i < 24) (h : gmod (rawV l kk) 6 = 5) : repsV l (24 - i) kk acc = repsV l (24 - (i + 1)) (rN l 3 kk) (acc ++ [⟨(i : Nat), decide (gmod (rawV l (rN l 1 kk)) 2 = 1), textV l (rN l 2 kk) rpT⟩]) := by
  obtain ⟨n, hn⟩ : ∃ n, n = 23 - i := ⟨_, rfl⟩
  rw [show 24 - i = n + 1 by omega, show 24 - (i + 1) = n by omega]
  show (if gmod (rawV l kk) 6 = 5 then _ else _) = _
  rw [if_pos h, show 23 - n = i by omega]
theorem reps_n {l : List Int} {i kk : Nat} {acc : List Report} (hi : i < 24) (h : ¬ gmod (rawV l kk) 6 = 5) : repsV l (24 - i) kk acc = repsV l (24 - (i + 1)) (rN l 1 kk) acc := by
  obtain ⟨n, hn⟩ : ∃ n, n = 23 - i := ⟨_, rfl⟩
  rw [show 24 - i = n + 1 by omega, show 24 - (i + 1) = n by omega]
  show (if gmod (rawV l kk) 6 = 5 then _ else _) = _
  rw [if_neg h]
theorem le_kr (x : Ev) : RL (Le2 Tryd.prog) [evC x (.v (.slice none 0 0)) (.v (.slice none 0 0))].flatten [evC x (.own 66 []) (.ro [])].flatten := by
  repeat (first | exact RL.nil | refine RL.cons Le2.same ?_ | refine RL.cons (Le2.nilo sz66) ?_ | refine RL.cons Le2.nil ?_)
theorem le_ko (x : Ev) : RL (Le2 Tryd.prog) [evC x (.v (.slice none 0 0)) (.v (.slice none 0 0))].flatten [evC x (.ro []) (.own 32 [])].flatten := by
  repeat (first | exact RL.nil | refine RL.cons Le2.same ?_ | refine RL.cons Le2.nil ?_ | refine RL.cons (Le2.nilo sz32) ?_)
theorem sv_flat (l : List ByteArray) : ∀ r ∈ l.map sv, ∀ c ∈ r, flatA c = true := fun r hr c hc => by
  obtain ⟨p, _, rfl⟩ := List.mem_map.1 hr
  obtain rfl : c = _ := by simpa using hc
  rfl
theorem C10 {l : List Int} {k : Nat} (hl : l.length ≤ 2000) : Fn Tryd.prog 10 [.own 68 [srcRow l k]] [.ptr 0 0 0 0] [.agg (evV l k).1.av] [.own 68 [srcRow l (evV l k).2]] := by
  have hg := gmod_bd (x := rawV l k) (n := 14) (by decide)
  have hg5 := gmod_bd (x := rawV l (rN l 1 k)) (n := 5) (by decide)
  have hg1 := gmod_bd (x := rawV l (rN l 1 k)) (n := 6) (by decide)
  have hg6 := gmod_bd (x := rawV l (rN l 2 k)) (n := 6) (by decide)
  refine Spec.body Tryd.func10 rfl Tryd.ntmps10 (by simp) rfl ?_; intro S0 own0 v0 w0 gl
  (refine AW.seq_k ?_; intro K hK)
  refine AW.region ?_
  refine awJ (op_alloc rfl ze35 rfl) ?_; (try simp only [nA, Nat.reduceBEq, Nat.reduceEqDiff, ↓reduceIte, Nat.reduceAdd, Nat.reduceSub])
  refine AWL.nil ?_
  (refine hK _ ?_; clear hK K; (try simp only [nA, Nat.reduceBEq, Nat.reduceEqDiff, ↓reduceIte, Nat.reduceAdd, Nat.reduceSub]))
  (refine AW.seq_k ?_; intro K hK)
  refine AW.region ?_
  refine awP (op_move rfl rfl) ?_; (try simp only [nA, Nat.reduceBEq, Nat.reduceEqDiff, ↓reduceIte, Nat.reduceAdd, Nat.reduceSub])
  refine awJ (op_call1 rfl en22 (C22 (k := k) (n := 14) hl (by decide)) (by exact rfl) (RL.cons .ptr (RL.cons (.base (by first | exact View.same rfl | exact View.nil | exact View.rof | exact View.src .ro | exact View.src .rof | exact View.src (.sl rfl rfl) | exact View.ptr rfl rfl rfl)) (RL.nil))) (by exact ⟨_, _, _, rfl, rfl, rfl⟩) (by exact rfl) (by exact rfl) (by exact rfl)) ?_; (try simp only [nA, Nat.reduceBEq, Nat.reduceEqDiff, ↓reduceIte, Nat.reduceAdd, Nat.reduceSub])
  refine awP (op_add (z := (evK l k)) rfl rfl rfl (by rw [IntKind.wrap_i64]; unfold evK; omega)) ?_; (try simp only [nA, Nat.reduceBEq, Nat.reduceEqDiff, ↓reduceIte, Nat.reduceAdd, Nat.reduceSub])
  refine awP (op_build2 (xs := [_, .v (.int .i64 0), .v (.string ⟨#[]⟩), .v (.int .i64 0), .v (.int .i64 0), .v (.int .i64 0), .v (.int .i64 0), .v (.int .i64 0), .v (.bool false), .v (.slice none 0 0), .v (.int .i64 0), .v (.int .i64 0), .v (.string ⟨#[]⟩), .v (.int .i64 0), .v (.string ⟨#[]⟩), .v (.int .i64 0), .v (.int .i64 0), .v (.int .i64 0), .v (.int .i64 0), .v (.int .i64 0), .v (.int .i64 0), .v (.int .i64 0), .v (.int .i64 0), .v (.int .i64 0), .v (.int .i64 0), .v (.int .i64 0), .v (.int .i64 0), .v (.slice none 0 0), .v (.string ⟨#[]⟩), .v (.int .i64 0), .v (.string ⟨#[]⟩), .v (.int .i64 0)]) rfl pl35 ze35 [(0, [_])] rfl rfl rfl) ?_; (try simp only [nA, Nat.reduceBEq, Nat.reduceEqDiff, ↓reduceIte, Nat.reduceAdd, Nat.reduceSub])
  refine awJ (op_alloc rfl ze35 rfl) ?_; (try simp only [nA, Nat.reduceBEq, Nat.reduceEqDiff, ↓reduceIte, Nat.reduceAdd, Nat.reduceSub])
  refine awJ (op_store rfl rfl rfl rfl rfl rfl sz35 rfl (Nat.le_of_ble_eq_true rfl) rfl) ?_; (try simp only [nA, Nat.reduceBEq, Nat.reduceEqDiff, ↓reduceIte, Nat.reduceAdd, Nat.reduceSub])
  refine AWL.nil ?_
  (refine hK _ ?_; clear hK K; (try simp only [nA, Nat.reduceBEq, Nat.reduceEqDiff, ↓reduceIte, Nat.reduceAdd, Nat.reduceSub]))
  refine AW.join (fun (q : Ev × Nat × Nat) => [(2, .ptr 1 1 0 0), (3, .ptr 2 2 0 0)]) (fun q => ⟨[(0, .own 68 [srcRow l q.2.1]), (1, .own 35 [evC (ev0 0) (.v (.slice none 0 0)) (.v (.slice none 0 0))]), (2, .own 35 [q.1.av])], q.2.2⟩) (fun q => (q.1, q.2.1) = evV l k) ?_ ?_
  ·
   (refine AW.seq_k ?_; intro K hK)
   refine AW.region ?_
   (first | refine awP (op_fa_ptr rfl rfl rfl fl35_0 (by exact sz3) (by decide) rfl) ?_ | refine awP (op_fa_rop rfl rfl fl35_0 (by exact sz3) (by decide) (Nat.le_of_ble_eq_true rfl) rfl) ?_); (try simp only [nA, Nat.reduceBEq, Nat.reduceEqDiff, ↓reduceIte, Nat.reduceAdd, Nat.reduceSub])
   (first | refine awR (op_load_ptr1 rfl rfl rfl rfl ag3 rfl rfl) ?_ | refine awR (op_load_rop1 rfl rfl ag3) ?_); (try simp only [nA, Nat.reduceBEq, Nat.reduceEqDiff, ↓reduceIte, Nat.reduceAdd, Nat.reduceSub])
   refine AWL.nil ?_
   (refine hK _ ?_; clear hK K; (try simp only [nA, Nat.reduceBEq, Nat.reduceEqDiff, ↓reduceIte, Nat.reduceAdd, Nat.reduceSub]))
   refine AW.block ?_
   (refine AW.seq_k ?_; intro K hK)
   refine AW.region ?_
   (first | refine awP (op_eql rfl rfl rfl) ?_ | refine awP (op_seql rfl rfl rfl) ?_); (try simp only [nA, Nat.reduceBEq, Nat.reduceEqDiff, ↓reduceIte, Nat.reduceAdd, Nat.reduceSub])
   refine awP (op_assign rfl rfl) ?_; (try simp only [nA, Nat.reduceBEq, Nat.reduceEqDiff, ↓reduceIte, Nat.reduceAdd, Nat.reduceSub])
   refine AWL.nil ?_
   (refine hK _ ?_; clear hK K; (try simp only [nA, Nat.reduceBEq, Nat.reduceEqDiff, ↓reduceIte, Nat.reduceAdd, Nat.reduceSub]))
   refine AW.cond rfl rfl rfl (fun hc => ?_) (fun hc => ?_)
   ·
    (skip); have hc1 := hc; have hk := of_decide_eq_true hc1; refine AW.gh (Gh.slot (r := 2) (es' := [(ev0 (evK l k)).av]) rfl rfl (le_ev0s (evK l k))) ?_; (try simp only [nA, Nat.reduceBEq, Nat.reduceEqDiff, ↓reduceIte, Nat.reduceAdd, Nat.reduceSub])
    refine AW.region ?_
    refine awP (op_move rfl rfl) ?_; (try simp only [nA, Nat.reduceBEq, Nat.reduceEqDiff, ↓reduceIte, Nat.reduceAdd, Nat.reduceSub])
    refine awJ (OpJ.frz (op_buildSlice rfl [(0, sv ⟨#[]⟩), (1, sv ⟨#[65]⟩), (2, sv ⟨#[66, 83, 77, 10, 46, 86, 47, 49, 76, 67, 80, 72, 47, 49, 10, 69, 78, 68, 66, 83, 77, 10]⟩), (3, sv ⟨#[0, 255]⟩)] (evT.map sv) Tryd.underlying70 ze9 rfl (by decide) rfl (by simp) rfl (Nat.le_of_ble_eq_true rfl) (by decide)) (sv_flat _) rfl) ?_; (try simp only [nA, Nat.reduceBEq, Nat.reduceEqDiff, ↓reduceIte, Nat.reduceAdd, Nat.reduceSub])
    refine awJ (op_call1 rfl en25 (C25 (k := rN l 1 k) (ss := evT) hl (by decide) (by decide)) (by exact rfl) (RL.cons .ptr (RL.cons (.base (by first | exact View.same rfl | exact View.nil | exact View.rof | exact View.src .ro | exact View.src .rof | exact View.src (.sl rfl rfl) | exact View.ptr rfl rfl rfl)) (RL.nil))) (by exact ⟨_, _, _, rfl, rfl, rfl⟩) (by exact rfl) (by exact rfl) (by exact rfl)) ?_; (try simp only [nA, Nat.reduceBEq, Nat.reduceEqDiff, ↓reduceIte, Nat.reduceAdd, Nat.reduceSub])
    (first | refine awP (op_fa_ptr rfl rfl rfl fl35_2 (by exact sz9) (by decide) rfl) ?_ | refine awP (op_fa_rop rfl rfl fl35_2 (by exact sz9) (by decide) (Nat.le_of_ble_eq_true rfl) rfl) ?_); (try simp only [nA, Nat.reduceBEq, Nat.reduceEqDiff, ↓reduceIte, Nat.reduceAdd, Nat.reduceSub])
    refine awJ (op_store rfl rfl rfl rfl rfl rfl sz9 rfl (Nat.le_of_ble_eq_true rfl) rfl) ?_; (try simp only [nA, Nat.reduceBEq, Nat.reduceEqDiff, ↓reduceIte, Nat.reduceAdd, Nat.reduceSub])
    refine AWL.nil ?_
    (try simp only [thenE, inBlk, Nat.reduceEqDiff, ↓reduceIte])
    exact ⟨(_, _, _), (evV_1 hk).symm, ⟨rfl, rfl, trivial⟩, (by first | rfl | trivial), (by first | rfl | trivial)⟩
   ·
    (skip); have hc1 := hc; skip
    refine AW.join (fun (b : Bool) => [(0, .ptr 0 0 0 0), (2, .ptr 1 1 0 0), (3, .ptr 2 2 0 0), (11, .v (.int .i64 (evK l k))), (18, .v (.bool b))]) (fun b => ⟨[(0, .own 68 [srcRow l (rN l 1 k)]), (1, .own 35 [evC (ev0 0) (.v (.slice none 0 0)) (.v (.slice none 0 0))]), (2, .own 35 [evC (ev0 (evK l k)) (.v (.slice none 0 0)) (.v (.slice none 0 0))])], 3⟩) (fun b => b = true ↔ (evK l k) = 2 ∨ (evK l k) = 10) ?_ ?_
    ·
     (refine AW.seq_k ?_; intro K hK)
     refine AW.region ?_
     (first | refine awP (op_eql rfl rfl rfl) ?_ | refine awP (op_seql rfl rfl rfl) ?_); (try simp only [nA, Nat.reduceBEq, Nat.reduceEqDiff, ↓reduceIte, Nat.reduceAdd, Nat.reduceSub])
     refine awP (op_assign rfl rfl) ?_; (try simp only [nA, Nat.reduceBEq, Nat.reduceEqDiff, ↓reduceIte, Nat.reduceAdd, Nat.reduceSub])
     refine AWL.nil ?_
     (refine hK _ ?_; clear hK K; (try simp only [nA, Nat.reduceBEq, Nat.reduceEqDiff, ↓reduceIte, Nat.reduceAdd, Nat.reduceSub]))
     refine AW.cond rfl rfl rfl (fun hc => ?_) (fun hc => ?_)
     ·
      (skip); have hc2 := hc; skip
      refine AW.skip ?_
      exact ⟨decide ((evK l k) = 2), ⟨fun h => .inl (of_decide_eq_true h), fun _ => hc2⟩, ⟨rfl, rfl, rfl, rfl, rfl, trivial⟩, (by first | rfl | trivial), (by first | rfl | trivial)⟩
     ·
      (skip); have hc2 := hc; skip
      refine AW.region ?_
      (first | refine awP (op_eql rfl rfl rfl) ?_ | refine awP (op_seql rfl rfl rfl) ?_); (try simp only [nA, Nat.reduceBEq, Nat.reduceEqDiff, ↓reduceIte, Nat.reduceAdd, Nat.reduceSub])
      refine awP (op_assign rfl rfl) ?_; (try simp only [nA, Nat.reduceBEq, Nat.reduceEqDiff, ↓reduceIte, Nat.reduceAdd, Nat.reduceSub])
      refine AWL.nil ?_
      exact ⟨decide ((evK l k) = 10), ⟨fun h => .inr (of_decide_eq_true h), fun h => h.elim (fun h => absurd h (of_decide_eq_false hc2)) decide_eq_true⟩, ⟨rfl, rfl, rfl, rfl, rfl, trivial⟩, (by first | rfl | trivial), (by first | rfl | trivial)⟩
    intro b2 ρ hb2; simp only [updL]; (try simp only [nA, Nat.reduceBEq, Nat.reduceEqDiff, ↓reduceIte, Nat.reduceAdd, Nat.reduceSub])
    refine AW.cond rfl rfl rfl (fun hc => ?_) (fun hc => ?_)
    ·
     (skip); have hc3 := hc; have hk := hb2.1 hc3; refine AW.gh (Gh.slot (r := 2) (es' := [(ev0 (evK l k)).av]) rfl rfl (le_ev0s (evK l k))) ?_; (try simp only [nA, Nat.reduceBEq, Nat.reduceEqDiff, ↓reduceIte, Nat.reduceAdd, Nat.reduceSub])
     refine AW.region ?_
     refine awP (op_move rfl rfl) ?_; (try simp only [nA, Nat.reduceBEq, Nat.reduceEqDiff, ↓reduceIte, Nat.reduceAdd, Nat.reduceSub])
     refine awJ (op_call1 rfl en26 (C26 (k := rN l 1 k) (n := 1000) hl (by decide)) (by exact rfl) (RL.cons .ptr (RL.cons (.base (by first | exact View.same rfl | exact View.nil | exact View.rof | exact View.src .ro | exact View.src .rof | exact View.src (.sl rfl rfl) | exact View.ptr rfl rfl rfl)) (RL.nil))) (by exact ⟨_, _, _, rfl, rfl, rfl⟩) (by exact rfl) (by exact rfl) (by exact rfl)) ?_; (try simp only [nA, Nat.reduceBEq, Nat.reduceEqDiff, ↓reduceIte, Nat.reduceAdd, Nat.reduceSub])
     refine awP (op_move rfl rfl) ?_; (try simp only [nA, Nat.reduceBEq, Nat.reduceEqDiff, ↓reduceIte, Nat.reduceAdd, Nat.reduceSub])
     refine awJ (op_call1 rfl en22 (C22 (k := rN l 2 k) (n := 24) hl (by decide)) (by exact rfl) (RL.cons .ptr (RL.cons (.base (by first | exact View.same rfl | exact View.nil | exact View.rof | exact View.src .ro | exact View.src .rof | exact View.src (.sl rfl rfl) | exact View.ptr rfl rfl rfl)) (RL.nil))) (by exact ⟨_, _, _, rfl, rfl, rfl⟩) (by exact rfl) (by exact rfl) (by exact rfl)) ?_; (try simp only [nA, Nat.reduceBEq, Nat.reduceEqDiff, ↓reduceIte, Nat.reduceAdd, Nat.reduceSub])
     (first | refine awP (op_fa_ptr rfl rfl rfl fl35_3 (by exact sz23) (by decide) rfl) ?_ | refine awP (op_fa_rop rfl rfl fl35_3 (by exact sz23) (by decide) (Nat.le_of_ble_eq_true rfl) rfl) ?_); (try simp only [nA, Nat.reduceBEq, Nat.reduceEqDiff, ↓reduceIte, Nat.reduceAdd, Nat.reduceSub])
     refine awJ (op_store rfl rfl rfl rfl rfl rfl sz23 rfl (Nat.le_of_ble_eq_true rfl) rfl) ?_; (try simp only [nA, Nat.reduceBEq, Nat.reduceEqDiff, ↓reduceIte, Nat.reduceAdd, Nat.reduceSub])
     (first | refine awP (op_fa_ptr rfl rfl rfl fl35_4 (by exact sz3) (by decide) rfl) ?_ | refine awP (op_fa_rop rfl rfl fl35_4 (by exact sz3) (by decide) (Nat.le_of_ble_eq_true rfl) rfl) ?_); (try simp only [nA, Nat.reduceBEq, Nat.reduceEqDiff, ↓reduceIte, Nat.reduceAdd, Nat.reduceSub])
     refine awJ (op_store rfl rfl rfl rfl rfl rfl sz3 rfl (Nat.le_of_ble_eq_true rfl) rfl) ?_; (try simp only [nA, Nat.reduceBEq, Nat.reduceEqDiff, ↓reduceIte, Nat.reduceAdd, Nat.reduceSub])
     refine AWL.nil ?_
     (try simp only [thenE, inBlk, Nat.reduceEqDiff, ↓reduceIte])
     exact ⟨(_, _, _), (evV_2 hk).symm, ⟨rfl, rfl, trivial⟩, (by first | rfl | trivial), (by first | rfl | trivial)⟩
    ·
     (skip); have hc3 := hc; skip
     (refine AW.seq_k ?_; intro K hK)
     refine AW.region ?_
     (first | refine awP (op_eql rfl rfl rfl) ?_ | refine awP (op_seql rfl rfl rfl) ?_); (try simp only [nA, Nat.reduceBEq, Nat.reduceEqDiff, ↓reduceIte, Nat.reduceAdd, Nat.reduceSub])
     refine awP (op_assign rfl rfl) ?_; (try simp only [nA, Nat.reduceBEq, Nat.reduceEqDiff, ↓reduceIte, Nat.reduceAdd, Nat.reduceSub])
     refine AWL.nil ?_
     (refine hK _ ?_; clear hK K; (try simp only [nA, Nat.reduceBEq, Nat.reduceEqDiff, ↓reduceIte, Nat.reduceAdd, Nat.reduceSub]))
     refine AW.cond rfl rfl rfl (fun hc => ?_) (fun hc => ?_)
     ·
      (skip); have hc4 := hc; have hk := of_decide_eq_true hc4; refine AW.gh (Gh.slot2 (r := 2) (es' := [evC (ev0 (evK l k)) (.own 66 []) (.ro [])]) rfl rfl (le_kr _)) ?_; (try simp only [nA, Nat.reduceBEq, Nat.reduceEqDiff, ↓reduceIte, Nat.reduceAdd, Nat.reduceSub])
      (refine AW.seq_k ?_; intro K hK)
      refine AW.region ?_
      refine awP (op_move rfl rfl) ?_; (try simp only [nA, Nat.reduceBEq, Nat.reduceEqDiff, ↓reduceIte, Nat.reduceAdd, Nat.reduceSub])
      refine awJ (OpJ.frz (op_buildSlice rfl [(0, iv 0), (1, iv 1), (2, iv 300), (3, iv 1048576)] (([0, 1, 300, 1048576] : List Int).map iv) Tryd.underlying36 ze3 rfl (by simp) (fold_dense 1 (([0, 1, 300, 1048576] : List Int).map iv) (iv_len _)) (iv_len _) rfl (Nat.le_of_ble_eq_true rfl) (by simp [maxLen])) (iv_flat tmL) rfl) ?_; (try simp only [nA, Nat.reduceBEq, Nat.reduceEqDiff, ↓reduceIte, Nat.reduceAdd, Nat.reduceSub])
      refine awJ (op_call1 rfl en27 (C27 (k := rN l 1 k) (xs := tmL) hl (by decide) (by decide)) (by exact rfl) (RL.cons .ptr (RL.cons (.base (by first | exact View.same rfl | exact View.nil | exact View.rof | exact View.src .ro | exact View.src .rof | exact View.src (.sl rfl rfl) | exact View.ptr rfl rfl rfl)) (RL.nil))) (by exact ⟨_, _, _, rfl, rfl, rfl⟩) (by exact rfl) (by exact rfl) (by exact rfl)) ?_; (try simp only [nA, Nat.reduceBEq, Nat.reduceEqDiff, ↓reduceIte, Nat.reduceAdd, Nat.reduceSub])
      (first | refine awP (op_fa_ptr rfl rfl rfl fl35_1 (by exact sz3) (by decide) rfl) ?_ | refine awP (op_fa_rop rfl rfl fl35_1 (by exact sz3) (by decide) (Nat.le_of_ble_eq_true rfl) rfl) ?_); (try simp only [nA, Nat.reduceBEq, Nat.reduceEqDiff, ↓reduceIte, Nat.reduceAdd, Nat.reduceSub])
      refine awJ (op_store rfl rfl rfl rfl rfl rfl sz3 rfl (Nat.le_of_ble_eq_true rfl) rfl) ?_; (try simp only [nA, Nat.reduceBEq, Nat.reduceEqDiff, ↓reduceIte, Nat.reduceAdd, Nat.reduceSub])
      refine AWL.nil ?_
      (refine hK _ ?_; clear hK K; (try simp only [nA, Nat.reduceBEq, Nat.reduceEqDiff, ↓reduceIte, Nat.reduceAdd, Nat.reduceSub]))
      (refine AW.seq_k ?_; intro K hK)
      refine AW.region ?_
      refine awP (op_assign rfl rfl) ?_; (try simp only [nA, Nat.reduceBEq, Nat.reduceEqDiff, ↓reduceIte, Nat.reduceAdd, Nat.reduceSub])
      refine AWL.nil ?_
      (refine hK _ ?_; clear hK K; (try simp only [nA, Nat.reduceBEq, Nat.reduceEqDiff, ↓reduceIte, Nat.reduceAdd, Nat.reduceSub]))
      refine AW.block ?_
      refine AW.loopI (fun (q : Nat × Nat × List Report × Nat) => [(0, .ptr 0 0 0 0), (2, .ptr 1 1 0 0), (3, .ptr 2 2 0 0), (4, .v (.int .i64 (q.1 : Nat)))]) (fun q => ⟨[(0, .own 68 [srcRow l q.2.1]), (1, .own 35 [evC (ev0 0) (.v (.slice none 0 0)) (.v (.slice none 0 0))]), (2, .own 35 [evC ({ ev0 (evK l k) with time := pickV l (rN l 1 k) tmL } : Ev) (.own 66 (q.2.2.1.map Report.av)) (.ro [])])], q.2.2.2⟩) (fun q => q.1 ≤ 24 ∧ repsV l (24 - q.1) q.2.1 q.2.2.1 = repsV l 24 (rN l 2 k) [] ∧ q.2.2.1.length ≤ q.1) (fun q => 24 - q.1) (0, rN l 2 k, [], 3) ⟨by dsimp only; omega, rfl, by simp⟩ ⟨rfl, rfl, rfl, rfl, trivial⟩ rfl ?_; rintro ⟨i, kk, acc, ep⟩ ρ ⟨hi, hR, hA⟩; dsimp only at hi hR hA ⊢; simp only [updL]; (try simp only [nA, Nat.reduceBEq, Nat.reduceEqDiff, ↓reduceIte, Nat.reduceAdd, Nat.reduceSub])
      (refine AW.seq_k ?_; intro K hK)
      (refine AW.seq_k ?_; intro K hK)
      refine AW.region ?_
      refine awP (op_move rfl rfl) ?_; (try simp only [nA, Nat.reduceBEq, Nat.reduceEqDiff, ↓reduceIte, Nat.reduceAdd, Nat.reduceSub])
      refine awP (op_lss rfl rfl rfl) ?_; (try simp only [nA, Nat.reduceBEq, Nat.reduceEqDiff, ↓reduceIte, Nat.reduceAdd, Nat.reduceSub])
      refine AWL.nil ?_
      (refine hK _ ?_; clear hK K; (try simp only [nA, Nat.reduceBEq, Nat.reduceEqDiff, ↓reduceIte, Nat.reduceAdd, Nat.reduceSub]))
      refine AW.cond rfl rfl rfl (fun hc => ?_) (fun hc => ?_)
      ·
       (skip); have hc5 := hc; have hlt : i < 24 := (by have := of_decide_eq_true hc5; omega)
       refine AW.skip ?_
       (refine hK _ ?_; clear hK K; (try simp only [nA, Nat.reduceBEq, Nat.reduceEqDiff, ↓reduceIte, Nat.reduceAdd, Nat.reduceSub]))
       (refine AW.seq_k ?_; intro K hK)
       refine AW.block ?_
       (refine AW.seq_k ?_; intro K hK)
       refine AW.region ?_
       refine awP (op_move rfl rfl) ?_; (try simp only [nA, Nat.reduceBEq, Nat.reduceEqDiff, ↓reduceIte, Nat.reduceAdd, Nat.reduceSub])
       refine awJ (op_call1 rfl en22 (C22 (k := kk) (n := 6) hl (by decide)) (by exact rfl) (RL.cons .ptr (RL.cons (.base (by first | exact View.same rfl | exact View.nil | exact View.rof | exact View.src .ro | exact View.src .rof | exact View.src (.sl rfl rfl) | exact View.ptr rfl rfl rfl)) (RL.nil))) (by exact ⟨_, _, _, rfl, rfl, rfl⟩) (by exact rfl) (by exact rfl) (by exact rfl)) ?_; (try simp only [nA, Nat.reduceBEq, Nat.reduceEqDiff, ↓reduceIte, Nat.reduceAdd, Nat.reduceSub])
       (first | refine awP (op_eql rfl rfl rfl) ?_ | refine awP (op_seql rfl rfl rfl) ?_); (try simp only [nA, Nat.reduceBEq, Nat.reduceEqDiff, ↓reduceIte, Nat.reduceAdd, Nat.reduceSub])
       refine AWL.nil ?_
       (refine hK _ ?_; clear hK K; (try simp only [nA, Nat.reduceBEq, Nat.reduceEqDiff, ↓reduceIte, Nat.reduceAdd, Nat.reduceSub]))
       refine AW.cond rfl rfl rfl (fun hc => ?_) (fun hc => ?_)
       ·
        (skip); have hc6 := hc; have h5 := of_decide_eq_true hc6; rw [reps_y hlt h5] at hR
        refine AW.ghE (GhE.unnest (r := 2) (row := evC ({ ev0 (evK l k) with time := pickV l (rN l 1 k) tmL } : Ev) (.own 66 (acc.map Report.av)) (.ro [])) 0 9 rfl rfl rfl) ?_; intro u hu; (try simp only [nA, Nat.reduceBEq, Nat.reduceEqDiff, ↓reduceIte, Nat.reduceAdd, Nat.reduceSub])
        refine AW.aeo (fun T' => T'.slots[2]? = some (2, .own 35 [evC ({ ev0 (evK l k) with time := pickV l (rN l 1 k) tmL } : Ev) (.v u) (.ro [])])) mix rfl ?_
        refine aePo 0 rfl (fun T' ok => op_fa_ptr rfl rfl ok fl35_7 (by exact sz24) (by decide) rfl) rfl (by kernel_rfl) (by kernel_rfl) ?_; (try simp only [nA, Nat.reduceBEq, Nat.reduceEqDiff, ↓reduceIte, Nat.reduceAdd, Nat.reduceSub])
        refine aeRo 1 rfl (fun T' ok => op_load_ptr1 (row := evC ({ ev0 (evK l k) with time := pickV l (rN l 1 k) tmL } : Ev) (.v u) (.ro [])) rfl rfl ok rfl ag24 rfl rfl) rfl (by kernel_rfl) (by kernel_rfl) ?_; (try simp only [nA, Nat.reduceBEq, Nat.reduceEqDiff, ↓reduceIte, Nat.reduceAdd, Nat.reduceSub])
        refine aePo 2 rfl (fun T' ok => op_move rfl rfl) rfl (by kernel_rfl) (by kernel_rfl) ?_; (try simp only [nA, Nat.reduceBEq, Nat.reduceEqDiff, ↓reduceIte, Nat.reduceAdd, Nat.reduceSub])
        refine aePo 3 rfl (fun T' ok => op_move rfl rfl) rfl (by kernel_rfl) (by kernel_rfl) ?_; (try simp only [nA, Nat.reduceBEq, Nat.reduceEqDiff, ↓reduceIte, Nat.reduceAdd, Nat.reduceSub])
        refine aePo 6 rfl (fun T' ok => op_move rfl rfl) rfl (by kernel_rfl) (by kernel_rfl) ?_; (try simp only [nA, Nat.reduceBEq, Nat.reduceEqDiff, ↓reduceIte, Nat.reduceAdd, Nat.reduceSub])
        refine aeFo 7 rfl (fun T' ok => OpJ.frz (op_buildSlice rfl [(0, sv ⟨#[]⟩), (1, sv ⟨#[]⟩), (2, sv ⟨#[48, 49, 49, 55, 48, 48, 49, 48, 48, 48]⟩), (3, sv ⟨#[48, 49, 49, 55, 48, 48, 49, 48, 63, 48]⟩)] (rpT.map sv) Tryd.underlying70 ze9 rfl (by decide) rfl (by simp) rfl (Nat.le_of_ble_eq_true rfl) (by decide)) (sv_flat _) rfl) rfl (by kernel_rfl) (by kernel_rfl) ?_; (try simp only [nA, Nat.reduceBEq, Nat.reduceEqDiff, ↓reduceIte, Nat.reduceAdd, Nat.reduceSub])
        refine aeJo 4 rfl (op_call1 rfl en22 (C22 (k := rN l 1 kk) (n := 2) hl (by decide)) (by exact rfl) (RL.cons .ptr (RL.cons (.base (by first | exact View.same rfl | exact View.nil | exact View.rof | exact View.src .ro | exact View.src .rof | exact View.src (.sl rfl rfl) | exact View.ptr rfl rfl rfl)) (RL.nil))) (by exact ⟨_, _, _, rfl, rfl, rfl⟩) (by exact rfl) (by exact rfl) (by exact rfl)) (by kernel_rfl) rfl ?_; (try simp only [nA, Nat.reduceBEq, Nat.reduceEqDiff, ↓reduceIte, Nat.reduceAdd, Nat.reduceSub])
        refine aePo 5 rfl (fun T' ok => op_eql rfl rfl rfl) rfl (by kernel_rfl) (by kernel_rfl) ?_; (try simp only [nA, Nat.reduceBEq, Nat.reduceEqDiff, ↓reduceIte, Nat.reduceAdd, Nat.reduceSub])
        refine aeJo 8 rfl (op_call1 rfl en25 (C25 (k := rN l 2 kk) (ss := rpT) hl (by decide) (by decide)) (by exact rfl) (RL.cons .ptr (RL.cons (.base (by first | exact View.same rfl | exact View.nil | exact View.rof | exact View.src .ro | exact View.src .rof | exact View.src (.sl rfl rfl) | exact View.ptr rfl rfl rfl)) (RL.nil))) (by exact ⟨_, _, _, rfl, rfl, rfl⟩) (by exact rfl) (by exact rfl) (by exact rfl)) (by kernel_rfl) rfl ?_; (try simp only [nA, Nat.reduceBEq, Nat.reduceEqDiff, ↓reduceIte, Nat.reduceAdd, Nat.reduceSub])
        refine aePo 9 rfl (fun T' ok => op_build2 (xs := [_, _, _]) rfl pl66 ze66 [(0, [_]), (1, [_]), (2, [_])] rfl rfl rfl) rfl (by kernel_rfl) (by kernel_rfl) ?_; (try simp only [nA, Nat.reduceBEq, Nat.reduceEqDiff, ↓reduceIte, Nat.reduceAdd, Nat.reduceSub])
        refine aeJo 10 rfl (OpJ.frz (op_buildSlice rfl [(0, (⟨(i : Nat), decide (gmod (rawV l (rN l 1 kk)) 2 = 1), textV l (rN l 2 kk) rpT⟩ : Report).av)] [(⟨(i : Nat), decide (gmod (rawV l (rN l 1 kk)) 2 = 1), textV l (rN l 2 kk) rpT⟩ : Report).av] Tryd.underlying24 ze66 rfl (by simp) rfl (by simp) rfl (Nat.le_of_ble_eq_true rfl) (by simp [maxLen])) (rp_flat [(⟨(i : Nat), decide (gmod (rawV l (rN l 1 kk)) 2 = 1), textV l (rN l 2 kk) rpT⟩ : Report)]) rfl) (by kernel_rfl) rfl ?_; (try simp only [nA, Nat.reduceBEq, Nat.reduceEqDiff, ↓reduceIte, Nat.reduceAdd, Nat.reduceSub])
        refine aeJo 11 rfl (OpJ.nm (t := 41) (r := 3) rfl rfl (op_app (rows := [(⟨(i : Nat), decide (gmod (rawV l (rN l 1 kk)) 2 = 1), textV l (rN l 2 kk) rpT⟩ : Report).av]) rfl rfl rfl rfl (by simp) .ro Tryd.underlying24 ze66 (by decide) (by simp) (by simp; omega) (by decide) (es' := (acc ++ [(⟨(i : Nat), decide (gmod (rawV l (rN l 1 kk)) 2 = 1), textV l (rN l 2 kk) rpT⟩ : Report)]).map Report.av) (by simp) (n := (acc ++ [(⟨(i : Nat), decide (gmod (rawV l (rN l 1 kk)) 2 = 1), textV l (rN l 2 kk) rpT⟩ : Report)]).length) (by simp))) (by kernel_rfl) rfl ?_; (try simp only [nA, Nat.reduceBEq, Nat.reduceEqDiff, ↓reduceIte, Nat.reduceAdd, Nat.reduceSub])
        refine aePo 12 rfl (fun T' ok => op_fa_ptr rfl rfl ok fl35_7 (by exact sz24) (by decide) rfl) rfl (by kernel_rfl) (by kernel_rfl) ?_; (try simp only [nA, Nat.reduceBEq, Nat.reduceEqDiff, ↓reduceIte, Nat.reduceAdd, Nat.reduceSub])
        refine aeLo 13 rfl (op_store_nest (r := 2) (q := 3) rfl rfl rfl rfl (row := evC ({ ev0 (evK l k) with time := pickV l (rN l 1 k) tmL } : Ev) (.v u) (.ro [])) rfl sz24 rfl (by decide) (by simp) (by simp) (es2 := [evC ({ ev0 (evK l k) with time := pickV l (rN l 1 k) tmL } : Ev) (.own 66 ((acc ++ [(⟨(i : Nat), decide (gmod (rawV l (rN l 1 kk)) 2 = 1), textV l (rN l 2 kk) rpT⟩ : Report)]).map Report.av)) (.ro [])]) rfl) (by kernel_rfl) (by kernel_rfl) ?_; (try simp only [nA, Nat.reduceBEq, Nat.reduceEqDiff, ↓reduceIte, Nat.reduceAdd, Nat.reduceSub])
        refine aeDoneo (by kernel_rfl) ?_
        (try simp only [thenE, inBlk, Nat.reduceEqDiff, ↓reduceIte])
        (refine hK _ ?_; clear hK K; (try simp only [nA, Nat.reduceBEq, Nat.reduceEqDiff, ↓reduceIte, Nat.reduceAdd, Nat.reduceSub]))
        refine AW.region ?_
        refine awP (op_move rfl rfl) ?_; (try simp only [nA, Nat.reduceBEq, Nat.reduceEqDiff, ↓reduceIte, Nat.reduceAdd, Nat.reduceSub])
        (first | refine awP (op_addi rfl rfl rfl (by omega)) ?_ | refine awP (op_add rfl rfl rfl rfl) ?_); (try simp only [nA, Nat.reduceBEq, Nat.reduceEqDiff, ↓reduceIte, Nat.reduceAdd, Nat.reduceSub])
        refine awP (op_assign rfl rfl) ?_; (try simp only [nA, Nat.reduceBEq, Nat.reduceEqDiff, ↓reduceIte, Nat.reduceAdd, Nat.reduceSub])
        refine AWL.gh (Gh.drop 3) ?_; (try simp only [nA, Nat.reduceBEq, Nat.reduceEqDiff, ↓reduceIte, Nat.reduceAdd, Nat.reduceSub])
        refine AWL.nil ?_
        refine ⟨(i + 1, rN l 3 kk, acc ++ [(⟨(i : Nat), decide (gmod (rawV l (rN l 1 kk)) 2 = 1), textV l (rN l 2 kk) rpT⟩ : Report)], _), ⟨by dsimp only; omega, hR, by dsimp only; rw [List.length_append]; simp only [List.length_cons, List.length_nil]; omega⟩, by dsimp only; omega, ⟨rfl, rfl, rfl, by dsimp only; exact congrArg (fun z => AV.v (.int .i64 z)) (by omega), trivial⟩, (by first | rfl | trivial), (by first | rfl | trivial)⟩
       ·
        (skip); have hc6 := hc; have h5 := of_decide_eq_false hc6; rw [reps_n hlt h5] at hR
        refine AW.skip ?_
        (try simp only [thenE, inBlk, Nat.reduceEqDiff, ↓reduceIte])
        (refine hK _ ?_; clear hK K; (try simp only [nA, Nat.reduceBEq, Nat.reduceEqDiff, ↓reduceIte, Nat.reduceAdd, Nat.reduceSub]))
        refine AW.region ?_
        refine awP (op_move rfl rfl) ?_; (try simp only [nA, Nat.reduceBEq, Nat.reduceEqDiff, ↓reduceIte, Nat.reduceAdd, Nat.reduceSub])
        (first | refine awP (op_addi rfl rfl rfl (by omega)) ?_ | refine awP (op_add rfl rfl rfl rfl) ?_); (try simp only [nA, Nat.reduceBEq, Nat.reduceEqDiff, ↓reduceIte, Nat.reduceAdd, Nat.reduceSub])
        refine awP (op_assign rfl rfl) ?_; (try simp only [nA, Nat.reduceBEq, Nat.reduceEqDiff, ↓reduceIte, Nat.reduceAdd, Nat.reduceSub])
        refine AWL.gh (Gh.drop 3) ?_; (try simp only [nA, Nat.reduceBEq, Nat.reduceEqDiff, ↓reduceIte, Nat.reduceAdd, Nat.reduceSub])
        refine AWL.nil ?_
        refine ⟨(i + 1, rN l 1 kk, acc, _), ⟨by dsimp only; omega, hR, by dsimp only; omega⟩, by dsimp only; omega, ⟨rfl, rfl, rfl, by dsimp only; exact congrArg (fun z => AV.v (.int .i64 z)) (by omega), trivial⟩, (by first | rfl | trivial), (by first | rfl | trivial)⟩
      ·
       (skip); have hc5 := hc; have hi24 : i = 24 := (by have := of_decide_eq_false hc5; omega); subst hi24; rw [show repsV l (24 - 24) kk acc = (acc, kk) from rfl] at hR; refine AW.gh (Gh.freezeC (r := 2) 0 9 rfl rfl rfl (rp_flat _) rfl) ?_; (try simp only [nA, Nat.reduceBEq, Nat.reduceEqDiff, ↓reduceIte, Nat.reduceAdd, Nat.reduceSub])
       refine AW.exit ?_; (try simp only [thenE, inBlk, Nat.reduceEqDiff, ↓reduceIte])
       clear hK K
       (try simp only [thenE, inBlk, Nat.reduceEqDiff, ↓reduceIte])
       exact ⟨(_, _, _), (by rw [evV_3 hk, ← hR]), ⟨rfl, rfl, trivial⟩, (by first | rfl | trivial), (by first | rfl | trivial)⟩
     ·
      (skip); have hc4 := hc; skip
      (refine AW.seq_k ?_; intro K hK)
      refine AW.region ?_
      (first | refine awP (op_eql rfl rfl rfl) ?_ | refine awP (op_seql rfl rfl rfl) ?_); (try simp only [nA, Nat.reduceBEq, Nat.reduceEqDiff, ↓reduceIte, Nat.reduceAdd, Nat.reduceSub])
      refine awP (op_assign rfl rfl) ?_; (try simp only [nA, Nat.reduceBEq, Nat.reduceEqDiff, ↓reduceIte, Nat.reduceAdd, Nat.reduceSub])
      refine AWL.nil ?_
      (refine hK _ ?_; clear hK K; (try simp only [nA, Nat.reduceBEq, Nat.reduceEqDiff, ↓reduceIte, Nat.reduceAdd, Nat.reduceSub]))
      refine AW.cond rfl rfl rfl (fun hc => ?_) (fun hc => ?_)
      ·
       (skip); have hc7 := hc; have hk := of_decide_eq_true hc7; refine AW.gh (Gh.slot (r := 2) (es' := [(ev0 (evK l k)).av]) rfl rfl (le_ev0s (evK l k))) ?_; (try simp only [nA, Nat.reduceBEq, Nat.reduceEqDiff, ↓reduceIte, Nat.reduceAdd, Nat.reduceSub])
       refine AW.region ?_
       refine awP (op_move rfl rfl) ?_; (try simp only [nA, Nat.reduceBEq, Nat.reduceEqDiff, ↓reduceIte, Nat.reduceAdd, Nat.reduceSub])
       refine awJ (op_call1 rfl en22 (C22 (k := rN l 1 k) (n := 1048577) hl (by decide)) (by exact rfl) (RL.cons .ptr (RL.cons (.base (by first | exact View.same rfl | exact View.nil | exact View.rof | exact View.src .ro | exact View.src .rof | exact View.src (.sl rfl rfl) | exact View.ptr rfl rfl rfl)) (RL.nil))) (by exact ⟨_, _, _, rfl, rfl, rfl⟩) (by exact rfl) (by exact rfl) (by exact rfl)) ?_; (try simp only [nA, Nat.reduceBEq, Nat.reduceEqDiff, ↓reduceIte, Nat.reduceAdd, Nat.reduceSub])
       refine awP (op_move rfl rfl) ?_; (try simp only [nA, Nat.reduceBEq, Nat.reduceEqDiff, ↓reduceIte, Nat.reduceAdd, Nat.reduceSub])
       refine awJ (op_call1 rfl en22 (C22 (k := rN l 2 k) (n := 2) hl (by decide)) (by exact rfl) (RL.cons .ptr (RL.cons (.base (by first | exact View.same rfl | exact View.nil | exact View.rof | exact View.src .ro | exact View.src .rof | exact View.src (.sl rfl rfl) | exact View.ptr rfl rfl rfl)) (RL.nil))) (by exact ⟨_, _, _, rfl, rfl, rfl⟩) (by exact rfl) (by exact rfl) (by exact rfl)) ?_; (try simp only [nA, Nat.reduceBEq, Nat.reduceEqDiff, ↓reduceIte, Nat.reduceAdd, Nat.reduceSub])
       (first | refine awP (op_eql rfl rfl rfl) ?_ | refine awP (op_seql rfl rfl rfl) ?_); (try simp only [nA, Nat.reduceBEq, Nat.reduceEqDiff, ↓reduceIte, Nat.reduceAdd, Nat.reduceSub])
       (first | refine awP (op_fa_ptr rfl rfl rfl fl35_5 (by exact sz3) (by decide) rfl) ?_ | refine awP (op_fa_rop rfl rfl fl35_5 (by exact sz3) (by decide) (Nat.le_of_ble_eq_true rfl) rfl) ?_); (try simp only [nA, Nat.reduceBEq, Nat.reduceEqDiff, ↓reduceIte, Nat.reduceAdd, Nat.reduceSub])
       refine awJ (op_store rfl rfl rfl rfl rfl rfl sz3 rfl (Nat.le_of_ble_eq_true rfl) rfl) ?_; (try simp only [nA, Nat.reduceBEq, Nat.reduceEqDiff, ↓reduceIte, Nat.reduceAdd, Nat.reduceSub])
       (first | refine awP (op_fa_ptr rfl rfl rfl fl35_6 (by exact sz4) (by decide) rfl) ?_ | refine awP (op_fa_rop rfl rfl fl35_6 (by exact sz4) (by decide) (Nat.le_of_ble_eq_true rfl) rfl) ?_); (try simp only [nA, Nat.reduceBEq, Nat.reduceEqDiff, ↓reduceIte, Nat.reduceAdd, Nat.reduceSub])
       refine awJ (op_store rfl rfl rfl rfl rfl rfl sz4 rfl (Nat.le_of_ble_eq_true rfl) rfl) ?_; (try simp only [nA, Nat.reduceBEq, Nat.reduceEqDiff, ↓reduceIte, Nat.reduceAdd, Nat.reduceSub])
       refine AWL.nil ?_
       (try simp only [thenE, inBlk, Nat.reduceEqDiff, ↓reduceIte])
       exact ⟨(_, _, _), (evV_4 hk).symm, ⟨rfl, rfl, trivial⟩, (by first | rfl | trivial), (by first | rfl | trivial)⟩
      ·
       (skip); have hc7 := hc; skip
       (refine AW.seq_k ?_; intro K hK)
       refine AW.region ?_
       (first | refine awP (op_eql rfl rfl rfl) ?_ | refine awP (op_seql rfl rfl rfl) ?_); (try simp only [nA, Nat.reduceBEq, Nat.reduceEqDiff, ↓reduceIte, Nat.reduceAdd, Nat.reduceSub])
       refine awP (op_assign rfl rfl) ?_; (try simp only [nA, Nat.reduceBEq, Nat.reduceEqDiff, ↓reduceIte, Nat.reduceAdd, Nat.reduceSub])
       refine AWL.nil ?_
       (refine hK _ ?_; clear hK K; (try simp only [nA, Nat.reduceBEq, Nat.reduceEqDiff, ↓reduceIte, Nat.reduceAdd, Nat.reduceSub]))
       refine AW.cond rfl rfl rfl (fun hc => ?_) (fun hc => ?_)
       ·
        (skip); have hc8 := hc; have hk := of_decide_eq_true hc8; refine AW.gh (Gh.slot (r := 2) (es' := [(ev0 (evK l k)).av]) rfl rfl (le_ev0s (evK l k))) ?_; (try simp only [nA, Nat.reduceBEq, Nat.reduceEqDiff, ↓reduceIte, Nat.reduceAdd, Nat.reduceSub])
        refine AW.region ?_
        refine awP (op_move rfl rfl) ?_; (try simp only [nA, Nat.reduceBEq, Nat.reduceEqDiff, ↓reduceIte, Nat.reduceAdd, Nat.reduceSub])
        refine awJ (op_call1 rfl en22 (C22 (k := rN l 1 k) (n := 5) hl (by decide)) (by exact rfl) (RL.cons .ptr (RL.cons (.base (by first | exact View.same rfl | exact View.nil | exact View.rof | exact View.src .ro | exact View.src .rof | exact View.src (.sl rfl rfl) | exact View.ptr rfl rfl rfl)) (RL.nil))) (by exact ⟨_, _, _, rfl, rfl, rfl⟩) (by exact rfl) (by exact rfl) (by exact rfl)) ?_; (try simp only [nA, Nat.reduceBEq, Nat.reduceEqDiff, ↓reduceIte, Nat.reduceAdd, Nat.reduceSub])
        (first | refine awP (op_addi rfl rfl rfl (by omega)) ?_ | refine awP (op_add rfl rfl rfl rfl) ?_); (try simp only [nA, Nat.reduceBEq, Nat.reduceEqDiff, ↓reduceIte, Nat.reduceAdd, Nat.reduceSub])
        refine awP (op_move rfl rfl) ?_; (try simp only [nA, Nat.reduceBEq, Nat.reduceEqDiff, ↓reduceIte, Nat.reduceAdd, Nat.reduceSub])
        refine awJ (op_call1 rfl en22 (C22 (k := rN l 2 k) (n := 1048577) hl (by decide)) (by exact rfl) (RL.cons .ptr (RL.cons (.base (by first | exact View.same rfl | exact View.nil | exact View.rof | exact View.src .ro | exact View.src .rof | exact View.src (.sl rfl rfl) | exact View.ptr rfl rfl rfl)) (RL.nil))) (by exact ⟨_, _, _, rfl, rfl, rfl⟩) (by exact rfl) (by exact rfl) (by exact rfl)) ?_; (try simp only [nA, Nat.reduceBEq, Nat.reduceEqDiff, ↓reduceIte, Nat.reduceAdd, Nat.reduceSub])
        refine awP (op_move rfl rfl) ?_; (try simp only [nA, Nat.reduceBEq, Nat.reduceEqDiff, ↓reduceIte, Nat.reduceAdd, Nat.reduceSub])
        refine awJ (op_call1 rfl en28 (C28 (k := rN l 3 k) hl) (by exact rfl) (RL.cons .ptr (RL.nil)) (by exact ⟨_, _, _, rfl, rfl, rfl⟩) (by exact rfl) (by exact rfl) (by exact rfl)) ?_; (try simp only [nA, Nat.reduceBEq, Nat.reduceEqDiff, ↓reduceIte, Nat.reduceAdd, Nat.reduceSub])
        refine awP (op_build2 (xs := [_, _, _, _, _, _]) rfl pl28 ze28 [(0, [_]), (1, [_]), (2, [_, _, _, _])] rfl rfl rfl) ?_; (try simp only [nA, Nat.reduceBEq, Nat.reduceEqDiff, ↓reduceIte, Nat.reduceAdd, Nat.reduceSub])
        (first | refine awP (op_fa_ptr rfl rfl rfl fl35_8 (by exact sz28) (by decide) rfl) ?_ | refine awP (op_fa_rop rfl rfl fl35_8 (by exact sz28) (by decide) (Nat.le_of_ble_eq_true rfl) rfl) ?_); (try simp only [nA, Nat.reduceBEq, Nat.reduceEqDiff, ↓reduceIte, Nat.reduceAdd, Nat.reduceSub])
        refine awJ (op_store rfl rfl rfl rfl rfl rfl sz28 rfl (Nat.le_of_ble_eq_true rfl) rfl) ?_; (try simp only [nA, Nat.reduceBEq, Nat.reduceEqDiff, ↓reduceIte, Nat.reduceAdd, Nat.reduceSub])
        refine AWL.nil ?_
        (try simp only [thenE, inBlk, Nat.reduceEqDiff, ↓reduceIte])
        exact ⟨(_, _, _), (evV_5 hk).symm, ⟨rfl, rfl, trivial⟩, (by first | rfl | trivial), (by first | rfl | trivial)⟩
       ·
        (skip); have hc8 := hc; skip
        refine AW.join (fun (b : Bool) => [(0, .ptr 0 0 0 0), (2, .ptr 1 1 0 0), (3, .ptr 2 2 0 0), (11, .v (.int .i64 (evK l k))), (73, .v (.bool b))]) (fun b => ⟨[(0, .own 68 [srcRow l (rN l 1 k)]), (1, .own 35 [evC (ev0 0) (.v (.slice none 0 0)) (.v (.slice none 0 0))]), (2, .own 35 [evC (ev0 (evK l k)) (.v (.slice none 0 0)) (.v (.slice none 0 0))])], 3⟩) (fun b => b = true ↔ (evK l k) = 6 ∨ (evK l k) = 7) ?_ ?_
        ·
         (refine AW.seq_k ?_; intro K hK)
         refine AW.region ?_
         (first | refine awP (op_eql rfl rfl rfl) ?_ | refine awP (op_seql rfl rfl rfl) ?_); (try simp only [nA, Nat.reduceBEq, Nat.reduceEqDiff, ↓reduceIte, Nat.reduceAdd, Nat.reduceSub])
         refine awP (op_assign rfl rfl) ?_; (try simp only [nA, Nat.reduceBEq, Nat.reduceEqDiff, ↓reduceIte, Nat.reduceAdd, Nat.reduceSub])
         refine AWL.nil ?_
         (refine hK _ ?_; clear hK K; (try simp only [nA, Nat.reduceBEq, Nat.reduceEqDiff, ↓reduceIte, Nat.reduceAdd, Nat.reduceSub]))
         refine AW.cond rfl rfl rfl (fun hc => ?_) (fun hc => ?_)
         ·
          (skip); have hc9 := hc; skip
          refine AW.skip ?_
          exact ⟨decide ((evK l k) = 6), ⟨fun h => .inl (of_decide_eq_true h), fun _ => hc9⟩, ⟨rfl, rfl, rfl, rfl, rfl, trivial⟩, (by first | rfl | trivial), (by first | rfl | trivial)⟩
         ·
          (skip); have hc9 := hc; skip
          refine AW.region ?_
          (first | refine awP (op_eql rfl rfl rfl) ?_ | refine awP (op_seql rfl rfl rfl) ?_); (try simp only [nA, Nat.reduceBEq, Nat.reduceEqDiff, ↓reduceIte, Nat.reduceAdd, Nat.reduceSub])
          refine awP (op_assign rfl rfl) ?_; (try simp only [nA, Nat.reduceBEq, Nat.reduceEqDiff, ↓reduceIte, Nat.reduceAdd, Nat.reduceSub])
          refine AWL.nil ?_
          exact ⟨decide ((evK l k) = 7), ⟨fun h => .inr (of_decide_eq_true h), fun h => h.elim (fun h => absurd h (of_decide_eq_false hc9)) decide_eq_true⟩, ⟨rfl, rfl, rfl, rfl, rfl, trivial⟩, (by first | rfl | trivial), (by first | rfl | trivial)⟩
        intro b6 ρ hb6; simp only [updL]; (try simp only [nA, Nat.reduceBEq, Nat.reduceEqDiff, ↓reduceIte, Nat.reduceAdd, Nat.reduceSub])
        refine AW.cond rfl rfl rfl (fun hc => ?_) (fun hc => ?_)
        ·
         (skip); have hc10 := hc; have hk := hb6.1 hc10; refine AW.gh (Gh.slot (r := 2) (es' := [(ev0 (evK l k)).av]) rfl rfl (le_ev0s (evK l k))) ?_; (try simp only [nA, Nat.reduceBEq, Nat.reduceEqDiff, ↓reduceIte, Nat.reduceAdd, Nat.reduceSub])
         refine AW.region ?_
         refine awP (op_move rfl rfl) ?_; (try simp only [nA, Nat.reduceBEq, Nat.reduceEqDiff, ↓reduceIte, Nat.reduceAdd, Nat.reduceSub])
         refine awJ (op_call1 rfl en22 (C22 (k := rN l 1 k) (n := 24) hl (by decide)) (by exact rfl) (RL.cons .ptr (RL.cons (.base (by first | exact View.same rfl | exact View.nil | exact View.rof | exact View.src .ro | exact View.src .rof | exact View.src (.sl rfl rfl) | exact View.ptr rfl rfl rfl)) (RL.nil))) (by exact ⟨_, _, _, rfl, rfl, rfl⟩) (by exact rfl) (by exact rfl) (by exact rfl)) ?_; (try simp only [nA, Nat.reduceBEq, Nat.reduceEqDiff, ↓reduceIte, Nat.reduceAdd, Nat.reduceSub])
         (first | refine awP (op_fa_ptr rfl rfl rfl fl35_4 (by exact sz3) (by decide) rfl) ?_ | refine awP (op_fa_rop rfl rfl fl35_4 (by exact sz3) (by decide) (Nat.le_of_ble_eq_true rfl) rfl) ?_); (try simp only [nA, Nat.reduceBEq, Nat.reduceEqDiff, ↓reduceIte, Nat.reduceAdd, Nat.reduceSub])
         refine awJ (op_store rfl rfl rfl rfl rfl rfl sz3 rfl (Nat.le_of_ble_eq_true rfl) rfl) ?_; (try simp only [nA, Nat.reduceBEq, Nat.reduceEqDiff, ↓reduceIte, Nat.reduceAdd, Nat.reduceSub])
         refine AWL.nil ?_
         (try simp only [thenE, inBlk, Nat.reduceEqDiff, ↓reduceIte])
         exact ⟨(_, _, _), (evV_6 hk).symm, ⟨rfl, rfl, trivial⟩, (by first | rfl | trivial), (by first | rfl | trivial)⟩
        ·
         (skip); have hc10 := hc; skip
         refine AW.join (fun (b : Bool) => [(0, .ptr 0 0 0 0), (2, .ptr 1 1 0 0), (3, .ptr 2 2 0 0), (11, .v (.int .i64 (evK l k))), (79, .v (.bool b))]) (fun b => ⟨[(0, .own 68 [srcRow l (rN l 1 k)]), (1, .own 35 [evC (ev0 0) (.v (.slice none 0 0)) (.v (.slice none 0 0))]), (2, .own 35 [evC (ev0 (evK l k)) (.v (.slice none 0 0)) (.v (.slice none 0 0))])], 3⟩) (fun b => b = true ↔ (evK l k) = 8 ∨ (evK l k) = 9) ?_ ?_
         ·
          (refine AW.seq_k ?_; intro K hK)
          refine AW.region ?_
          (first | refine awP (op_eql rfl rfl rfl) ?_ | refine awP (op_seql rfl rfl rfl) ?_); (try simp only [nA, Nat.reduceBEq, Nat.reduceEqDiff, ↓reduceIte, Nat.reduceAdd, Nat.reduceSub])
          refine awP (op_assign rfl rfl) ?_; (try simp only [nA, Nat.reduceBEq, Nat.reduceEqDiff, ↓reduceIte, Nat.reduceAdd, Nat.reduceSub])
          refine AWL.nil ?_
          (refine hK _ ?_; clear hK K; (try simp only [nA, Nat.reduceBEq, Nat.reduceEqDiff, ↓reduceIte, Nat.reduceAdd, Nat.reduceSub]))
          refine AW.cond rfl rfl rfl (fun hc => ?_) (fun hc => ?_)
          ·
           (skip); have hc11 := hc; skip
           refine AW.skip ?_
           exact ⟨decide ((evK l k) = 8), ⟨fun h => .inl (of_decide_eq_true h), fun _ => hc11⟩, ⟨rfl, rfl, rfl, rfl, rfl, trivial⟩, (by first | rfl | trivial), (by first | rfl | trivial)⟩
          ·
           (skip); have hc11 := hc; skip
           refine AW.region ?_
           (first | refine awP (op_eql rfl rfl rfl) ?_ | refine awP (op_seql rfl rfl rfl) ?_); (try simp only [nA, Nat.reduceBEq, Nat.reduceEqDiff, ↓reduceIte, Nat.reduceAdd, Nat.reduceSub])
           refine awP (op_assign rfl rfl) ?_; (try simp only [nA, Nat.reduceBEq, Nat.reduceEqDiff, ↓reduceIte, Nat.reduceAdd, Nat.reduceSub])
           refine AWL.nil ?_
           exact ⟨decide ((evK l k) = 9), ⟨fun h => .inr (of_decide_eq_true h), fun h => h.elim (fun h => absurd h (of_decide_eq_false hc11)) decide_eq_true⟩, ⟨rfl, rfl, rfl, rfl, rfl, trivial⟩, (by first | rfl | trivial), (by first | rfl | trivial)⟩
         intro b8 ρ hb8; simp only [updL]; (try simp only [nA, Nat.reduceBEq, Nat.reduceEqDiff, ↓reduceIte, Nat.reduceAdd, Nat.reduceSub])
         refine AW.cond rfl rfl rfl (fun hc => ?_) (fun hc => ?_)
         ·
          (skip); have hc12 := hc; have hk := hb8.1 hc12; refine AW.gh (Gh.slot (r := 2) (es' := [(ev0 (evK l k)).av]) rfl rfl (le_ev0s (evK l k))) ?_; (try simp only [nA, Nat.reduceBEq, Nat.reduceEqDiff, ↓reduceIte, Nat.reduceAdd, Nat.reduceSub])
          (refine AW.seq_k ?_; intro K hK)
          refine AW.region ?_
          refine awP (op_move rfl rfl) ?_; (try simp only [nA, Nat.reduceBEq, Nat.reduceEqDiff, ↓reduceIte, Nat.reduceAdd, Nat.reduceSub])
          refine awP (op_move rfl rfl) ?_; (try simp only [nA, Nat.reduceBEq, Nat.reduceEqDiff, ↓reduceIte, Nat.reduceAdd, Nat.reduceSub])
          refine awJ (op_call1 rfl en22 (C22 (k := rN l 1 k) (n := 6) hl (by decide)) (by exact rfl) (RL.cons .ptr (RL.cons (.base (by first | exact View.same rfl | exact View.nil | exact View.rof | exact View.src .ro | exact View.src .rof | exact View.src (.sl rfl rfl) | exact View.ptr rfl rfl rfl)) (RL.nil))) (by exact ⟨_, _, _, rfl, rfl, rfl⟩) (by exact rfl) (by exact rfl) (by exact rfl)) ?_; (try simp only [nA, Nat.reduceBEq, Nat.reduceEqDiff, ↓reduceIte, Nat.reduceAdd, Nat.reduceSub])
          refine awP (op_add (z := evD l k) rfl rfl rfl (by rw [IntKind.wrap_i64]; unfold evD; omega)) ?_; (try simp only [nA, Nat.reduceBEq, Nat.reduceEqDiff, ↓reduceIte, Nat.reduceAdd, Nat.reduceSub])
          refine awJ (op_call1 rfl en29 (C29 (k := rN l 2 k) (d := evD l k) hl) (by exact rfl) (RL.cons .ptr (RL.cons (.base (by first | exact View.same rfl | exact View.nil | exact View.rof | exact View.src .ro | exact View.src .rof | exact View.src (.sl rfl rfl) | exact View.ptr rfl rfl rfl)) (RL.nil))) (by exact ⟨_, _, _, rfl, rfl, rfl⟩) (by exact rfl) (by exact rfl) (by exact rfl)) ?_; (try simp only [nA, Nat.reduceBEq, Nat.reduceEqDiff, ↓reduceIte, Nat.reduceAdd, Nat.reduceSub])
          (first | refine awP (op_fa_ptr rfl rfl rfl fl35_10 (by exact sz32) (by decide) rfl) ?_ | refine awP (op_fa_rop rfl rfl fl35_10 (by exact sz32) (by decide) (Nat.le_of_ble_eq_true rfl) rfl) ?_); (try simp only [nA, Nat.reduceBEq, Nat.reduceEqDiff, ↓reduceIte, Nat.reduceAdd, Nat.reduceSub])
          refine awJ (op_store rfl rfl rfl rfl rfl rfl sz32 rfl (Nat.le_of_ble_eq_true rfl) rfl) ?_; (try simp only [nA, Nat.reduceBEq, Nat.reduceEqDiff, ↓reduceIte, Nat.reduceAdd, Nat.reduceSub])
          refine AWL.nil ?_
          (refine hK _ ?_; clear hK K; (try simp only [nA, Nat.reduceBEq, Nat.reduceEqDiff, ↓reduceIte, Nat.reduceAdd, Nat.reduceSub]))
          (refine AW.seq_k ?_; intro K hK)
          refine AW.region ?_
          (first | refine awP (op_fa_ptr rfl rfl rfl fl35_10 (by exact sz32) (by decide) rfl) ?_ | refine awP (op_fa_rop rfl rfl fl35_10 (by exact sz32) (by decide) (Nat.le_of_ble_eq_true rfl) rfl) ?_); (try simp only [nA, Nat.reduceBEq, Nat.reduceEqDiff, ↓reduceIte, Nat.reduceAdd, Nat.reduceSub])
          (first | refine awP (op_fa_ptr rfl rfl rfl fl32_3 (by exact sz3) (by decide) rfl) ?_ | refine awP (op_fa_rop rfl rfl fl32_3 (by exact sz3) (by decide) (Nat.le_of_ble_eq_true rfl) rfl) ?_); (try simp only [nA, Nat.reduceBEq, Nat.reduceEqDiff, ↓reduceIte, Nat.reduceAdd, Nat.reduceSub])
          refine awJ (op_store rfl rfl rfl rfl rfl rfl sz3 rfl (Nat.le_of_ble_eq_true rfl) rfl) ?_; (try simp only [nA, Nat.reduceBEq, Nat.reduceEqDiff, ↓reduceIte, Nat.reduceAdd, Nat.reduceSub])
          refine AWL.nil ?_
          (refine hK _ ?_; clear hK K; (try simp only [nA, Nat.reduceBEq, Nat.reduceEqDiff, ↓reduceIte, Nat.reduceAdd, Nat.reduceSub]))
          (refine AW.seq_k ?_; intro K hK)
          refine AW.region ?_
          (first | refine awP (op_fa_ptr rfl rfl rfl fl35_0 (by exact sz3) (by decide) rfl) ?_ | refine awP (op_fa_rop rfl rfl fl35_0 (by exact sz3) (by decide) (Nat.le_of_ble_eq_true rfl) rfl) ?_); (try simp only [nA, Nat.reduceBEq, Nat.reduceEqDiff, ↓reduceIte, Nat.reduceAdd, Nat.reduceSub])
          (first | refine awR (op_load_ptr1 rfl rfl rfl rfl ag3 rfl rfl) ?_ | refine awR (op_load_rop1 rfl rfl ag3) ?_); (try simp only [nA, Nat.reduceBEq, Nat.reduceEqDiff, ↓reduceIte, Nat.reduceAdd, Nat.reduceSub])
          (first | refine awP (op_eql rfl rfl rfl) ?_ | refine awP (op_seql rfl rfl rfl) ?_); (try simp only [nA, Nat.reduceBEq, Nat.reduceEqDiff, ↓reduceIte, Nat.reduceAdd, Nat.reduceSub])
          refine AWL.nil ?_
          (refine hK _ ?_; clear hK K; (try simp only [nA, Nat.reduceBEq, Nat.reduceEqDiff, ↓reduceIte, Nat.reduceAdd, Nat.reduceSub]))
          refine AW.cond rfl rfl rfl (fun hc => ?_) (fun hc => ?_)
          ·
           (skip); have hc13 := hc; skip
           refine AW.region ?_
           (first | refine awP (op_fa_ptr rfl rfl rfl fl35_10 (by exact sz32) (by decide) rfl) ?_ | refine awP (op_fa_rop rfl rfl fl35_10 (by exact sz32) (by decide) (Nat.le_of_ble_eq_true rfl) rfl) ?_); (try simp only [nA, Nat.reduceBEq, Nat.reduceEqDiff, ↓reduceIte, Nat.reduceAdd, Nat.reduceSub])
           (first | refine awP (op_fa_ptr rfl rfl rfl fl32_3 (by exact sz3) (by decide) rfl) ?_ | refine awP (op_fa_rop rfl rfl fl32_3 (by exact sz3) (by decide) (Nat.le_of_ble_eq_true rfl) rfl) ?_); (try simp only [nA, Nat.reduceBEq, Nat.reduceEqDiff, ↓reduceIte, Nat.reduceAdd, Nat.reduceSub])
           refine awJ (op_store rfl rfl rfl rfl rfl rfl sz3 rfl (Nat.le_of_ble_eq_true rfl) rfl) ?_; (try simp only [nA, Nat.reduceBEq, Nat.reduceEqDiff, ↓reduceIte, Nat.reduceAdd, Nat.reduceSub])
           refine AWL.nil ?_
           (try simp only [thenE, inBlk, Nat.reduceEqDiff, ↓reduceIte])
           exact ⟨(_, _, _), (evV_9 (of_decide_eq_true hc13)).symm, ⟨rfl, rfl, trivial⟩, (by first | rfl | trivial), (by first | rfl | trivial)⟩
          ·
           (skip); have hc13 := hc; skip
           refine AW.region ?_
           refine awP (op_move rfl rfl) ?_; (try simp only [nA, Nat.reduceBEq, Nat.reduceEqDiff, ↓reduceIte, Nat.reduceAdd, Nat.reduceSub])
           refine awJ (op_call1 rfl en22 (C22 (k := rN l 9 k) (n := 24) hl (by decide)) (by exact rfl) (RL.cons .ptr (RL.cons (.base (by first | exact View.same rfl | exact View.nil | exact View.rof | exact View.src .ro | exact View.src .rof | exact View.src (.sl rfl rfl) | exact View.ptr rfl rfl rfl)) (RL.nil))) (by exact ⟨_, _, _, rfl, rfl, rfl⟩) (by exact rfl) (by exact rfl) (by exact rfl)) ?_; (try simp only [nA, Nat.reduceBEq, Nat.reduceEqDiff, ↓reduceIte, Nat.reduceAdd, Nat.reduceSub])
           (first | refine awP (op_fa_ptr rfl rfl rfl fl35_4 (by exact sz3) (by decide) rfl) ?_ | refine awP (op_fa_rop rfl rfl fl35_4 (by exact sz3) (by decide) (Nat.le_of_ble_eq_true rfl) rfl) ?_); (try simp only [nA, Nat.reduceBEq, Nat.reduceEqDiff, ↓reduceIte, Nat.reduceAdd, Nat.reduceSub])
           refine awJ (op_store rfl rfl rfl rfl rfl rfl sz3 rfl (Nat.le_of_ble_eq_true rfl) rfl) ?_; (try simp only [nA, Nat.reduceBEq, Nat.reduceEqDiff, ↓reduceIte, Nat.reduceAdd, Nat.reduceSub])
           refine AWL.nil ?_
           (try simp only [thenE, inBlk, Nat.reduceEqDiff, ↓reduceIte])
           exact ⟨(_, _, _), (evV_8 (by have := of_decide_eq_false hc13; omega)).symm, ⟨rfl, rfl, trivial⟩, (by first | rfl | trivial), (by first | rfl | trivial)⟩
         ·
          (skip); have hc12 := hc; skip
          (refine AW.seq_k ?_; intro K hK)
          refine AW.region ?_
          (first | refine awP (op_eql rfl rfl rfl) ?_ | refine awP (op_seql rfl rfl rfl) ?_); (try simp only [nA, Nat.reduceBEq, Nat.reduceEqDiff, ↓reduceIte, Nat.reduceAdd, Nat.reduceSub])
          refine awP (op_assign rfl rfl) ?_; (try simp only [nA, Nat.reduceBEq, Nat.reduceEqDiff, ↓reduceIte, Nat.reduceAdd, Nat.reduceSub])
          refine AWL.nil ?_
          (refine hK _ ?_; clear hK K; (try simp only [nA, Nat.reduceBEq, Nat.reduceEqDiff, ↓reduceIte, Nat.reduceAdd, Nat.reduceSub]))
          refine AW.cond rfl rfl rfl (fun hc => ?_) (fun hc => ?_)
          ·
           (skip); have hc14 := hc; have hk := of_decide_eq_true hc14; refine AW.gh (Gh.slot (r := 2) (es' := [(ev0 (evK l k)).av]) rfl rfl (le_ev0s (evK l k))) ?_; (try simp only [nA, Nat.reduceBEq, Nat.reduceEqDiff, ↓reduceIte, Nat.reduceAdd, Nat.reduceSub])
           refine AW.region ?_
           refine awP (op_move rfl rfl) ?_; (try simp only [nA, Nat.reduceBEq, Nat.reduceEqDiff, ↓reduceIte, Nat.reduceAdd, Nat.reduceSub])
           refine awJ (op_call1 rfl en22 (C22 (k := rN l 1 k) (n := 6) hl (by decide)) (by exact rfl) (RL.cons .ptr (RL.cons (.base (by first | exact View.same rfl | exact View.nil | exact View.rof | exact View.src .ro | exact View.src .rof | exact View.src (.sl rfl rfl) | exact View.ptr rfl rfl rfl)) (RL.nil))) (by exact ⟨_, _, _, rfl, rfl, rfl⟩) (by exact rfl) (by exact rfl) (by exact rfl)) ?_; (try simp only [nA, Nat.reduceBEq, Nat.reduceEqDiff, ↓reduceIte, Nat.reduceAdd, Nat.reduceSub])
           refine awP (op_add (z := evD l k) rfl rfl rfl (by rw [IntKind.wrap_i64]; unfold evD; omega)) ?_; (try simp only [nA, Nat.reduceBEq, Nat.reduceEqDiff, ↓reduceIte, Nat.reduceAdd, Nat.reduceSub])
           (first | refine awP (op_fa_ptr rfl rfl rfl fl35_9 (by exact sz3) (by decide) rfl) ?_ | refine awP (op_fa_rop rfl rfl fl35_9 (by exact sz3) (by decide) (Nat.le_of_ble_eq_true rfl) rfl) ?_); (try simp only [nA, Nat.reduceBEq, Nat.reduceEqDiff, ↓reduceIte, Nat.reduceAdd, Nat.reduceSub])
           refine awJ (op_store rfl rfl rfl rfl rfl rfl sz3 rfl (Nat.le_of_ble_eq_true rfl) rfl) ?_; (try simp only [nA, Nat.reduceBEq, Nat.reduceEqDiff, ↓reduceIte, Nat.reduceAdd, Nat.reduceSub])
           refine AWL.nil ?_
           (try simp only [thenE, inBlk, Nat.reduceEqDiff, ↓reduceIte])
           exact ⟨(_, _, _), (evV_11 hk).symm, ⟨rfl, rfl, trivial⟩, (by first | rfl | trivial), (by first | rfl | trivial)⟩
          ·
           (skip); have hc14 := hc; skip
           (refine AW.seq_k ?_; intro K hK)
           refine AW.region ?_
           (first | refine awP (op_eql rfl rfl rfl) ?_ | refine awP (op_seql rfl rfl rfl) ?_); (try simp only [nA, Nat.reduceBEq, Nat.reduceEqDiff, ↓reduceIte, Nat.reduceAdd, Nat.reduceSub])
           refine awP (op_assign rfl rfl) ?_; (try simp only [nA, Nat.reduceBEq, Nat.reduceEqDiff, ↓reduceIte, Nat.reduceAdd, Nat.reduceSub])
           refine AWL.nil ?_
           (refine hK _ ?_; clear hK K; (try simp only [nA, Nat.reduceBEq, Nat.reduceEqDiff, ↓reduceIte, Nat.reduceAdd, Nat.reduceSub]))
           refine AW.cond rfl rfl rfl (fun hc => ?_) (fun hc => ?_)
           ·
            (skip); have hc15 := hc; have hk := of_decide_eq_true hc15; refine AW.gh (Gh.slot2 (r := 2) (es' := [evC (ev0 (evK l k)) (.ro []) (.own 32 [])]) rfl rfl (le_ko _)) ?_; (try simp only [nA, Nat.reduceBEq, Nat.reduceEqDiff, ↓reduceIte, Nat.reduceAdd, Nat.reduceSub])
            (refine AW.seq_k ?_; intro K hK)
            refine AW.region ?_
            refine awP (op_move rfl rfl) ?_; (try simp only [nA, Nat.reduceBEq, Nat.reduceEqDiff, ↓reduceIte, Nat.reduceAdd, Nat.reduceSub])
            refine awJ (op_call1 rfl en22 (C22 (k := rN l 1 k) (n := 6) hl (by decide)) (by exact rfl) (RL.cons .ptr (RL.cons (.base (by first | exact View.same rfl | exact View.nil | exact View.rof | exact View.src .ro | exact View.src .rof | exact View.src (.sl rfl rfl) | exact View.ptr rfl rfl rfl)) (RL.nil))) (by exact ⟨_, _, _, rfl, rfl, rfl⟩) (by exact rfl) (by exact rfl) (by exact rfl)) ?_; (try simp only [nA, Nat.reduceBEq, Nat.reduceEqDiff, ↓reduceIte, Nat.reduceAdd, Nat.reduceSub])
            refine awP (op_add (z := evD l k) rfl rfl rfl (by rw [IntKind.wrap_i64]; unfold evD; omega)) ?_; (try simp only [nA, Nat.reduceBEq, Nat.reduceEqDiff, ↓reduceIte, Nat.reduceAdd, Nat.reduceSub])
            (first | refine awP (op_fa_ptr rfl rfl rfl fl35_9 (by exact sz3) (by decide) rfl) ?_ | refine awP (op_fa_rop rfl rfl fl35_9 (by exact sz3) (by decide) (Nat.le_of_ble_eq_true rfl) rfl) ?_); (try simp only [nA, Nat.reduceBEq, Nat.reduceEqDiff, ↓reduceIte, Nat.reduceAdd, Nat.reduceSub])
            refine awJ (op_store rfl rfl rfl rfl rfl rfl sz3 rfl (Nat.le_of_ble_eq_true rfl) rfl) ?_; (try simp only [nA, Nat.reduceBEq, Nat.reduceEqDiff, ↓reduceIte, Nat.reduceAdd, Nat.reduceSub])
            refine AWL.nil ?_
            (refine hK _ ?_; clear hK K; (try simp only [nA, Nat.reduceBEq, Nat.reduceEqDiff, ↓reduceIte, Nat.reduceAdd, Nat.reduceSub]))
            (refine AW.seq_k ?_; intro K hK)
            refine AW.region ?_
            refine awP (op_move rfl rfl) ?_; (try simp only [nA, Nat.reduceBEq, Nat.reduceEqDiff, ↓reduceIte, Nat.reduceAdd, Nat.reduceSub])
            refine awJ (op_call1 rfl en22 (C22 (k := rN l 2 k) (n := 6) hl (by decide)) (by exact rfl) (RL.cons .ptr (RL.cons (.base (by first | exact View.same rfl | exact View.nil | exact View.rof | exact View.src .ro | exact View.src .rof | exact View.src (.sl rfl rfl) | exact View.ptr rfl rfl rfl)) (RL.nil))) (by exact ⟨_, _, _, rfl, rfl, rfl⟩) (by exact rfl) (by exact rfl) (by exact rfl)) ?_; (try simp only [nA, Nat.reduceBEq, Nat.reduceEqDiff, ↓reduceIte, Nat.reduceAdd, Nat.reduceSub])
            refine awP (op_assign rfl rfl) ?_; (try simp only [nA, Nat.reduceBEq, Nat.reduceEqDiff, ↓reduceIte, Nat.reduceAdd, Nat.reduceSub])
            refine AWL.nil ?_
            (refine hK _ ?_; clear hK K; (try simp only [nA, Nat.reduceBEq, Nat.reduceEqDiff, ↓reduceIte, Nat.reduceAdd, Nat.reduceSub]))
            refine AW.block ?_
            refine AW.loopI (fun (q : Nat × Nat × List Op × Nat) => [(0, .ptr 0 0 0 0), (2, .ptr 1 1 0 0), (3, .ptr 2 2 0 0), (5, .v (.int .i64 (q.1 : Nat)))]) (fun q => ⟨[(0, .own 68 [srcRow l q.2.1]), (1, .own 35 [evC (ev0 0) (.v (.slice none 0 0)) (.v (.slice none 0 0))]), (2, .own 35 [evC ({ ev0 (evK l k) with device := evD l k } : Ev) (.ro []) (.own 32 (q.2.2.1.map Op.av))])], q.2.2.2⟩) (fun q => q.1 ≤ 6 ∧ opsV l (evD l k) q.1 q.2.1 q.2.2.1 = opsV l (evD l k) (gmod (rawV l (rN l 2 k)) 6).toNat (rN l 3 k) [] ∧ q.2.2.1.length + q.1 ≤ 6) (fun q => q.1) ((gmod (rawV l (rN l 2 k)) 6).toNat, rN l 3 k, [], 3) ⟨by dsimp only; omega, rfl, by simp; omega⟩ ⟨rfl, rfl, rfl, by dsimp only; rw [Int.toNat_of_nonneg hg6.1]; rfl, trivial⟩ rfl ?_; rintro ⟨i, kk, acc, ep⟩ ρ ⟨hi, hR, hA⟩; dsimp only at hi hR hA ⊢; simp only [updL]; (try simp only [nA, Nat.reduceBEq, Nat.reduceEqDiff, ↓reduceIte, Nat.reduceAdd, Nat.reduceSub])
            (refine AW.seq_k ?_; intro K hK)
            (refine AW.seq_k ?_; intro K hK)
            refine AW.region ?_
            refine awP (op_move rfl rfl) ?_; (try simp only [nA, Nat.reduceBEq, Nat.reduceEqDiff, ↓reduceIte, Nat.reduceAdd, Nat.reduceSub])
            refine awP (op_gtr rfl rfl rfl) ?_; (try simp only [nA, Nat.reduceBEq, Nat.reduceEqDiff, ↓reduceIte, Nat.reduceAdd, Nat.reduceSub])
            refine AWL.nil ?_
            (refine hK _ ?_; clear hK K; (try simp only [nA, Nat.reduceBEq, Nat.reduceEqDiff, ↓reduceIte, Nat.reduceAdd, Nat.reduceSub]))
            refine AW.cond rfl rfl rfl (fun hc => ?_) (fun hc => ?_)
            ·
             (skip); have hc16 := hc; have hlt : 0 < i := (by have := of_decide_eq_true hc16; omega); obtain ⟨i, rfl⟩ : ∃ j, i = j + 1 := ⟨i - 1, by omega⟩; rw [show opsV l (evD l k) (i + 1) kk acc = opsV l (evD l k) i (rN l 7 kk) (acc ++ [opV l kk (evD l k)]) from rfl] at hR
             refine AW.skip ?_
             (refine hK _ ?_; clear hK K; (try simp only [nA, Nat.reduceBEq, Nat.reduceEqDiff, ↓reduceIte, Nat.reduceAdd, Nat.reduceSub]))
             (refine AW.seq_k ?_; intro K hK)
             refine AW.block ?_
             refine AW.ghE (GhE.unnest (r := 2) (row := evC ({ ev0 (evK l k) with device := evD l k } : Ev) (.ro []) (.own 32 (acc.map Op.av))) 0 27 rfl rfl rfl) ?_; intro u hu; (try simp only [nA, Nat.reduceBEq, Nat.reduceEqDiff, ↓reduceIte, Nat.reduceAdd, Nat.reduceSub])
             refine AW.aeo (fun T' => T'.slots[2]? = some (2, .own 35 [evC ({ ev0 (evK l k) with device := evD l k } : Ev) (.ro []) (.v u)])) mix rfl ?_
             refine aePo 0 rfl (fun T' ok => op_fa_ptr rfl rfl ok fl35_11 (by exact sz33) (by decide) rfl) rfl (by kernel_rfl) (by kernel_rfl) ?_; (try simp only [nA, Nat.reduceBEq, Nat.reduceEqDiff, ↓reduceIte, Nat.reduceAdd, Nat.reduceSub])
             refine aeRo 1 rfl (fun T' ok => op_load_ptr1 (row := evC ({ ev0 (evK l k) with device := evD l k } : Ev) (.ro []) (.v u)) rfl rfl ok rfl ag33 rfl rfl) rfl (by kernel_rfl) (by kernel_rfl) ?_; (try simp only [nA, Nat.reduceBEq, Nat.reduceEqDiff, ↓reduceIte, Nat.reduceAdd, Nat.reduceSub])
             refine aePo 2 rfl (fun T' ok => op_move rfl rfl) rfl (by kernel_rfl) (by kernel_rfl) ?_; (try simp only [nA, Nat.reduceBEq, Nat.reduceEqDiff, ↓reduceIte, Nat.reduceAdd, Nat.reduceSub])
             refine aePo 3 rfl (fun T' ok => op_fa_ptr rfl rfl ok fl35_9 (by exact sz3) (by decide) rfl) rfl (by kernel_rfl) (by kernel_rfl) ?_; (try simp only [nA, Nat.reduceBEq, Nat.reduceEqDiff, ↓reduceIte, Nat.reduceAdd, Nat.reduceSub])
             refine aeRo 4 rfl (fun T' ok => op_load_ptr1 (row := evC ({ ev0 (evK l k) with device := evD l k } : Ev) (.ro []) (.v u)) rfl rfl ok rfl ag3 rfl rfl) rfl (by kernel_rfl) (by kernel_rfl) ?_; (try simp only [nA, Nat.reduceBEq, Nat.reduceEqDiff, ↓reduceIte, Nat.reduceAdd, Nat.reduceSub])
             refine aeJo 5 rfl (op_call1 rfl en29 (C29 (k := kk) (d := evD l k) hl) (by exact rfl) (RL.cons .ptr (RL.cons (.base (by first | exact View.same rfl | exact View.nil | exact View.rof | exact View.src .ro | exact View.src .rof | exact View.src (.sl rfl rfl) | exact View.ptr rfl rfl rfl)) (RL.nil))) (by exact ⟨_, _, _, rfl, rfl, rfl⟩) (by exact rfl) (by exact rfl) (by exact rfl)) (by kernel_rfl) rfl ?_; (try simp only [nA, Nat.reduceBEq, Nat.reduceEqDiff, ↓reduceIte, Nat.reduceAdd, Nat.reduceSub])
             refine aeJo 6 rfl (OpJ.frz (op_buildSlice rfl [(0, (opV l kk (evD l k)).av)] [(opV l kk (evD l k)).av] Tryd.underlying33 ze32 rfl (by simp) rfl (by simp) rfl (Nat.le_of_ble_eq_true rfl) (by simp [maxLen])) (op_flat [(opV l kk (evD l k))]) rfl) (by kernel_rfl) rfl ?_; (try simp only [nA, Nat.reduceBEq, Nat.reduceEqDiff, ↓reduceIte, Nat.reduceAdd, Nat.reduceSub])
             refine aeJo 7 rfl (OpJ.nm (t := 117) (r := 3) rfl rfl (op_app (rows := [(opV l kk (evD l k)).av]) rfl rfl rfl rfl (by simp) .ro Tryd.underlying33 ze32 (by decide) (by simp) (by simp; omega) (by decide) (es' := (acc ++ [(opV l kk (evD l k))]).map Op.av) (by simp) (n := (acc ++ [(opV l kk (evD l k))]).length) (by simp))) (by kernel_rfl) rfl ?_; (try simp only [nA, Nat.reduceBEq, Nat.reduceEqDiff, ↓reduceIte, Nat.reduceAdd, Nat.reduceSub])
             refine aePo 8 rfl (fun T' ok => op_fa_ptr rfl rfl ok fl35_11 (by exact sz33) (by decide) rfl) rfl (by kernel_rfl) (by kernel_rfl) ?_; (try simp only [nA, Nat.reduceBEq, Nat.reduceEqDiff, ↓reduceIte, Nat.reduceAdd, Nat.reduceSub])
             refine aeLo 9 rfl (op_store_nest (r := 2) (q := 3) rfl rfl rfl rfl (row := evC ({ ev0 (evK l k) with device := evD l k } : Ev) (.ro []) (.v u)) rfl sz33 rfl (by decide) (by simp) (by simp) (es2 := [evC ({ ev0 (evK l k) with device := evD l k } : Ev) (.ro []) (.own 32 ((acc ++ [(opV l kk (evD l k))]).map Op.av))]) rfl) (by kernel_rfl) (by kernel_rfl) ?_; (try simp only [nA, Nat.reduceBEq, Nat.reduceEqDiff, ↓reduceIte, Nat.reduceAdd, Nat.reduceSub])
             refine aeDoneo (by kernel_rfl) ?_
             (try simp only [thenE, inBlk, Nat.reduceEqDiff, ↓reduceIte])
             (refine hK _ ?_; clear hK K; (try simp only [nA, Nat.reduceBEq, Nat.reduceEqDiff, ↓reduceIte, Nat.reduceAdd, Nat.reduceSub]))
             refine AW.region ?_
             refine awP (op_move rfl rfl) ?_; (try simp only [nA, Nat.reduceBEq, Nat.reduceEqDiff, ↓reduceIte, Nat.reduceAdd, Nat.reduceSub])
             (first | refine awP (op_subi rfl rfl rfl (by omega)) ?_ | refine awP (op_sub rfl rfl rfl rfl) ?_); (try simp only [nA, Nat.reduceBEq, Nat.reduceEqDiff, ↓reduceIte, Nat.reduceAdd, Nat.reduceSub])
             refine awP (op_assign rfl rfl) ?_; (try simp only [nA, Nat.reduceBEq, Nat.reduceEqDiff, ↓reduceIte, Nat.reduceAdd, Nat.reduceSub])
             refine AWL.gh (Gh.drop 3) ?_; (try simp only [nA, Nat.reduceBEq, Nat.reduceEqDiff, ↓reduceIte, Nat.reduceAdd, Nat.reduceSub])
             refine AWL.nil ?_
             refine ⟨(i, rN l 7 kk, acc ++ [(opV l kk (evD l k))], _), ⟨by dsimp only; omega, hR, by dsimp only; rw [List.length_append]; simp only [List.length_cons, List.length_nil]; omega⟩, by dsimp only; omega, ⟨rfl, rfl, rfl, by dsimp only; exact congrArg (fun z => AV.v (.int .i64 z)) (by omega), trivial⟩, (by first | rfl | trivial), (by first | rfl | trivial)⟩
            ·
             (skip); have hc16 := hc; have hi0 : i = 0 := (by have := of_decide_eq_false hc16; omega); subst hi0; rw [show opsV l (evD l k) 0 kk acc = (acc, kk) from rfl] at hR; refine AW.gh (Gh.freezeC (r := 2) 0 27 rfl rfl rfl (op_flat _) rfl) ?_; (try simp only [nA, Nat.reduceBEq, Nat.reduceEqDiff, ↓reduceIte, Nat.reduceAdd, Nat.reduceSub])
             refine AW.exit ?_; (try simp only [thenE, inBlk, Nat.reduceEqDiff, ↓reduceIte])
             clear hK K
             (try simp only [thenE, inBlk, Nat.reduceEqDiff, ↓reduceIte])
             exact ⟨(_, _, _), (by rw [evV_12 hk, ← hR]), ⟨rfl, rfl, trivial⟩, (by first | rfl | trivial), (by first | rfl | trivial)⟩
           ·
            (skip); have hc15 := hc; skip
            (refine AW.seq_k ?_; intro K hK)
            refine AW.region ?_
            (first | refine awP (op_eql rfl rfl rfl) ?_ | refine awP (op_seql rfl rfl rfl) ?_); (try simp only [nA, Nat.reduceBEq, Nat.reduceEqDiff, ↓reduceIte, Nat.reduceAdd, Nat.reduceSub])
            refine awP (op_assign rfl rfl) ?_; (try simp only [nA, Nat.reduceBEq, Nat.reduceEqDiff, ↓reduceIte, Nat.reduceAdd, Nat.reduceSub])
            refine AWL.nil ?_
            (refine hK _ ?_; clear hK K; (try simp only [nA, Nat.reduceBEq, Nat.reduceEqDiff, ↓reduceIte, Nat.reduceAdd, Nat.reduceSub]))
            refine AW.cond rfl rfl rfl (fun hc => ?_) (fun hc => ?_)
            ·
             (skip); have hc17 := hc; have hk := of_decide_eq_true hc17; refine AW.gh (Gh.slot (r := 2) (es' := [(ev0 (evK l k)).av]) rfl rfl (le_ev0s (evK l k))) ?_; (try simp only [nA, Nat.reduceBEq, Nat.reduceEqDiff, ↓reduceIte, Nat.reduceAdd, Nat.reduceSub])
             refine AW.region ?_
             refine awP (op_move rfl rfl) ?_; (try simp only [nA, Nat.reduceBEq, Nat.reduceEqDiff, ↓reduceIte, Nat.reduceAdd, Nat.reduceSub])
             refine awJ (op_call1 rfl en28 (C28 (k := rN l 1 k) hl) (by exact rfl) (RL.cons .ptr (RL.nil)) (by exact ⟨_, _, _, rfl, rfl, rfl⟩) (by exact rfl) (by exact rfl) (by exact rfl)) ?_; (try simp only [nA, Nat.reduceBEq, Nat.reduceEqDiff, ↓reduceIte, Nat.reduceAdd, Nat.reduceSub])
             (first | refine awP (op_fa_ptr rfl rfl rfl fl35_12 (by exact sz26) (by decide) rfl) ?_ | refine awP (op_fa_rop rfl rfl fl35_12 (by exact sz26) (by decide) (Nat.le_of_ble_eq_true rfl) rfl) ?_); (try simp only [nA, Nat.reduceBEq, Nat.reduceEqDiff, ↓reduceIte, Nat.reduceAdd, Nat.reduceSub])
             refine awJ (op_store rfl rfl rfl rfl rfl rfl sz26 rfl (Nat.le_of_ble_eq_true rfl) rfl) ?_; (try simp only [nA, Nat.reduceBEq, Nat.reduceEqDiff, ↓reduceIte, Nat.reduceAdd, Nat.reduceSub])
             refine AWL.nil ?_
             (try simp only [thenE, inBlk, Nat.reduceEqDiff, ↓reduceIte])
             exact ⟨(_, _, _), (evV_13 hk).symm, ⟨rfl, rfl, trivial⟩, (by first | rfl | trivial), (by first | rfl | trivial)⟩
            ·
             (skip); have hc17 := hc; refine AW.gh (Gh.slot (r := 2) (es' := [(ev0 (evK l k)).av]) rfl rfl (le_ev0s (evK l k))) ?_; (try simp only [nA, Nat.reduceBEq, Nat.reduceEqDiff, ↓reduceIte, Nat.reduceAdd, Nat.reduceSub])
             refine AW.skip ?_
             (try simp only [thenE, inBlk, Nat.reduceEqDiff, ↓reduceIte])
             exact ⟨(_, _, _), (evV_0 (by have h2 : ¬ ((evK l k) = 2 ∨ (evK l k) = 10) := (fun h => by have := hb2.2 h; rw [this] at hc3; cases hc3); have h6 : ¬ ((evK l k) = 6 ∨ (evK l k) = 7) := (fun h => by have := hb6.2 h; rw [this] at hc10; cases hc10); have h8 : ¬ ((evK l k) = 8 ∨ (evK l k) = 9) := (fun h => by have := hb8.2 h; rw [this] at hc12; cases hc12); exact ⟨of_decide_eq_false hc1, h2, of_decide_eq_false hc4, of_decide_eq_false hc7, of_decide_eq_false hc8, h6, h8, of_decide_eq_false hc14, of_decide_eq_false hc15, of_decide_eq_false hc17⟩)).symm, ⟨rfl, rfl, trivial⟩, (by first | rfl | trivial), (by first | rfl | trivial)⟩
  rintro ⟨y, kk, ep⟩ ρ hy; dsimp only at hy ⊢; rw [← hy]; simp only [updL]; (try simp only [nA, Nat.reduceBEq, Nat.reduceEqDiff, ↓reduceIte, Nat.reduceAdd, Nat.reduceSub])
  (refine AW.seq_k ?_; intro K hK)
  refine AW.region ?_
  (first | refine awR (op_load_ptr rfl rfl rfl rfl ag35 sz35 (Nat.le_of_ble_eq_true rfl) rfl) ?_ | refine awR (op_load_rop rfl rfl ag35 sz35 (Nat.le_of_ble_eq_true rfl) (by decide) rfl) ?_); (try simp only [nA, Nat.reduceBEq, Nat.reduceEqDiff, ↓reduceIte, Nat.reduceAdd, Nat.reduceSub])
  refine awJ (op_store rfl rfl rfl rfl rfl rfl sz35 rfl (Nat.le_of_ble_eq_true rfl) rfl) ?_; (try simp only [nA, Nat.reduceBEq, Nat.reduceEqDiff, ↓reduceIte, Nat.reduceAdd, Nat.reduceSub])
  refine AWL.nil ?_
  (refine hK _ ?_; clear hK K; (try simp only [nA, Nat.reduceBEq, Nat.reduceEqDiff, ↓reduceIte, Nat.reduceAdd, Nat.reduceSub]))
  skip
  refine AW.ret ?_; (try simp only [thenE, inBlk, Nat.reduceEqDiff, ↓reduceIte]); exact RQ.of (.inl rfl) rfl (.cell (Nat.le_of_ble_eq_true rfl) rfl rfl rfl ag35 sz35 (Nat.le_of_ble_eq_true rfl) rfl rfl .nil) (by simp) rfl (one_out rfl)
end Go.Proofs.YtfmnaigedgmhoaaDoor
