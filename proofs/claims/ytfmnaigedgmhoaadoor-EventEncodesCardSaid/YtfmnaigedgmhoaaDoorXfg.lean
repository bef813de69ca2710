import Derived.Test.YtfmnaigedgmhoaaDoorXff
import Derived.Laws.Concat
namespace Go.Proofs.YtfmnaigedgmhoaaDoor
open Go.RowKit
set_option linter.unusedSimpArgs false
set_option linter.unusedVariables false
set_option maxRecDepth 100000
def hd0 (x : Ev) : BL := [byI x.kind]
theorem hd_len (x : Ev) : (hd0 x).length = 1 := rfl
theorem enc_1 {x : Ev} {p : Nat} (h : fieldsL x.kind = [p]) : hd0 x ++ ePart x p = encB x := by
  unfold encB hd0
  rw [h]
  simp
theorem enc_2 {x : Ev} {p q : Nat} (h : fieldsL x.kind = [p, q]) : (hd0 x ++ ePart x p) ++ ePart x q = encB x := by
  unfold encB hd0
  rw [h]
  simp
theorem enc_0 {x : Ev} (h : fieldsL x.kind = []) : hd0 x = encB x := by
  unfold encB hd0
  rw [h]
  simp
theorem enc_3 {x : Ev} (h : fieldsL x.kind = [0, 6]) : ((hd0 x ++ b4 x.time) ++ b4 (x.reports.length : Nat)) ++ x.reports.flatMap eRp = encB x := by
  rw [← enc_2 h, List.append_assoc (hd0 x ++ b4 x.time)]; rfl
theorem enc_12 {x : Ev} (h : fieldsL x.kind = [8, 10]) : ((hd0 x ++ b4 x.device) ++ b4 (x.ops.length : Nat)) ++ x.ops.flatMap eOp = encB x := by
  rw [← enc_2 h, List.append_assoc (hd0 x ++ b4 x.device)]; rfl
theorem enc_5 {x : Ev} (h : fieldsL x.kind = [7]) : ((hd0 x ++ b4 x.rev.kind) ++ b4 x.rev.amount) ++ eFl x.rev.fl = encB x := by
  rw [← enc_1 h, List.append_assoc, List.append_assoc]; rfl
theorem app_4 (b : BL) (n : Int) : (b ++ b4 n).length = b.length + 4 := by rw [List.length_append, b4_len]
set_option maxHeartbeats 8000000 in
theorem C14 {x : Ev} (hx : x.Sm) : Fn Tryd.prog 14 [] [.agg x.av] [.ro ((encV x).1.map bv), .v (.int .i64 (encV x).2)] [] := by
  refine Spec.body Tryd.func14 rfl Tryd.ntmps14 (by simp) rfl ?_; intro S0 own0 v0 w0 gl
  (refine AW.seq_k ?_; intro K hK)
  refine AW.region ?_
  refine awJ (op_box rfl rfl rfl sz35 rfl) ?_; (simp only [nA, Nat.reduceBEq, Nat.reduceEqDiff, ↓reduceIte])
  refine awP (op_assign rfl rfl) ?_; (try simp only [nA, Nat.reduceBEq, Nat.reduceEqDiff, ↓reduceIte, Nat.reduceAdd, Nat.reduceSub])
  refine awP (op_assign rfl rfl) ?_; (try simp only [nA, Nat.reduceBEq, Nat.reduceEqDiff, ↓reduceIte, Nat.reduceAdd, Nat.reduceSub])
  refine AWL.nil ?_
  (refine hK _ ?_; clear hK K; (try simp only [nA, Nat.reduceBEq, Nat.reduceEqDiff, ↓reduceIte, Nat.reduceAdd, Nat.reduceSub]))
  (refine AW.seq_k ?_; intro K hK)
  (refine AW.seq_k ?_; intro K hK)
  refine AW.region ?_
  (refine awR (op_load_ptr rfl rfl rfl rfl ag35 sz35 (bl rfl) rfl) ?_); (try simp only [nA, Nat.reduceBEq, Nat.reduceEqDiff, ↓reduceIte, Nat.reduceAdd, Nat.reduceSub])
  refine awJ (OpQ.j (op_callQ (b := true) rfl en16 (C16 (x := x) hx) (RL.cons (by exact View.same rfl) (RL.nil)) rfl)) ?_; (try simp only [nA, Nat.reduceBEq, Nat.reduceEqDiff, ↓reduceIte, Nat.reduceAdd, Nat.reduceSub])
  refine awP (op_assign rfl rfl) ?_; (simp only [nA])
  refine AWL.nil ?_
  (refine hK _ ?_; clear hK K; (skip))
  (refine AW.seq_k ?_; intro K hK)
  refine AW.region ?_
  refine awP (op_move rfl rfl) ?_; (simp only [nA])
  (refine awP (op_neq rfl rfl rfl) ?_); (try simp only [nA, Nat.reduceBEq, Nat.reduceEqDiff, ↓reduceIte, Nat.reduceAdd, Nat.reduceSub])
  refine AWL.nil ?_
  (refine hK _ ?_; clear hK K; (skip))
  refine AW.cond rfl rfl rfl (fun hc => ?_) (fun hc => ?_)
  ·
   have hc1 := hc; have hv : valV x ≠ 0 := (by simpa using hc1); have hng : ¬ Good x := fun h => hv (valV_0.2 h)
   (refine AW.seq_k ?_; intro K hK)
   refine AW.region ?_
   refine awP (op_move rfl rfl) ?_; (simp only [nA, ↓reduceIte])
   refine awP (op_assign rfl rfl) ?_; (try simp only [nA, Nat.reduceBEq, Nat.reduceEqDiff, ↓reduceIte, Nat.reduceAdd, Nat.reduceSub])
   refine awP (op_assign rfl rfl) ?_; (simp only [nA, ↓reduceIte])
   refine AWL.nil ?_
   (refine hK _ ?_; clear hK K; (skip))
   refine AW.gh (Gh.nil (e := 5) 2 (bl rfl) rfl sz5) ?_; (simp only [nA, Nat.reduceBEq, Nat.reduceEqDiff, ↓reduceIte]); refine AW.gh (Gh.freeze 2 (bl rfl) rfl rfl (by simp) (es' := ([] : BL).map bv) rfl) ?_; (try simp only [nA, Nat.reduceBEq, Nat.reduceEqDiff, ↓reduceIte, Nat.reduceAdd, Nat.reduceSub])
   refine AW.ret ?_; (try simp only [thenE, inBlk, Nat.reduceEqDiff, ↓reduceIte]); rw [enc_no hng]; exact RQ.of0 rfl (.tmp (bl rfl) rfl rfl (.tmp (bl rfl) rfl rfl .nil))
  have hc1 := hc; have hv : valV x = 0 := (by simpa using hc1); have hG := valV_0.1 hv
  refine AW.skip ?_
  (refine hK _ ?_; clear hK K; (skip))
  (refine AW.seq_k ?_; intro K hK)
  refine AW.region ?_
  (refine awP (op_fa_ptr rfl rfl rfl fl35_0 (by exact sz3) (by decide) rfl) ?_); (try simp only [nA, Nat.reduceBEq, Nat.reduceEqDiff, ↓reduceIte, Nat.reduceAdd, Nat.reduceSub])
  (refine awR (op_load_ptr1 rfl rfl rfl rfl ag3 rfl rfl) ?_); (try simp only [nA, Nat.reduceBEq, Nat.reduceEqDiff, ↓reduceIte, Nat.reduceAdd, Nat.reduceSub])
  refine awP (op_conv rfl rfl Tryd.underlying3 Tryd.underlying5 (wrapU _)) ?_; (try simp only [nA, Nat.reduceBEq, Nat.reduceEqDiff, ↓reduceIte, Nat.reduceAdd, Nat.reduceSub])
  refine awJ (op_buildSlice rfl [(0, bv (byI x.kind))] ((hd0 x).map bv) Tryd.underlying43 ze5 rfl (by simp [hd0]) rfl (bv_len _) rfl (bl rfl) (by simp [maxLen, hd0])) ?_; (simp only [nA, Nat.reduceBEq, Nat.reduceEqDiff, ↓reduceIte])
  refine awP (op_assign rfl rfl) ?_; (simp only [nA])
  refine AWL.nil ?_
  (refine hK _ ?_; clear hK K; (skip))
  refine AW.join (fun (q : BL × Nat × Nat) => [(5, .sl 1 q.2.1 0 q.1.length)]) (fun q => ⟨[(1, .own 35 [x.av]), (q.2.1, wO q.1)], q.2.2⟩) (fun q => q.1 = encB x) ?_ ?_
  ·
   (refine AW.seq_k ?_; intro K hK)
   refine AW.region ?_
   (refine awP (op_fa_ptr rfl rfl rfl fl35_0 (by exact sz3) (by decide) rfl) ?_); (try simp only [nA, Nat.reduceBEq, Nat.reduceEqDiff, ↓reduceIte, Nat.reduceAdd, Nat.reduceSub])
   (refine awR (op_load_ptr1 rfl rfl rfl rfl ag3 rfl rfl) ?_); (try simp only [nA, Nat.reduceBEq, Nat.reduceEqDiff, ↓reduceIte, Nat.reduceAdd, Nat.reduceSub])
   refine AWL.nil ?_
   (refine hK _ ?_; clear hK K; (try simp only [nA, Nat.reduceBEq, Nat.reduceEqDiff, ↓reduceIte, Nat.reduceAdd, Nat.reduceSub]))
   refine AW.block ?_
   (refine AW.seq_k ?_; intro K hK)
   refine AW.region ?_
   (refine awP (op_eql rfl rfl rfl) ?_); (try simp only [nA, Nat.reduceBEq, Nat.reduceEqDiff, ↓reduceIte, Nat.reduceAdd, Nat.reduceSub])
   refine awP (op_assign rfl rfl) ?_; (simp only [nA])
   refine AWL.nil ?_
   (refine hK _ ?_; clear hK K; (skip))
   refine AW.cond rfl rfl rfl (fun hc => ?_) (fun hc => ?_)
   ·
    have hc2 := hc; have hk := of_decide_eq_true hc2; have hF : fieldsL x.kind = [1] := (by rw [hk]; rfl); have htx := hG.lim.1
    refine AW.region ?_
    refine awP (op_move rfl rfl) ?_; (simp only [nA, ↓reduceIte])
    (refine awP (op_fa_ptr rfl rfl rfl fl35_2 (by exact sz9) (by decide) rfl) ?_); (try simp only [nA, Nat.reduceBEq, Nat.reduceEqDiff, ↓reduceIte, Nat.reduceAdd, Nat.reduceSub])
    (refine awR (op_load_ptr1 rfl rfl rfl rfl ag9 rfl rfl) ?_); (try simp only [nA, Nat.reduceBEq, Nat.reduceEqDiff, ↓reduceIte, Nat.reduceAdd, Nat.reduceSub])
    refine awJ (op_callA rfl en31 (C31 (bs := hd0 x) (s := x.text) (by rw [hd_len]; decide) (by omega)) (by exact rfl) (RL.cons .sl (RL.cons (.base (by exact View.same rfl)) (RL.nil))) (bv_vc _) (List.length_map _)) ?_; (simp only [nA, Nat.reduceBEq, Nat.reduceEqDiff, ↓reduceIte])
    refine awP (op_assign rfl rfl) ?_; (simp only [nA])
    refine AWL.nil ?_
    (try simp only [thenE, inBlk, Nat.reduceEqDiff, ↓reduceIte])
    exact ⟨(_, _, _), enc_1 hF, ⟨rfl, trivial⟩, (by rfl), (by trivial)⟩
   have hc2 := hc
   refine AW.join (fun (b : Bool) => [(1, .ptr 0 1 0 0), (5, .sl 1 2 0 1), (18, .v (.int .i64 x.kind)), (25, .v (.bool b))]) (fun b => ⟨[(1, .own 35 [x.av]), (2, wO (hd0 x))], 3⟩) (fun b => b = true ↔ x.kind = 2 ∨ x.kind = 10) ?_ ?_
   ·
    (refine AW.seq_k ?_; intro K hK)
    refine AW.region ?_
    (refine awP (op_eql rfl rfl rfl) ?_); (try simp only [nA, Nat.reduceBEq, Nat.reduceEqDiff, ↓reduceIte, Nat.reduceAdd, Nat.reduceSub])
    refine awP (op_assign rfl rfl) ?_; (simp only [nA])
    refine AWL.nil ?_
    (refine hK _ ?_; clear hK K; (try simp only [nA, Nat.reduceBEq, Nat.reduceEqDiff, ↓reduceIte, Nat.reduceAdd, Nat.reduceSub]))
    refine AW.cond rfl rfl rfl (fun hc => ?_) (fun hc => ?_)
    ·
     have hc3 := hc
     refine AW.skip ?_
     exact ⟨decide (x.kind = 2), ⟨fun h => .inl (of_decide_eq_true h), fun _ => hc3⟩, ⟨rfl, rfl, rfl, rfl, trivial⟩, (by rfl), (by rfl)⟩
    have hc3 := hc
    refine AW.region ?_
    (refine awP (op_eql rfl rfl rfl) ?_); (try simp only [nA, Nat.reduceBEq, Nat.reduceEqDiff, ↓reduceIte, Nat.reduceAdd, Nat.reduceSub])
    refine awP (op_assign rfl rfl) ?_; (simp only [nA])
    refine AWL.nil ?_
    exact ⟨decide (x.kind = 10), ⟨fun h => .inr (of_decide_eq_true h), fun h => h.elim (fun h => absurd h (of_decide_eq_false hc3)) decide_eq_true⟩, ⟨rfl, rfl, rfl, rfl, trivial⟩, (by rfl), (by rfl)⟩
   intro b2 ρ hb2; simp only [updL]
   refine AW.cond rfl rfl rfl (fun hc => ?_) (fun hc => ?_)
   ·
    have hc4 := hc; have hF : fieldsL x.kind = [2, 3] := (by rcases hb2.1 hc4 with h | h <;> rw [h] <;> rfl)
    refine AW.ad [(0, 1, .own 35 [x.av])] mix rfl ?_
    refine adP 0 rfl (fun T' ok => op_move rfl rfl) (by exact ⟨rfl, trivial⟩) (by kernel_rfl) (by kernel_rfl) ?_; (simp only [nA, Nat.reduceBEq, Nat.reduceEqDiff, ↓reduceIte])
    (refine adP 1 rfl (fun T' ok => op_fa_ptr rfl rfl (by exact ok.1) fl35_3 (by exact sz23) (by decide) rfl) (by exact ⟨rfl, trivial⟩) (by kernel_rfl) (by kernel_rfl) ?_); (try simp only [nA, Nat.reduceBEq, Nat.reduceEqDiff, ↓reduceIte, Nat.reduceAdd, Nat.reduceSub])
    (refine adR 2 rfl (fun T' ok => op_load_ptr rfl rfl (by exact ok.1) rfl ag23 sz23 (bl rfl) rfl) (by exact ⟨rfl, trivial⟩) (by kernel_rfl) (by kernel_rfl) ?_); (try simp only [nA, Nat.reduceBEq, Nat.reduceEqDiff, ↓reduceIte, Nat.reduceAdd, Nat.reduceSub])
    (refine adP 4 rfl (fun T' ok => op_fa_ptr rfl rfl (by exact ok.1) fl35_4 (by exact sz3) (by decide) rfl) (by exact ⟨rfl, trivial⟩) (by kernel_rfl) (by kernel_rfl) ?_); (try simp only [nA, Nat.reduceBEq, Nat.reduceEqDiff, ↓reduceIte, Nat.reduceAdd, Nat.reduceSub])
    (refine adR 5 rfl (fun T' ok => op_load_ptr1 rfl rfl (by exact ok.1) rfl ag3 rfl rfl) (by exact ⟨rfl, trivial⟩) (by kernel_rfl) (by kernel_rfl) ?_); (try simp only [nA, Nat.reduceBEq, Nat.reduceEqDiff, ↓reduceIte, Nat.reduceAdd, Nat.reduceSub])
    refine adJ 3 rfl (op_callA rfl en33 (C33 (bs := hd0 x) (p := x.plate) (by rw [hd_len]; decide)) (by exact rfl) (RL.cons .sl (RL.cons (.base (by exact View.same rfl)) (RL.nil))) (bv_vc _) (List.length_map _)) (by kernel_rfl) (by exact ⟨rfl, trivial⟩) ?_; (simp only [nA, Nat.reduceBEq, Nat.reduceEqDiff, ↓reduceIte])
    refine adJ 6 rfl (op_callA rfl en32 (C32 (bs := hd0 x ++ ePl x.plate) (n := x.node) (by rw [List.length_append, pl_len, hd_len]; decide)) (by exact rfl) (RL.cons .sl (RL.cons (.base (by exact View.same rfl)) (RL.nil))) (bv_vc _) (List.length_map _)) (by kernel_rfl) (by exact ⟨rfl, trivial⟩) ?_; (simp only [nA, Nat.reduceBEq, Nat.reduceEqDiff, ↓reduceIte])
    refine adP 7 rfl (fun T' ok => op_assign rfl rfl) (by exact ⟨rfl, trivial⟩) (by kernel_rfl) (by kernel_rfl) ?_; (simp only [nA])
    refine adDone (by kernel_rfl) ?_
    (try simp only [thenE, inBlk, Nat.reduceEqDiff, ↓reduceIte])
    exact ⟨(_, _, _), enc_2 hF, ⟨rfl, trivial⟩, (by rfl), (by trivial)⟩
   have hc4 := hc
   (refine AW.seq_k ?_; intro K hK)
   refine AW.region ?_
   (refine awP (op_eql rfl rfl rfl) ?_); (try simp only [nA, Nat.reduceBEq, Nat.reduceEqDiff, ↓reduceIte, Nat.reduceAdd, Nat.reduceSub])
   refine awP (op_assign rfl rfl) ?_; (simp only [nA])
   refine AWL.nil ?_
   (refine hK _ ?_; clear hK K; (skip))
   refine AW.cond rfl rfl rfl (fun hc => ?_) (fun hc => ?_)
   ·
    have hc5 := hc; have hk := of_decide_eq_true hc5; have hF : fieldsL x.kind = [0, 6] := (by rw [hk]; rfl); have hp : x.reports.all rpB = true := hG.pr 6 (by rw [hF]; simp); have hr := hG.lim.2.1
    (refine AW.seq_k ?_; intro K hK)
    refine AW.ad [(0, 1, .own 35 [x.av])] mix rfl ?_
    refine adP 0 rfl (fun T' ok => op_move rfl rfl) (by exact ⟨rfl, trivial⟩) (by kernel_rfl) (by kernel_rfl) ?_; (simp only [nA, Nat.reduceBEq, Nat.reduceEqDiff, ↓reduceIte])
    (refine adP 1 rfl (fun T' ok => op_fa_ptr rfl rfl (by exact ok.1) fl35_1 (by exact sz3) (by decide) rfl) (by exact ⟨rfl, trivial⟩) (by kernel_rfl) (by kernel_rfl) ?_); (try simp only [nA, Nat.reduceBEq, Nat.reduceEqDiff, ↓reduceIte, Nat.reduceAdd, Nat.reduceSub])
    (refine adR 2 rfl (fun T' ok => op_load_ptr1 rfl rfl (by exact ok.1) rfl ag3 rfl rfl) (by exact ⟨rfl, trivial⟩) (by kernel_rfl) (by kernel_rfl) ?_); (try simp only [nA, Nat.reduceBEq, Nat.reduceEqDiff, ↓reduceIte, Nat.reduceAdd, Nat.reduceSub])
    (refine adP 4 rfl (fun T' ok => op_fa_ptr rfl rfl (by exact ok.1) fl35_7 (by exact sz24) (by decide) rfl) (by exact ⟨rfl, trivial⟩) (by kernel_rfl) (by kernel_rfl) ?_); (try simp only [nA, Nat.reduceBEq, Nat.reduceEqDiff, ↓reduceIte, Nat.reduceAdd, Nat.reduceSub])
    (refine adR 5 rfl (fun T' ok => op_load_ptr1 rfl rfl (by exact ok.1) rfl ag24 rfl rfl) (by exact ⟨rfl, trivial⟩) (by kernel_rfl) (by kernel_rfl) ?_); (try simp only [nA, Nat.reduceBEq, Nat.reduceEqDiff, ↓reduceIte, Nat.reduceAdd, Nat.reduceSub])
    refine adP 6 rfl (fun T' ok => op_len_ro (n := x.reports.length) rfl rfl Tryd.underlying24 (.inr (.inl ⟨_, rfl, by simp⟩))) (by exact ⟨rfl, trivial⟩) (by kernel_rfl) (by kernel_rfl) ?_; (try simp only [nA, Nat.reduceBEq, Nat.reduceEqDiff, ↓reduceIte, Nat.reduceAdd, Nat.reduceSub])
    refine adJ 3 rfl (op_callA rfl en32 (C32 (bs := hd0 x) (n := x.time) (by rw [hd_len]; decide)) (by exact rfl) (RL.cons .sl (RL.cons (.base (by exact View.same rfl)) (RL.nil))) (bv_vc _) (List.length_map _)) (by kernel_rfl) (by exact ⟨rfl, trivial⟩) ?_; (simp only [nA, Nat.reduceBEq, Nat.reduceEqDiff, ↓reduceIte])
    refine adJ 7 rfl (op_callA rfl en32 (C32 (bs := hd0 x ++ b4 x.time) (n := (x.reports.length : Nat)) (by rw [app_4, hd_len]; decide)) (by exact rfl) (RL.cons .sl (RL.cons (.base (by exact View.same rfl)) (RL.nil))) (bv_vc _) (List.length_map _)) (by kernel_rfl) (by exact ⟨rfl, trivial⟩) ?_; (simp only [nA, Nat.reduceBEq, Nat.reduceEqDiff, ↓reduceIte])
    refine adP 8 rfl (fun T' ok => op_assign rfl rfl) (by exact ⟨rfl, trivial⟩) (by kernel_rfl) (by kernel_rfl) ?_; (simp only [nA])
    refine adDone (by kernel_rfl) ?_
    (refine hK _ ?_; clear hK K; (skip))
    (refine AW.seq_k ?_; intro K hK)
    refine AW.region ?_
    refine awP (op_assign rfl rfl) ?_; (try simp only [nA, Nat.reduceBEq, Nat.reduceEqDiff, ↓reduceIte, Nat.reduceAdd, Nat.reduceSub])
    refine AWL.nil ?_
    (refine hK _ ?_; clear hK K; (skip))
    refine AW.block ?_
    refine AW.loopI (fun (q : Nat × Nat × Nat) => [(1, .ptr 0 1 0 0), (5, .sl 1 q.2.1 0 (((hd0 x ++ b4 x.time) ++ b4 (x.reports.length : Nat)) ++ (x.reports.take q.1).flatMap eRp).length), (6, .v (.int .i64 (q.1 : Nat)))]) (fun q => ⟨[(1, .own 35 [x.av]), (q.2.1, wO (((hd0 x ++ b4 x.time) ++ b4 (x.reports.length : Nat)) ++ (x.reports.take q.1).flatMap eRp))], q.2.2⟩) (fun q => q.1 ≤ x.reports.length) (fun q => x.reports.length - q.1) (0, 4, 5) (by simp) ⟨rfl, by show AV.sl 1 4 0 (((hd0 x ++ b4 x.time) ++ b4 (x.reports.length : Nat))).length = _; simp, rfl, trivial⟩ (by simp) ?_; rintro ⟨i, kk, ep⟩ ρ hi; dsimp only at hi ⊢; simp only [updL]; have hft := flatTk (xs := x.reports) (e := eRp) (k := 19) (i := i) fun r hr => rp_len (List.all_eq_true.1 hp r hr)
    (refine AW.seq_k ?_; intro K hK)
    (refine AW.seq_k ?_; intro K hK)
    refine AW.region ?_
    refine awP (op_move rfl rfl) ?_; (simp only [nA, ↓reduceIte])
    (refine awP (op_fa_ptr rfl rfl rfl fl35_7 (by exact sz24) (by decide) rfl) ?_); (try simp only [nA, Nat.reduceBEq, Nat.reduceEqDiff, ↓reduceIte, Nat.reduceAdd, Nat.reduceSub])
    (refine awR (op_load_ptr1 rfl rfl rfl rfl ag24 rfl rfl) ?_); (try simp only [nA, Nat.reduceBEq, Nat.reduceEqDiff, ↓reduceIte, Nat.reduceAdd, Nat.reduceSub])
    refine awP (op_len_ro (n := x.reports.length) rfl rfl Tryd.underlying24 (.inr (.inl ⟨_, rfl, by simp⟩))) ?_; (try simp only [nA, Nat.reduceBEq, Nat.reduceEqDiff, ↓reduceIte, Nat.reduceAdd, Nat.reduceSub])
    refine awP (op_lss rfl rfl rfl) ?_; (try simp only [nA, Nat.reduceBEq, Nat.reduceEqDiff, ↓reduceIte, Nat.reduceAdd, Nat.reduceSub])
    refine AWL.nil ?_
    (refine hK _ ?_; clear hK K; (skip))
    refine AW.cond rfl rfl rfl (fun hc => ?_) (fun hc => ?_)
    ·
     have hc6 := hc; have hlt : i < x.reports.length := (by simpa using hc6); have hrd : (x.reports.getD i default).read.size ≤ 10 := (rp_good (List.all_eq_true.1 hp _ (by rw [getD_of hlt]; exact List.getElem_mem hlt))).2; have hcl : ((((hd0 x ++ b4 x.time) ++ b4 (x.reports.length : Nat)) ++ (x.reports.take i).flatMap eRp)).length ≤ 1000 := (by rw [List.length_append, app_4, app_4, hd_len]; omega); have hB := take_flatG (e := eRp) (bs := ((hd0 x ++ b4 x.time) ++ b4 (x.reports.length : Nat))) hlt; have g0 := C32 (bs := (((hd0 x ++ b4 x.time) ++ b4 (x.reports.length : Nat)) ++ (x.reports.take i).flatMap eRp)) (n := (x.reports.getD i default).device) (by omega); have g1 := C34 (bs := (((hd0 x ++ b4 x.time) ++ b4 (x.reports.length : Nat)) ++ (x.reports.take i).flatMap eRp) ++ b4 (x.reports.getD i default).device) (yes := (x.reports.getD i default).seen) (by rw [app_4]; omega); have g2 := C31 (bs := ((((hd0 x ++ b4 x.time) ++ b4 (x.reports.length : Nat)) ++ (x.reports.take i).flatMap eRp) ++ b4 (x.reports.getD i default).device) ++ eTr (x.reports.getD i default).seen) (s := (x.reports.getD i default).read) (by rw [List.length_append, app_4]; show _ + 1 ≤ _; omega) (by omega); rw [show (((((hd0 x ++ b4 x.time) ++ b4 (x.reports.length : Nat)) ++ (x.reports.take i).flatMap eRp) ++ b4 (x.reports.getD i default).device) ++ eTr (x.reports.getD i default).seen) ++ eWd (x.reports.getD i default).read = ((hd0 x ++ b4 x.time) ++ b4 (x.reports.length : Nat)) ++ (x.reports.take (i + 1)).flatMap eRp by rw [← hB]; simp [eRp]] at g2
     refine AW.skip ?_
     (refine hK _ ?_; clear hK K; (skip))
     (refine AW.seq_k ?_; intro K hK)
     refine AW.block ?_
     refine AW.ad [(0, 1, .own 35 [x.av])] mix rfl ?_
     refine adP 0 rfl (fun T' ok => op_move rfl rfl) (by exact ⟨rfl, trivial⟩) (by kernel_rfl) (by kernel_rfl) ?_; (simp only [nA, Nat.reduceBEq, Nat.reduceEqDiff, ↓reduceIte])
     (refine adP 1 rfl (fun T' ok => op_fa_ptr rfl rfl (by exact ok.1) fl35_7 (by exact sz24) (by decide) rfl) (by exact ⟨rfl, trivial⟩) (by kernel_rfl) (by kernel_rfl) ?_); (try simp only [nA, Nat.reduceBEq, Nat.reduceEqDiff, ↓reduceIte, Nat.reduceAdd, Nat.reduceSub])
     (refine adR 2 rfl (fun T' ok => op_load_ptr1 rfl rfl (by exact ok.1) rfl ag24 rfl rfl) (by exact ⟨rfl, trivial⟩) (by kernel_rfl) (by kernel_rfl) ?_); (try simp only [nA, Nat.reduceBEq, Nat.reduceEqDiff, ↓reduceIte, Nat.reduceAdd, Nat.reduceSub])
     refine adP 3 rfl (fun T' ok => op_move rfl rfl) (by exact ⟨rfl, trivial⟩) (by kernel_rfl) (by kernel_rfl) ?_; (simp only [nA, ↓reduceIte])
     refine adP 4 rfl (fun T' ok => op_ia_ro i rfl (.inl rfl) rfl Tryd.underlying24 rfl (get_mapD (by omega)) (by exact sz66) (bl rfl)) (by exact ⟨rfl, trivial⟩) (by kernel_rfl) (by kernel_rfl) ?_; (try simp only [nA, Nat.reduceBEq, Nat.reduceEqDiff, ↓reduceIte, Nat.reduceAdd, Nat.reduceSub])
     (refine adP 5 rfl (fun T' ok => op_fa_rop rfl rfl fl66_0 (by exact sz3) (by decide) (bl rfl) rfl) (by exact ⟨rfl, trivial⟩) (by kernel_rfl) (by kernel_rfl) ?_); (try simp only [nA, Nat.reduceBEq, Nat.reduceEqDiff, ↓reduceIte, Nat.reduceAdd, Nat.reduceSub])
     (refine adR 6 rfl (fun T' ok => op_load_rop1 rfl rfl ag3) (by exact ⟨rfl, trivial⟩) (by kernel_rfl) (by kernel_rfl) ?_); (try simp only [nA, Nat.reduceBEq, Nat.reduceEqDiff, ↓reduceIte, Nat.reduceAdd, Nat.reduceSub])
     (refine adP 8 rfl (fun T' ok => op_fa_ptr rfl rfl (by exact ok.1) fl35_7 (by exact sz24) (by decide) rfl) (by exact ⟨rfl, trivial⟩) (by kernel_rfl) (by kernel_rfl) ?_); (try simp only [nA, Nat.reduceBEq, Nat.reduceEqDiff, ↓reduceIte, Nat.reduceAdd, Nat.reduceSub])
     (refine adR 9 rfl (fun T' ok => op_load_ptr1 rfl rfl (by exact ok.1) rfl ag24 rfl rfl) (by exact ⟨rfl, trivial⟩) (by kernel_rfl) (by kernel_rfl) ?_); (try simp only [nA, Nat.reduceBEq, Nat.reduceEqDiff, ↓reduceIte, Nat.reduceAdd, Nat.reduceSub])
     refine adP 10 rfl (fun T' ok => op_move rfl rfl) (by exact ⟨rfl, trivial⟩) (by kernel_rfl) (by kernel_rfl) ?_; (simp only [nA, ↓reduceIte])
     refine adP 11 rfl (fun T' ok => op_ia_ro i rfl (.inl rfl) rfl Tryd.underlying24 rfl (get_mapD (by omega)) (by exact sz66) (bl rfl)) (by exact ⟨rfl, trivial⟩) (by kernel_rfl) (by kernel_rfl) ?_; (try simp only [nA, Nat.reduceBEq, Nat.reduceEqDiff, ↓reduceIte, Nat.reduceAdd, Nat.reduceSub])
     (refine adP 12 rfl (fun T' ok => op_fa_rop rfl rfl fl66_1 (by exact sz4) (by decide) (bl rfl) rfl) (by exact ⟨rfl, trivial⟩) (by kernel_rfl) (by kernel_rfl) ?_); (try simp only [nA, Nat.reduceBEq, Nat.reduceEqDiff, ↓reduceIte, Nat.reduceAdd, Nat.reduceSub])
     (refine adR 13 rfl (fun T' ok => op_load_rop1 rfl rfl ag4) (by exact ⟨rfl, trivial⟩) (by kernel_rfl) (by kernel_rfl) ?_); (try simp only [nA, Nat.reduceBEq, Nat.reduceEqDiff, ↓reduceIte, Nat.reduceAdd, Nat.reduceSub])
     (refine adP 15 rfl (fun T' ok => op_fa_ptr rfl rfl (by exact ok.1) fl35_7 (by exact sz24) (by decide) rfl) (by exact ⟨rfl, trivial⟩) (by kernel_rfl) (by kernel_rfl) ?_); (try simp only [nA, Nat.reduceBEq, Nat.reduceEqDiff, ↓reduceIte, Nat.reduceAdd, Nat.reduceSub])
     (refine adR 16 rfl (fun T' ok => op_load_ptr1 rfl rfl (by exact ok.1) rfl ag24 rfl rfl) (by exact ⟨rfl, trivial⟩) (by kernel_rfl) (by kernel_rfl) ?_); (try simp only [nA, Nat.reduceBEq, Nat.reduceEqDiff, ↓reduceIte, Nat.reduceAdd, Nat.reduceSub])
     refine adP 17 rfl (fun T' ok => op_move rfl rfl) (by exact ⟨rfl, trivial⟩) (by kernel_rfl) (by kernel_rfl) ?_; (simp only [nA, ↓reduceIte])
     refine adP 18 rfl (fun T' ok => op_ia_ro i rfl (.inl rfl) rfl Tryd.underlying24 rfl (get_mapD (by omega)) (by exact sz66) (bl rfl)) (by exact ⟨rfl, trivial⟩) (by kernel_rfl) (by kernel_rfl) ?_; (try simp only [nA, Nat.reduceBEq, Nat.reduceEqDiff, ↓reduceIte, Nat.reduceAdd, Nat.reduceSub])
     (refine adP 19 rfl (fun T' ok => op_fa_rop rfl rfl fl66_2 (by exact sz9) (by decide) (bl rfl) rfl) (by exact ⟨rfl, trivial⟩) (by kernel_rfl) (by kernel_rfl) ?_); (try simp only [nA, Nat.reduceBEq, Nat.reduceEqDiff, ↓reduceIte, Nat.reduceAdd, Nat.reduceSub])
     (refine adR 20 rfl (fun T' ok => op_load_rop1 rfl rfl ag9) (by exact ⟨rfl, trivial⟩) (by kernel_rfl) (by kernel_rfl) ?_); (try simp only [nA, Nat.reduceBEq, Nat.reduceEqDiff, ↓reduceIte, Nat.reduceAdd, Nat.reduceSub])
     refine adJ 7 rfl (op_callA rfl en32 g0 (by exact rfl) (RL.cons .sl (RL.cons (.base (by exact View.same rfl)) (RL.nil))) (bv_vc _) (List.length_map _)) (by kernel_rfl) (by exact ⟨rfl, trivial⟩) ?_; (try simp only [nA, Nat.reduceBEq, Nat.reduceEqDiff, ↓reduceIte, Nat.reduceAdd, Nat.reduceSub])
     refine adJ 14 rfl (op_callA rfl en34 g1 (by exact rfl) (RL.cons .sl (RL.cons (.base (by exact View.same rfl)) (RL.nil))) (bv_vc _) (List.length_map _)) (by kernel_rfl) (by exact ⟨rfl, trivial⟩) ?_; (try simp only [nA, Nat.reduceBEq, Nat.reduceEqDiff, ↓reduceIte, Nat.reduceAdd, Nat.reduceSub])
     refine adJ 21 rfl (op_callA rfl en31 g2 (by exact rfl) (RL.cons .sl (RL.cons (.base (by exact View.same rfl)) (RL.nil))) (bv_vc _) (List.length_map _)) (by kernel_rfl) (by exact ⟨rfl, trivial⟩) ?_; (try simp only [nA, Nat.reduceBEq, Nat.reduceEqDiff, ↓reduceIte, Nat.reduceAdd, Nat.reduceSub])
     refine adP 22 rfl (fun T' ok => op_assign rfl rfl) (by exact ⟨rfl, trivial⟩) (by kernel_rfl) (by kernel_rfl) ?_; (simp only [nA])
     refine adDone (by kernel_rfl) ?_
     (try simp only [thenE, inBlk, Nat.reduceEqDiff, ↓reduceIte])
     (refine hK _ ?_; clear hK K; (skip))
     refine AW.region ?_
     refine awP (op_move rfl rfl) ?_; (simp only [nA, ↓reduceIte])
     (refine awP (op_addi rfl rfl rfl (by omega)) ?_); (try simp only [nA, Nat.reduceBEq, Nat.reduceEqDiff, ↓reduceIte, Nat.reduceAdd, Nat.reduceSub])
     refine awP (op_assign rfl rfl) ?_; (simp only [nA])
     skip
     refine AWL.nil ?_
     refine ⟨(i + 1, _, _), by dsimp only; omega, by dsimp only; omega, ⟨rfl, rfl, by dsimp only; exact congrArg (fun z => AV.v (.int .i64 z)) (by omega), trivial⟩, (by rfl), (by rfl)⟩
    have hc6 := hc; have hnl : ¬ i < x.reports.length := (by simpa using hc6); rw [show x.reports.take i = x.reports from List.take_of_length_le (by omega)]
    refine AW.exit ?_; (try simp only [thenE, inBlk, Nat.reduceEqDiff, ↓reduceIte])
    clear hK K
    (try simp only [thenE, inBlk, Nat.reduceEqDiff, ↓reduceIte])
    exact ⟨(_, _, _), enc_3 hF, ⟨rfl, trivial⟩, (by rfl), (by trivial)⟩
   have hc5 := hc
   (refine AW.seq_k ?_; intro K hK)
   refine AW.region ?_
   (refine awP (op_eql rfl rfl rfl) ?_); (try simp only [nA, Nat.reduceBEq, Nat.reduceEqDiff, ↓reduceIte, Nat.reduceAdd, Nat.reduceSub])
   refine awP (op_assign rfl rfl) ?_; (simp only [nA])
   refine AWL.nil ?_
   (refine hK _ ?_; clear hK K; (skip))
   refine AW.cond rfl rfl rfl (fun hc => ?_) (fun hc => ?_)
   ·
    have hc7 := hc; have hk := of_decide_eq_true hc7; have hF : fieldsL x.kind = [4, 5] := (by rw [hk]; rfl)
    refine AW.ad [(0, 1, .own 35 [x.av])] mix rfl ?_
    refine adP 0 rfl (fun T' ok => op_move rfl rfl) (by exact ⟨rfl, trivial⟩) (by kernel_rfl) (by kernel_rfl) ?_; (simp only [nA, Nat.reduceBEq, Nat.reduceEqDiff, ↓reduceIte])
    (refine adP 1 rfl (fun T' ok => op_fa_ptr rfl rfl (by exact ok.1) fl35_5 (by exact sz3) (by decide) rfl) (by exact ⟨rfl, trivial⟩) (by kernel_rfl) (by kernel_rfl) ?_); (try simp only [nA, Nat.reduceBEq, Nat.reduceEqDiff, ↓reduceIte, Nat.reduceAdd, Nat.reduceSub])
    (refine adR 2 rfl (fun T' ok => op_load_ptr1 rfl rfl (by exact ok.1) rfl ag3 rfl rfl) (by exact ⟨rfl, trivial⟩) (by kernel_rfl) (by kernel_rfl) ?_); (try simp only [nA, Nat.reduceBEq, Nat.reduceEqDiff, ↓reduceIte, Nat.reduceAdd, Nat.reduceSub])
    (refine adP 4 rfl (fun T' ok => op_fa_ptr rfl rfl (by exact ok.1) fl35_6 (by exact sz4) (by decide) rfl) (by exact ⟨rfl, trivial⟩) (by kernel_rfl) (by kernel_rfl) ?_); (try simp only [nA, Nat.reduceBEq, Nat.reduceEqDiff, ↓reduceIte, Nat.reduceAdd, Nat.reduceSub])
    (refine adR 5 rfl (fun T' ok => op_load_ptr1 rfl rfl (by exact ok.1) rfl ag4 rfl rfl) (by exact ⟨rfl, trivial⟩) (by kernel_rfl) (by kernel_rfl) ?_); (try simp only [nA, Nat.reduceBEq, Nat.reduceEqDiff, ↓reduceIte, Nat.reduceAdd, Nat.reduceSub])
    refine adJ 3 rfl (op_callA rfl en32 (C32 (bs := hd0 x) (n := x.image) (by rw [hd_len]; decide)) (by exact rfl) (RL.cons .sl (RL.cons (.base (by exact View.same rfl)) (RL.nil))) (bv_vc _) (List.length_map _)) (by kernel_rfl) (by exact ⟨rfl, trivial⟩) ?_; (simp only [nA, Nat.reduceBEq, Nat.reduceEqDiff, ↓reduceIte])
    refine adJ 6 rfl (op_callA rfl en34 (C34 (bs := hd0 x ++ b4 x.image) (yes := x.clear) (by rw [app_4, hd_len]; decide)) (by exact rfl) (RL.cons .sl (RL.cons (.base (by exact View.same rfl)) (RL.nil))) (bv_vc _) (List.length_map _)) (by kernel_rfl) (by exact ⟨rfl, trivial⟩) ?_; (simp only [nA, Nat.reduceBEq, Nat.reduceEqDiff, ↓reduceIte])
    refine adP 7 rfl (fun T' ok => op_assign rfl rfl) (by exact ⟨rfl, trivial⟩) (by kernel_rfl) (by kernel_rfl) ?_; (simp only [nA])
    refine adDone (by kernel_rfl) ?_
    (try simp only [thenE, inBlk, Nat.reduceEqDiff, ↓reduceIte])
    exact ⟨(_, _, _), enc_2 hF, ⟨rfl, trivial⟩, (by rfl), (by trivial)⟩
   have hc7 := hc
   (refine AW.seq_k ?_; intro K hK)
   refine AW.region ?_
   (refine awP (op_eql rfl rfl rfl) ?_); (try simp only [nA, Nat.reduceBEq, Nat.reduceEqDiff, ↓reduceIte, Nat.reduceAdd, Nat.reduceSub])
   refine awP (op_assign rfl rfl) ?_; (simp only [nA])
   refine AWL.nil ?_
   (refine hK _ ?_; clear hK K; (skip))
   refine AW.cond rfl rfl rfl (fun hc => ?_) (fun hc => ?_)
   ·
    have hc8 := hc; have hk := of_decide_eq_true hc8; have hF : fieldsL x.kind = [7] := (by rw [hk]; rfl); have hfl := (fl_good (f := x.rev.fl) (Bool.and_eq_true _ _ |>.mp (hG.pr 7 (by rw [hF]; simp))).2).2
    refine AW.ad [(0, 1, .own 35 [x.av])] mix rfl ?_
    refine adP 0 rfl (fun T' ok => op_move rfl rfl) (by exact ⟨rfl, trivial⟩) (by kernel_rfl) (by kernel_rfl) ?_; (simp only [nA, Nat.reduceBEq, Nat.reduceEqDiff, ↓reduceIte])
    (refine adP 1 rfl (fun T' ok => op_fa_ptr rfl rfl (by exact ok.1) fl35_8 (by exact sz28) (by decide) rfl) (by exact ⟨rfl, trivial⟩) (by kernel_rfl) (by kernel_rfl) ?_); (try simp only [nA, Nat.reduceBEq, Nat.reduceEqDiff, ↓reduceIte, Nat.reduceAdd, Nat.reduceSub])
    (refine adP 2 rfl (fun T' ok => op_fa_ptr rfl rfl (by exact ok.1) fl28_0 (by exact sz3) (by decide) rfl) (by exact ⟨rfl, trivial⟩) (by kernel_rfl) (by kernel_rfl) ?_); (simp only [nA, Nat.reduceBEq, Nat.reduceEqDiff, ↓reduceIte])
    (refine adR 3 rfl (fun T' ok => op_load_ptr1 rfl rfl (by exact ok.1) rfl ag3 rfl rfl) (by exact ⟨rfl, trivial⟩) (by kernel_rfl) (by kernel_rfl) ?_); (try simp only [nA, Nat.reduceBEq, Nat.reduceEqDiff, ↓reduceIte, Nat.reduceAdd, Nat.reduceSub])
    (refine adP 5 rfl (fun T' ok => op_fa_ptr rfl rfl (by exact ok.1) fl35_8 (by exact sz28) (by decide) rfl) (by exact ⟨rfl, trivial⟩) (by kernel_rfl) (by kernel_rfl) ?_); (try simp only [nA, Nat.reduceBEq, Nat.reduceEqDiff, ↓reduceIte, Nat.reduceAdd, Nat.reduceSub])
    (refine adP 6 rfl (fun T' ok => op_fa_ptr rfl rfl (by exact ok.1) fl28_1 (by exact sz3) (by decide) rfl) (by exact ⟨rfl, trivial⟩) (by kernel_rfl) (by kernel_rfl) ?_); (simp only [nA, Nat.reduceBEq, Nat.reduceEqDiff, ↓reduceIte])
    (refine adR 7 rfl (fun T' ok => op_load_ptr1 rfl rfl (by exact ok.1) rfl ag3 rfl rfl) (by exact ⟨rfl, trivial⟩) (by kernel_rfl) (by kernel_rfl) ?_); (try simp only [nA, Nat.reduceBEq, Nat.reduceEqDiff, ↓reduceIte, Nat.reduceAdd, Nat.reduceSub])
    (refine adP 9 rfl (fun T' ok => op_fa_ptr rfl rfl (by exact ok.1) fl35_8 (by exact sz28) (by decide) rfl) (by exact ⟨rfl, trivial⟩) (by kernel_rfl) (by kernel_rfl) ?_); (try simp only [nA, Nat.reduceBEq, Nat.reduceEqDiff, ↓reduceIte, Nat.reduceAdd, Nat.reduceSub])
    (refine adP 10 rfl (fun T' ok => op_fa_ptr rfl rfl (by exact ok.1) fl28_2 (by exact sz26) (by decide) rfl) (by exact ⟨rfl, trivial⟩) (by kernel_rfl) (by kernel_rfl) ?_); (simp only [nA, Nat.reduceBEq, Nat.reduceEqDiff, ↓reduceIte])
    (refine adR 11 rfl (fun T' ok => op_load_ptr rfl rfl (by exact ok.1) rfl ag26 sz26 (bl rfl) rfl) (by exact ⟨rfl, trivial⟩) (by kernel_rfl) (by kernel_rfl) ?_); (try simp only [nA, Nat.reduceBEq, Nat.reduceEqDiff, ↓reduceIte, Nat.reduceAdd, Nat.reduceSub])
    refine adJ 4 rfl (op_callA rfl en32 (C32 (bs := hd0 x) (n := x.rev.kind) (by rw [hd_len]; decide)) (by exact rfl) (RL.cons .sl (RL.cons (.base (by exact View.same rfl)) (RL.nil))) (bv_vc _) (List.length_map _)) (by kernel_rfl) (by exact ⟨rfl, trivial⟩) ?_; (simp only [nA, Nat.reduceBEq, Nat.reduceEqDiff, ↓reduceIte])
    refine adJ 8 rfl (op_callA rfl en32 (C32 (bs := hd0 x ++ b4 x.rev.kind) (n := x.rev.amount) (by rw [app_4, hd_len]; decide)) (by exact rfl) (RL.cons .sl (RL.cons (.base (by exact View.same rfl)) (RL.nil))) (bv_vc _) (List.length_map _)) (by kernel_rfl) (by exact ⟨rfl, trivial⟩) ?_; (simp only [nA, Nat.reduceBEq, Nat.reduceEqDiff, ↓reduceIte])
    refine adJ 12 rfl (op_callA rfl en35 (C35 (bs := (hd0 x ++ b4 x.rev.kind) ++ b4 x.rev.amount) (f := x.rev.fl) (by rw [app_4, app_4, hd_len]; decide) (by omega) (by omega)) (by exact rfl) (RL.cons .sl (RL.cons (.base (by exact View.same rfl)) (RL.nil))) (bv_vc _) (List.length_map _)) (by kernel_rfl) (by exact ⟨rfl, trivial⟩) ?_; (simp only [nA, Nat.reduceBEq, Nat.reduceEqDiff, ↓reduceIte])
    refine adP 13 rfl (fun T' ok => op_assign rfl rfl) (by exact ⟨rfl, trivial⟩) (by kernel_rfl) (by kernel_rfl) ?_; (simp only [nA])
    refine adDone (by kernel_rfl) ?_
    (try simp only [thenE, inBlk, Nat.reduceEqDiff, ↓reduceIte])
    exact ⟨(_, _, _), enc_5 hF, ⟨rfl, trivial⟩, (by rfl), (by trivial)⟩
   have hc8 := hc
   refine AW.join (fun (b : Bool) => [(1, .ptr 0 1 0 0), (5, .sl 1 2 0 1), (18, .v (.int .i64 x.kind)), (98, .v (.bool b))]) (fun b => ⟨[(1, .own 35 [x.av]), (2, wO (hd0 x))], 3⟩) (fun b => b = true ↔ x.kind = 6 ∨ x.kind = 7) ?_ ?_
   ·
    (refine AW.seq_k ?_; intro K hK)
    refine AW.region ?_
    (refine awP (op_eql rfl rfl rfl) ?_); (try simp only [nA, Nat.reduceBEq, Nat.reduceEqDiff, ↓reduceIte, Nat.reduceAdd, Nat.reduceSub])
    refine awP (op_assign rfl rfl) ?_; (simp only [nA])
    refine AWL.nil ?_
    (refine hK _ ?_; clear hK K; (try simp only [nA, Nat.reduceBEq, Nat.reduceEqDiff, ↓reduceIte, Nat.reduceAdd, Nat.reduceSub]))
    refine AW.cond rfl rfl rfl (fun hc => ?_) (fun hc => ?_)
    ·
     have hc9 := hc
     refine AW.skip ?_
     exact ⟨decide (x.kind = 6), ⟨fun h => .inl (of_decide_eq_true h), fun _ => hc9⟩, ⟨rfl, rfl, rfl, rfl, trivial⟩, (by rfl), (by rfl)⟩
    have hc9 := hc
    refine AW.region ?_
    (refine awP (op_eql rfl rfl rfl) ?_); (try simp only [nA, Nat.reduceBEq, Nat.reduceEqDiff, ↓reduceIte, Nat.reduceAdd, Nat.reduceSub])
    refine awP (op_assign rfl rfl) ?_; (simp only [nA])
    refine AWL.nil ?_
    exact ⟨decide (x.kind = 7), ⟨fun h => .inr (of_decide_eq_true h), fun h => h.elim (fun h => absurd h (of_decide_eq_false hc9)) decide_eq_true⟩, ⟨rfl, rfl, rfl, rfl, trivial⟩, (by rfl), (by rfl)⟩
   intro b6 ρ hb6; simp only [updL]
   refine AW.cond rfl rfl rfl (fun hc => ?_) (fun hc => ?_)
   ·
    have hc10 := hc; have hF : fieldsL x.kind = [3] := (by rcases hb6.1 hc10 with h | h <;> rw [h] <;> rfl)
    refine AW.region ?_
    refine awP (op_move rfl rfl) ?_; (simp only [nA, ↓reduceIte])
    (refine awP (op_fa_ptr rfl rfl rfl fl35_4 (by exact sz3) (by decide) rfl) ?_); (try simp only [nA, Nat.reduceBEq, Nat.reduceEqDiff, ↓reduceIte, Nat.reduceAdd, Nat.reduceSub])
    (refine awR (op_load_ptr1 rfl rfl rfl rfl ag3 rfl rfl) ?_); (try simp only [nA, Nat.reduceBEq, Nat.reduceEqDiff, ↓reduceIte, Nat.reduceAdd, Nat.reduceSub])
    refine awJ (op_callA rfl en32 (C32 (bs := hd0 x) (n := x.node) (by rw [hd_len]; decide)) (by exact rfl) (RL.cons .sl (RL.cons (.base (by exact View.same rfl)) (RL.nil))) (bv_vc _) (List.length_map _)) ?_; (simp only [nA, Nat.reduceBEq, Nat.reduceEqDiff, ↓reduceIte])
    refine awP (op_assign rfl rfl) ?_; (simp only [nA])
    refine AWL.nil ?_
    (try simp only [thenE, inBlk, Nat.reduceEqDiff, ↓reduceIte])
    exact ⟨(_, _, _), enc_1 hF, ⟨rfl, trivial⟩, (by rfl), (by trivial)⟩
   have hc10 := hc
   (refine AW.seq_k ?_; intro K hK)
   refine AW.region ?_
   (refine awP (op_eql rfl rfl rfl) ?_); (try simp only [nA, Nat.reduceBEq, Nat.reduceEqDiff, ↓reduceIte, Nat.reduceAdd, Nat.reduceSub])
   refine awP (op_assign rfl rfl) ?_; (simp only [nA])
   refine AWL.nil ?_
   (refine hK _ ?_; clear hK K; (skip))
   refine AW.cond rfl rfl rfl (fun hc => ?_) (fun hc => ?_)
   ·
    have hc11 := hc; have hk := of_decide_eq_true hc11; have hF : fieldsL x.kind = [9, 3] := (by rw [hk]; rfl)
    refine AW.ad [(0, 1, .own 35 [x.av])] mix rfl ?_
    refine adP 0 rfl (fun T' ok => op_move rfl rfl) (by exact ⟨rfl, trivial⟩) (by kernel_rfl) (by kernel_rfl) ?_; (simp only [nA, Nat.reduceBEq, Nat.reduceEqDiff, ↓reduceIte])
    (refine adP 1 rfl (fun T' ok => op_fa_ptr rfl rfl (by exact ok.1) fl35_10 (by exact sz32) (by decide) rfl) (by exact ⟨rfl, trivial⟩) (by kernel_rfl) (by kernel_rfl) ?_); (try simp only [nA, Nat.reduceBEq, Nat.reduceEqDiff, ↓reduceIte, Nat.reduceAdd, Nat.reduceSub])
    (refine adR 2 rfl (fun T' ok => op_load_ptr rfl rfl (by exact ok.1) rfl ag32 sz32 (bl rfl) rfl) (by exact ⟨rfl, trivial⟩) (by kernel_rfl) (by kernel_rfl) ?_); (try simp only [nA, Nat.reduceBEq, Nat.reduceEqDiff, ↓reduceIte, Nat.reduceAdd, Nat.reduceSub])
    (refine adP 4 rfl (fun T' ok => op_fa_ptr rfl rfl (by exact ok.1) fl35_4 (by exact sz3) (by decide) rfl) (by exact ⟨rfl, trivial⟩) (by kernel_rfl) (by kernel_rfl) ?_); (try simp only [nA, Nat.reduceBEq, Nat.reduceEqDiff, ↓reduceIte, Nat.reduceAdd, Nat.reduceSub])
    (refine adR 5 rfl (fun T' ok => op_load_ptr1 rfl rfl (by exact ok.1) rfl ag3 rfl rfl) (by exact ⟨rfl, trivial⟩) (by kernel_rfl) (by kernel_rfl) ?_); (try simp only [nA, Nat.reduceBEq, Nat.reduceEqDiff, ↓reduceIte, Nat.reduceAdd, Nat.reduceSub])
    refine adJ 3 rfl (op_callA rfl en36 (C36 (bs := hd0 x) (o := x.op) (by rw [hd_len]; decide)) (by exact rfl) (RL.cons .sl (RL.cons (.base (by exact View.same rfl)) (RL.nil))) (bv_vc _) (List.length_map _)) (by kernel_rfl) (by exact ⟨rfl, trivial⟩) ?_; (simp only [nA, Nat.reduceBEq, Nat.reduceEqDiff, ↓reduceIte])
    refine adJ 6 rfl (op_callA rfl en32 (C32 (bs := hd0 x ++ eOp x.op) (n := x.node) (by rw [List.length_append, op_len, hd_len]; decide)) (by exact rfl) (RL.cons .sl (RL.cons (.base (by exact View.same rfl)) (RL.nil))) (bv_vc _) (List.length_map _)) (by kernel_rfl) (by exact ⟨rfl, trivial⟩) ?_; (simp only [nA, Nat.reduceBEq, Nat.reduceEqDiff, ↓reduceIte])
    refine adP 7 rfl (fun T' ok => op_assign rfl rfl) (by exact ⟨rfl, trivial⟩) (by kernel_rfl) (by kernel_rfl) ?_; (simp only [nA])
    refine adDone (by kernel_rfl) ?_
    (try simp only [thenE, inBlk, Nat.reduceEqDiff, ↓reduceIte])
    exact ⟨(_, _, _), enc_2 hF, ⟨rfl, trivial⟩, (by rfl), (by trivial)⟩
   have hc11 := hc
   (refine AW.seq_k ?_; intro K hK)
   refine AW.region ?_
   (refine awP (op_eql rfl rfl rfl) ?_); (try simp only [nA, Nat.reduceBEq, Nat.reduceEqDiff, ↓reduceIte, Nat.reduceAdd, Nat.reduceSub])
   refine awP (op_assign rfl rfl) ?_; (simp only [nA])
   refine AWL.nil ?_
   (refine hK _ ?_; clear hK K; (skip))
   refine AW.cond rfl rfl rfl (fun hc => ?_) (fun hc => ?_)
   ·
    have hc12 := hc; have hk := of_decide_eq_true hc12; have hF : fieldsL x.kind = [9] := (by rw [hk]; rfl)
    refine AW.region ?_
    refine awP (op_move rfl rfl) ?_; (simp only [nA, ↓reduceIte])
    (refine awP (op_fa_ptr rfl rfl rfl fl35_10 (by exact sz32) (by decide) rfl) ?_); (try simp only [nA, Nat.reduceBEq, Nat.reduceEqDiff, ↓reduceIte, Nat.reduceAdd, Nat.reduceSub])
    (refine awR (op_load_ptr rfl rfl rfl rfl ag32 sz32 (bl rfl) rfl) ?_); (try simp only [nA, Nat.reduceBEq, Nat.reduceEqDiff, ↓reduceIte, Nat.reduceAdd, Nat.reduceSub])
    refine awJ (op_callA rfl en36 (C36 (bs := hd0 x) (o := x.op) (by rw [hd_len]; decide)) (by exact rfl) (RL.cons .sl (RL.cons (.base (by exact View.same rfl)) (RL.nil))) (bv_vc _) (List.length_map _)) ?_; (simp only [nA, Nat.reduceBEq, Nat.reduceEqDiff, ↓reduceIte])
    refine awP (op_assign rfl rfl) ?_; (simp only [nA])
    refine AWL.nil ?_
    (try simp only [thenE, inBlk, Nat.reduceEqDiff, ↓reduceIte])
    exact ⟨(_, _, _), enc_1 hF, ⟨rfl, trivial⟩, (by rfl), (by trivial)⟩
   have hc12 := hc
   (refine AW.seq_k ?_; intro K hK)
   refine AW.region ?_
   (refine awP (op_eql rfl rfl rfl) ?_); (try simp only [nA, Nat.reduceBEq, Nat.reduceEqDiff, ↓reduceIte, Nat.reduceAdd, Nat.reduceSub])
   refine awP (op_assign rfl rfl) ?_; (simp only [nA])
   refine AWL.nil ?_
   (refine hK _ ?_; clear hK K; (skip))
   refine AW.cond rfl rfl rfl (fun hc => ?_) (fun hc => ?_)
   ·
    have hc13 := hc; have hk := of_decide_eq_true hc13; have hF : fieldsL x.kind = [8] := (by rw [hk]; rfl)
    refine AW.region ?_
    refine awP (op_move rfl rfl) ?_; (simp only [nA, ↓reduceIte])
    (refine awP (op_fa_ptr rfl rfl rfl fl35_9 (by exact sz3) (by decide) rfl) ?_); (try simp only [nA, Nat.reduceBEq, Nat.reduceEqDiff, ↓reduceIte, Nat.reduceAdd, Nat.reduceSub])
    (refine awR (op_load_ptr1 rfl rfl rfl rfl ag3 rfl rfl) ?_); (try simp only [nA, Nat.reduceBEq, Nat.reduceEqDiff, ↓reduceIte, Nat.reduceAdd, Nat.reduceSub])
    refine awJ (op_callA rfl en32 (C32 (bs := hd0 x) (n := x.device) (by rw [hd_len]; decide)) (by exact rfl) (RL.cons .sl (RL.cons (.base (by exact View.same rfl)) (RL.nil))) (bv_vc _) (List.length_map _)) ?_; (simp only [nA, Nat.reduceBEq, Nat.reduceEqDiff, ↓reduceIte])
    refine awP (op_assign rfl rfl) ?_; (simp only [nA])
    refine AWL.nil ?_
    (try simp only [thenE, inBlk, Nat.reduceEqDiff, ↓reduceIte])
    exact ⟨(_, _, _), enc_1 hF, ⟨rfl, trivial⟩, (by rfl), (by trivial)⟩
   have hc13 := hc
   (refine AW.seq_k ?_; intro K hK)
   refine AW.region ?_
   (refine awP (op_eql rfl rfl rfl) ?_); (try simp only [nA, Nat.reduceBEq, Nat.reduceEqDiff, ↓reduceIte, Nat.reduceAdd, Nat.reduceSub])
   refine awP (op_assign rfl rfl) ?_; (simp only [nA])
   refine AWL.nil ?_
   (refine hK _ ?_; clear hK K; (skip))
   refine AW.cond rfl rfl rfl (fun hc => ?_) (fun hc => ?_)
   ·
    have hc14 := hc; have hk := of_decide_eq_true hc14; have hF : fieldsL x.kind = [8, 10] := (by rw [hk]; rfl); have ho := hG.lim.2.2
    (refine AW.seq_k ?_; intro K hK)
    refine AW.ad [(0, 1, .own 35 [x.av])] mix rfl ?_
    refine adP 0 rfl (fun T' ok => op_move rfl rfl) (by exact ⟨rfl, trivial⟩) (by kernel_rfl) (by kernel_rfl) ?_; (simp only [nA, Nat.reduceBEq, Nat.reduceEqDiff, ↓reduceIte])
    (refine adP 1 rfl (fun T' ok => op_fa_ptr rfl rfl (by exact ok.1) fl35_9 (by exact sz3) (by decide) rfl) (by exact ⟨rfl, trivial⟩) (by kernel_rfl) (by kernel_rfl) ?_); (try simp only [nA, Nat.reduceBEq, Nat.reduceEqDiff, ↓reduceIte, Nat.reduceAdd, Nat.reduceSub])
    (refine adR 2 rfl (fun T' ok => op_load_ptr1 rfl rfl (by exact ok.1) rfl ag3 rfl rfl) (by exact ⟨rfl, trivial⟩) (by kernel_rfl) (by kernel_rfl) ?_); (try simp only [nA, Nat.reduceBEq, Nat.reduceEqDiff, ↓reduceIte, Nat.reduceAdd, Nat.reduceSub])
    (refine adP 4 rfl (fun T' ok => op_fa_ptr rfl rfl (by exact ok.1) fl35_11 (by exact sz33) (by decide) rfl) (by exact ⟨rfl, trivial⟩) (by kernel_rfl) (by kernel_rfl) ?_); (try simp only [nA, Nat.reduceBEq, Nat.reduceEqDiff, ↓reduceIte, Nat.reduceAdd, Nat.reduceSub])
    (refine adR 5 rfl (fun T' ok => op_load_ptr1 rfl rfl (by exact ok.1) rfl ag33 rfl rfl) (by exact ⟨rfl, trivial⟩) (by kernel_rfl) (by kernel_rfl) ?_); (try simp only [nA, Nat.reduceBEq, Nat.reduceEqDiff, ↓reduceIte, Nat.reduceAdd, Nat.reduceSub])
    refine adP 6 rfl (fun T' ok => op_len_ro (n := x.ops.length) rfl rfl Tryd.underlying33 (.inr (.inl ⟨_, rfl, by simp⟩))) (by exact ⟨rfl, trivial⟩) (by kernel_rfl) (by kernel_rfl) ?_; (try simp only [nA, Nat.reduceBEq, Nat.reduceEqDiff, ↓reduceIte, Nat.reduceAdd, Nat.reduceSub])
    refine adJ 3 rfl (op_callA rfl en32 (C32 (bs := hd0 x) (n := x.device) (by rw [hd_len]; decide)) (by exact rfl) (RL.cons .sl (RL.cons (.base (by exact View.same rfl)) (RL.nil))) (bv_vc _) (List.length_map _)) (by kernel_rfl) (by exact ⟨rfl, trivial⟩) ?_; (simp only [nA, Nat.reduceBEq, Nat.reduceEqDiff, ↓reduceIte])
    refine adJ 7 rfl (op_callA rfl en32 (C32 (bs := hd0 x ++ b4 x.device) (n := (x.ops.length : Nat)) (by rw [app_4, hd_len]; decide)) (by exact rfl) (RL.cons .sl (RL.cons (.base (by exact View.same rfl)) (RL.nil))) (bv_vc _) (List.length_map _)) (by kernel_rfl) (by exact ⟨rfl, trivial⟩) ?_; (simp only [nA, Nat.reduceBEq, Nat.reduceEqDiff, ↓reduceIte])
    refine adP 8 rfl (fun T' ok => op_assign rfl rfl) (by exact ⟨rfl, trivial⟩) (by kernel_rfl) (by kernel_rfl) ?_; (simp only [nA])
    refine adDone (by kernel_rfl) ?_
    (refine hK _ ?_; clear hK K; (skip))
    (refine AW.seq_k ?_; intro K hK)
    refine AW.region ?_
    refine awP (op_assign rfl rfl) ?_; (try simp only [nA, Nat.reduceBEq, Nat.reduceEqDiff, ↓reduceIte, Nat.reduceAdd, Nat.reduceSub])
    refine AWL.nil ?_
    (refine hK _ ?_; clear hK K; (skip))
    refine AW.block ?_
    refine AW.loopI (fun (q : Nat × Nat × Nat) => [(1, .ptr 0 1 0 0), (5, .sl 1 q.2.1 0 (((hd0 x ++ b4 x.device) ++ b4 (x.ops.length : Nat)) ++ (x.ops.take q.1).flatMap eOp).length), (7, .v (.int .i64 (q.1 : Nat)))]) (fun q => ⟨[(1, .own 35 [x.av]), (q.2.1, wO (((hd0 x ++ b4 x.device) ++ b4 (x.ops.length : Nat)) ++ (x.ops.take q.1).flatMap eOp))], q.2.2⟩) (fun q => q.1 ≤ x.ops.length) (fun q => x.ops.length - q.1) (0, 4, 5) (by simp) ⟨rfl, by show AV.sl 1 4 0 (((hd0 x ++ b4 x.device) ++ b4 (x.ops.length : Nat))).length = _; simp, rfl, trivial⟩ (by simp) ?_; rintro ⟨i, kk, ep⟩ ρ hi; dsimp only at hi ⊢; simp only [updL]; have hft := flatTk (xs := x.ops) (e := eOp) (k := 40) (i := i) fun r _ => by rw [op_len]; omega
    (refine AW.seq_k ?_; intro K hK)
    (refine AW.seq_k ?_; intro K hK)
    refine AW.region ?_
    refine awP (op_move rfl rfl) ?_; (simp only [nA, ↓reduceIte])
    (refine awP (op_fa_ptr rfl rfl rfl fl35_11 (by exact sz33) (by decide) rfl) ?_); (try simp only [nA, Nat.reduceBEq, Nat.reduceEqDiff, ↓reduceIte, Nat.reduceAdd, Nat.reduceSub])
    (refine awR (op_load_ptr1 rfl rfl rfl rfl ag33 rfl rfl) ?_); (try simp only [nA, Nat.reduceBEq, Nat.reduceEqDiff, ↓reduceIte, Nat.reduceAdd, Nat.reduceSub])
    refine awP (op_len_ro (n := x.ops.length) rfl rfl Tryd.underlying33 (.inr (.inl ⟨_, rfl, by simp⟩))) ?_; (try simp only [nA, Nat.reduceBEq, Nat.reduceEqDiff, ↓reduceIte, Nat.reduceAdd, Nat.reduceSub])
    refine awP (op_lss rfl rfl rfl) ?_; (try simp only [nA, Nat.reduceBEq, Nat.reduceEqDiff, ↓reduceIte, Nat.reduceAdd, Nat.reduceSub])
    refine AWL.nil ?_
    (refine hK _ ?_; clear hK K; (skip))
    refine AW.cond rfl rfl rfl (fun hc => ?_) (fun hc => ?_)
    ·
     have hc15 := hc; have hlt : i < x.ops.length := (by simpa using hc15)
     refine AW.skip ?_
     (refine hK _ ?_; clear hK K; (skip))
     (refine AW.seq_k ?_; intro K hK)
     refine AW.block ?_
     refine AW.region ?_
     refine awP (op_move rfl rfl) ?_; (simp only [nA, ↓reduceIte])
     (refine awP (op_fa_ptr rfl rfl rfl fl35_11 (by exact sz33) (by decide) rfl) ?_); (try simp only [nA, Nat.reduceBEq, Nat.reduceEqDiff, ↓reduceIte, Nat.reduceAdd, Nat.reduceSub])
     (refine awR (op_load_ptr1 rfl rfl rfl rfl ag33 rfl rfl) ?_); (try simp only [nA, Nat.reduceBEq, Nat.reduceEqDiff, ↓reduceIte, Nat.reduceAdd, Nat.reduceSub])
     refine awP (op_move rfl rfl) ?_; (simp only [nA, ↓reduceIte])
     refine awP (op_ia_ro i rfl (.inl rfl) rfl Tryd.underlying33 rfl (get_mapD (by omega)) (by exact sz32) (bl rfl)) ?_; (try simp only [nA, Nat.reduceBEq, Nat.reduceEqDiff, ↓reduceIte, Nat.reduceAdd, Nat.reduceSub])
     (refine awR (op_load_rop rfl rfl ag32 sz32 (bl rfl) (by decide) rfl) ?_); (try simp only [nA, Nat.reduceBEq, Nat.reduceEqDiff, ↓reduceIte, Nat.reduceAdd, Nat.reduceSub])
     refine awJ (op_callA rfl en36 (C36 (bs := (((hd0 x ++ b4 x.device) ++ b4 (x.ops.length : Nat)) ++ (x.ops.take i).flatMap eOp)) (o := x.ops.getD i default) (by rw [List.length_append, app_4, app_4, hd_len]; omega)) (by exact rfl) (RL.cons .sl (RL.cons (.base (by exact View.same rfl)) (RL.nil))) (bv_vc _) (List.length_map _)) ?_; (try simp only [nA, Nat.reduceBEq, Nat.reduceEqDiff, ↓reduceIte, Nat.reduceAdd, Nat.reduceSub])
     refine awP (op_assign rfl rfl) ?_; (simp only [nA])
     refine AWL.nil ?_
     (try simp only [thenE, inBlk, Nat.reduceEqDiff, ↓reduceIte])
     (refine hK _ ?_; clear hK K; (skip))
     refine AW.region ?_
     refine awP (op_move rfl rfl) ?_; (simp only [nA, ↓reduceIte])
     (refine awP (op_addi rfl rfl rfl (by omega)) ?_); (try simp only [nA, Nat.reduceBEq, Nat.reduceEqDiff, ↓reduceIte, Nat.reduceAdd, Nat.reduceSub])
     refine awP (op_assign rfl rfl) ?_; (simp only [nA])
     skip
     refine AWL.nil ?_
     have hB := take_flatG (e := eOp) (bs := ((hd0 x ++ b4 x.device) ++ b4 (x.ops.length : Nat))) hlt; rw [hB]; refine ⟨(i + 1, _, _), by dsimp only; omega, by dsimp only; omega, ⟨rfl, rfl, by dsimp only; exact congrArg (fun z => AV.v (.int .i64 z)) (by omega), trivial⟩, (by rfl), (by rfl)⟩
    have hc15 := hc; have hnl : ¬ i < x.ops.length := (by simpa using hc15); rw [show x.ops.take i = x.ops from List.take_of_length_le (by omega)]
    refine AW.exit ?_; (try simp only [thenE, inBlk, Nat.reduceEqDiff, ↓reduceIte])
    clear hK K
    (try simp only [thenE, inBlk, Nat.reduceEqDiff, ↓reduceIte])
    exact ⟨(_, _, _), enc_12 hF, ⟨rfl, trivial⟩, (by rfl), (by trivial)⟩
   have hc14 := hc
   (refine AW.seq_k ?_; intro K hK)
   refine AW.region ?_
   (refine awP (op_eql rfl rfl rfl) ?_); (try simp only [nA, Nat.reduceBEq, Nat.reduceEqDiff, ↓reduceIte, Nat.reduceAdd, Nat.reduceSub])
   refine awP (op_assign rfl rfl) ?_; (simp only [nA])
   refine AWL.nil ?_
   (refine hK _ ?_; clear hK K; (skip))
   refine AW.cond rfl rfl rfl (fun hc => ?_) (fun hc => ?_)
   ·
    have hc16 := hc; have hk := of_decide_eq_true hc16; have hF : fieldsL x.kind = [11] := (by rw [hk]; rfl); have hfl := (fl_good (f := x.fl) (hG.pr 11 (by rw [hF]; simp))).2
    refine AW.region ?_
    refine awP (op_move rfl rfl) ?_; (simp only [nA, ↓reduceIte])
    (refine awP (op_fa_ptr rfl rfl rfl fl35_12 (by exact sz26) (by decide) rfl) ?_); (try simp only [nA, Nat.reduceBEq, Nat.reduceEqDiff, ↓reduceIte, Nat.reduceAdd, Nat.reduceSub])
    (refine awR (op_load_ptr rfl rfl rfl rfl ag26 sz26 (bl rfl) rfl) ?_); (try simp only [nA, Nat.reduceBEq, Nat.reduceEqDiff, ↓reduceIte, Nat.reduceAdd, Nat.reduceSub])
    refine awJ (op_callA rfl en35 (C35 (bs := hd0 x) (f := x.fl) (by rw [hd_len]; decide) (by omega) (by omega)) (by exact rfl) (RL.cons .sl (RL.cons (.base (by exact View.same rfl)) (RL.nil))) (bv_vc _) (List.length_map _)) ?_; (simp only [nA, Nat.reduceBEq, Nat.reduceEqDiff, ↓reduceIte])
    refine awP (op_assign rfl rfl) ?_; (simp only [nA])
    refine AWL.nil ?_
    (try simp only [thenE, inBlk, Nat.reduceEqDiff, ↓reduceIte])
    exact ⟨(_, _, _), enc_1 hF, ⟨rfl, trivial⟩, (by rfl), (by trivial)⟩
   have hc16 := hc
   refine AW.skip ?_
   (try simp only [thenE, inBlk, Nat.reduceEqDiff, ↓reduceIte])
   exact ⟨(_, _, _), enc_0 (by have h2 : ¬ (x.kind = 2 ∨ x.kind = 10) := (fun h => by have := hb2.2 h; rw [this] at hc4; cases hc4); have h6 : ¬ (x.kind = 6 ∨ x.kind = 7) := (fun h => by have := hb6.2 h; rw [this] at hc10; cases hc10); simp only [decide_eq_false_iff_not] at hc2 hc5 hc7 hc8 hc11 hc12 hc13 hc14 hc16; unfold fieldsL; repeat rw [if_neg (by omega)]), ⟨rfl, trivial⟩, (by rfl), (by trivial)⟩
  rintro ⟨bs, kk, ep⟩ ρ hbs; dsimp only at hbs ⊢; subst hbs; simp only [updL]
  (refine AW.seq_k ?_; intro K hK)
  refine AW.region ?_
  refine awP (op_move rfl rfl) ?_; (simp only [nA])
  refine awP (op_assign rfl rfl) ?_; (simp only [nA])
  refine awP (op_assign rfl rfl) ?_; (try simp only [nA, Nat.reduceBEq, Nat.reduceEqDiff, ↓reduceIte, Nat.reduceAdd, Nat.reduceSub])
  refine AWL.nil ?_
  (refine hK _ ?_; clear hK K; (skip))
  refine AW.gh (Gh.freeze 2 (bl rfl) rfl rfl (bv_flat _) (es' := (encB x).map bv) (List.take_of_length_le (by rw [List.length_map]; exact Nat.le_refl _))) ?_; (try simp only [nA, Nat.reduceBEq, Nat.reduceEqDiff, ↓reduceIte, Nat.reduceAdd, Nat.reduceSub])
  refine AW.ret ?_; (try simp only [thenE, inBlk, Nat.reduceEqDiff, ↓reduceIte]); rw [enc_ok hG]; exact RQ.of0 rfl (.tmp (bl rfl) rfl rfl (.tmp (bl rfl) rfl rfl .nil))
end Go.Proofs.YtfmnaigedgmhoaaDoor
namespace Go.Proofs.YtfmnaigedgmhoaaDoor
open Go.RowKit
set_option linter.unusedSimpArgs false
set_option linter.unusedVariables false
set_option maxRecDepth 100000
theorem sz95 : sizeIs Tryd.prog 95 1 := by unfold sizeIs; kernel_rfl
abbrev fnA (f : FuncId) : AV := .v (.func (.func f) #[] #[])
abbrev rdsL : List FuncId := [73, 74, 75, 76, 77, 78, 79, 80, 81, 82, 83, 84]
abbrev rdsA : List AV := [fnA 73, fnA 74, fnA 75, fnA 76, fnA 77, fnA 78, fnA 79, fnA 80, fnA 81, fnA 82, fnA 83, fnA 84]
set_option maxHeartbeats 8000000 in
theorem C44 : Fn Tryd.prog 44 [] [] [.agg rdsA] [] := by
  refine Spec.body Tryd.func44 rfl Tryd.ntmps44 (by simp) rfl ?_; intro S0 own0 v0 w0 gl
  (refine AW.seq_k ?_; intro K hK)
  refine AW.region ?_
  refine awJ (op_alloc rfl ze96 rfl) ?_; (simp only [nA, Nat.reduceBEq, Nat.reduceEqDiff, ↓reduceIte])
  refine AWL.nil ?_
  (refine hK _ ?_; clear hK K; (try simp only [nA, Nat.reduceBEq, Nat.reduceEqDiff, ↓reduceIte, Nat.reduceAdd, Nat.reduceSub]))
  (refine AW.seq_k ?_; intro K hK)
  refine AW.region ?_
  refine awP (op_buildArr (xs := rdsA) rfl [(0, [fnA 73]), (1, [fnA 74]), (2, [fnA 75]), (3, [fnA 76]), (4, [fnA 77]), (5, [fnA 78]), (6, [fnA 79]), (7, [fnA 80]), (8, [fnA 81]), (9, [fnA 82]), (10, [fnA 83]), (11, [fnA 84])] Tryd.underlying96 sz95 ze96 rfl rfl rfl) ?_; (try simp only [nA, Nat.reduceBEq, Nat.reduceEqDiff, ↓reduceIte, Nat.reduceAdd, Nat.reduceSub])
  refine awJ (op_store rfl rfl rfl rfl rfl rfl sz96 rfl (bl rfl) rfl) ?_; (simp only [nA, Nat.reduceBEq, Nat.reduceEqDiff, ↓reduceIte])
  refine AWL.nil ?_
  (refine hK _ ?_; clear hK K; (skip))
  skip
  refine AW.ret ?_; (try simp only [thenE, inBlk, Nat.reduceEqDiff, ↓reduceIte]); exact RQ.of0 rfl (.cell (bl rfl) rfl rfl rfl ag96 sz96 (bl rfl) rfl rfl .nil)
end Go.Proofs.YtfmnaigedgmhoaaDoor
namespace Go.Proofs.YtfmnaigedgmhoaaDoor
open Go.RowKit
set_option linter.unusedSimpArgs false
set_option linter.unusedVariables false
set_option maxRecDepth 100000
abbrev rowY (y : Ev) (s : RS) : List AV := rdC y (.own 66 (y.reports.map Report.av)) (.own 32 (y.ops.map Op.av)) s
set_option maxHeartbeats 8000000 in
theorem C73p {p : Nat} {y : Ev} {s : RS} (hp : p ≤ 11) (hl : s.b.length ≤ 1000000) (h6 : p = 6 → y.reports = []) (h10 : p = 10 → y.ops = []) : Fn Tryd.prog (73 + p) [.own 94 [rowY y s]] [.ptr 0 0 0 0] [] [.own 94 [rowY (dM rE p y s).1 (dM rE p y s).2]] := by
  match p, hp, h6, h10 with
  | 0, _, _, _ => exact C73v (C99 hl)
  | 1, _, _, _ => exact C74v (C100 hl)
  | 2, _, _, _ => exact C75v (C101 hl)
  | 3, _, _, _ => exact C76v (C99 hl)
  | 4, _, _, _ => exact C77v (C99 hl)
  | 5, _, _, _ => exact C78v (C102 hl)
  | 6, _, h6, _ =>
    have e := h6 rfl
    have h := C79 (x := y) (os := .own 32 (y.ops.map Op.av)) hl
    show Fn Tryd.prog 79 [.own 94 [rdC y (.own 66 (y.reports.map Report.av)) (.own 32 (y.ops.map Op.av)) s]] [.ptr 0 0 0 0] [] [.own 94 [rdC y (.own 66 ((lsM rE (rpM rE) y.reports s).1.map Report.av)) (.own 32 (y.ops.map Op.av)) (lsM rE (rpM rE) y.reports s).2]]
    rw [e]
    exact h
  | 7, _, _, _ => exact C80v (C99 hl) (C99 (len1 hl)) (C103 (len1 (len1 hl)))
  | 8, _, _, _ => exact C81v (C99 hl)
  | 9, _, _, _ => exact C82v (C104 hl)
  | 10, _, _, h10 =>
    have e := h10 rfl
    have h := C83 (x := y) (rs := .own 66 (y.reports.map Report.av)) hl
    show Fn Tryd.prog 83 [.own 94 [rdC y (.own 66 (y.reports.map Report.av)) (.own 32 (y.ops.map Op.av)) s]] [.ptr 0 0 0 0] [] [.own 94 [rdC y (.own 66 (y.reports.map Report.av)) (.own 32 ((lsM rE (opM rE) y.ops s).1.map Op.av)) (lsM rE (opM rE) y.ops s).2]]
    rw [e]
    exact h
  | 11, _, _, _ => exact C84v (C103 hl)
theorem en_p {p : Nat} (hp : p ≤ 11) : Enters Tryd.prog (73 + p) := by
  match p, hp with
  | 0, _ => exact en73
  | 1, _ => exact en74
  | 2, _ => exact en75
  | 3, _ => exact en76
  | 4, _ => exact en77
  | 5, _ => exact en78
  | 6, _ => exact en79
  | 7, _ => exact en80
  | 8, _ => exact en81
  | 9, _ => exact en82
  | 10, _ => exact en83
  | 11, _ => exact en84
theorem rds_get {p : Nat} (hp : p ≤ 11) : rdsA[p]? = some (fnA (73 + p)) := by
  match p, hp with
  | 0, _ => rfl
  | 1, _ => rfl
  | 2, _ => rfl
  | 3, _ => rfl
  | 4, _ => rfl
  | 5, _ => rfl
  | 6, _ => rfl
  | 7, _ => rfl
  | 8, _ => rfl
  | 9, _ => rfl
  | 10, _ => rfl
  | 11, _ => rfl
theorem repM_len {α : Type} {m : M α} (h : ∀ s, (m s).2.b.length ≤ s.b.length) : ∀ (n : Nat) (acc : List α) (s : RS), (repM m n acc s).2.b.length ≤ s.b.length
  | 0, _, _ => Nat.le_refl _
  | n + 1, acc, s => by
    show (if s.bad = true then (acc, s) else repM m n (acc ++ [(m s).1]) (m s).2).2.b.length ≤ _
    split
    · exact Nat.le_refl _
    exact Nat.le_trans (repM_len h n _ _) (h s)
theorem lsM_len {α : Type} {m : M α} (h : ∀ s, (m s).2.b.length ≤ s.b.length) (acc : List α) (s : RS) : (lsM rE m acc s).2.b.length ≤ s.b.length := Nat.le_trans (repM_len h _ _ _) (numE_len s)
theorem flM_le (s : RS) : (flM rE s).2.b.length ≤ s.b.length := Nat.le_trans (numE_len _) (Nat.le_trans (wdE_len _) (Nat.le_trans (numE_len _) (wdE_len s)))
theorem dM_len (p : Nat) (y : Ev) (s : RS) : (dM rE p y s).2.b.length ≤ s.b.length := by
  match p with
  | 0 => exact numE_len s
  | 1 => exact wdE_len s
  | 2 => exact pl_le s
  | 3 => exact numE_len s
  | 4 => exact numE_len s
  | 5 => exact trE_len s
  | 6 => exact lsM_len rp_le _ s
  | 7 => exact Nat.le_trans (flM_le _) (Nat.le_trans (numE_len _) (numE_len s))
  | 8 => exact numE_len s
  | 9 => exact op_le s
  | 10 => exact lsM_len op_le _ s
  | 11 => exact flM_le s
  | n + 12 => exact Nat.le_refl _
theorem dM_lists (p : Nat) (y : Ev) (s : RS) : (p ≠ 6 → (dM rE p y s).1.reports = y.reports) ∧ (p ≠ 10 → (dM rE p y s).1.ops = y.ops) ∧ (dM rE p y s).1.kind = y.kind := by
  match p with
  | 0 => exact ⟨fun _ => rfl, fun _ => rfl, rfl⟩
  | 1 => exact ⟨fun _ => rfl, fun _ => rfl, rfl⟩
  | 2 => exact ⟨fun _ => rfl, fun _ => rfl, rfl⟩
  | 3 => exact ⟨fun _ => rfl, fun _ => rfl, rfl⟩
  | 4 => exact ⟨fun _ => rfl, fun _ => rfl, rfl⟩
  | 5 => exact ⟨fun _ => rfl, fun _ => rfl, rfl⟩
  | 6 => exact ⟨fun h => absurd rfl h, fun _ => rfl, rfl⟩
  | 7 => exact ⟨fun _ => rfl, fun _ => rfl, rfl⟩
  | 8 => exact ⟨fun _ => rfl, fun _ => rfl, rfl⟩
  | 9 => exact ⟨fun _ => rfl, fun _ => rfl, rfl⟩
  | 10 => exact ⟨fun _ => rfl, fun h => absurd rfl h, rfl⟩
  | 11 => exact ⟨fun _ => rfl, fun _ => rfl, rfl⟩
  | n + 12 => exact ⟨fun _ => rfl, fun _ => rfl, rfl⟩
theorem decM_snoc (R : Rdr) : ∀ (l : List Nat) (p : Nat) (y : Ev) (s : RS), decM R (l ++ [p]) y s = dM R p (decM R l y s).1 (decM R l y s).2
  | [], _, _, _ => rfl
  | q :: l, p, y, s => decM_snoc R l p (dM R q y s).1 (dM R q y s).2
/-- What is read of the first i parts. -/
def rdP (k : Int) (r : BL) (i : Nat) : Ev × RS := decM rE ((fieldsL k).take i) (ev0 k) ⟨r, false⟩
theorem fld_get {k : Int} {i : Nat} (h2 : i < (fieldsL k).length) : ((fldI k).getD i default).toNat = (fieldsL k)[i] := by
  unfold fldI
  rw [List.getD_eq_getElem?_getD, List.getElem?_map, List.getElem?_eq_getElem h2]
  exact Int.toNat_natCast _
theorem rdP_step {k : Int} {r : BL} {i : Nat} (h : i < (fldI k).length) : dM rE ((fldI k).getD i default).toNat (rdP k r i).1 (rdP k r i).2 = rdP k r (i + 1) := by
  have h2 : i < (fieldsL k).length := by unfold fldI at h; rw [List.length_map] at h; exact h
  have e := fld_get h2
  unfold rdP
  rw [e, List.take_add_one, List.getElem?_eq_getElem h2]
  exact (decM_snoc rE _ _ _ _).symm
theorem rdP_len (k : Int) (r : BL) : ∀ (i : Nat), (rdP k r i).2.b.length ≤ r.length
  | 0 => Nat.le_refl _
  | i + 1 => by
    by_cases h : i < (fldI k).length
    · rw [← rdP_step h]
      exact Nat.le_trans (dM_len _ _ _) (rdP_len k r i)
    have e : rdP k r (i + 1) = rdP k r i := by
      unfold rdP
      have h2 : (fieldsL k).length ≤ i := by unfold fldI at h; rw [List.length_map] at h; omega
      rw [List.take_of_length_le (by omega), List.take_of_length_le h2]
    rw [e]
    exact rdP_len k r i
theorem decM_lists : ∀ (l : List Nat) (y : Ev) (s : RS), (6 ∉ l → (decM rE l y s).1.reports = y.reports) ∧ (10 ∉ l → (decM rE l y s).1.ops = y.ops) ∧ (decM rE l y s).1.kind = y.kind
  | [], _, _ => ⟨fun _ => rfl, fun _ => rfl, rfl⟩
  | p :: l, y, s => by
    have h1 := dM_lists p y s
    have h2 := decM_lists l (dM rE p y s).1 (dM rE p y s).2
    refine ⟨fun h => ?_, fun h => ?_, h2.2.2.trans h1.2.2⟩
    · exact (h2.1 fun h' => h (by simp [h'])).trans (h1.1 fun e => h (by simp [e]))
    exact (h2.2.1 fun h' => h (by simp [h'])).trans (h1.2.1 fun e => h (by simp [e]))
theorem rdP_lists {k : Int} {r : BL} {i : Nat} (h : i < (fldI k).length) : (((fldI k).getD i default).toNat = 6 → (rdP k r i).1.reports = []) ∧ (((fldI k).getD i default).toNat = 10 → (rdP k r i).1.ops = []) := by
  have h2 : i < (fieldsL k).length := by unfold fldI at h; rw [List.length_map] at h; exact h
  have e := fld_get h2
  have hn := fields_nodup k
  have hni : (fieldsL k)[i] ∉ (fieldsL k).take i := fun hm => by
    obtain ⟨j, hj, ej⟩ := List.mem_iff_getElem.1 hm
    rw [List.length_take] at hj
    rw [List.getElem_take] at ej
    have := (List.getElem_inj hn).1 ej
    omega
  have h3 := decM_lists ((fieldsL k).take i) (ev0 k) ⟨r, false⟩
  rw [e]
  exact ⟨fun h6 => h3.1 (h6 ▸ hni), fun h10 => h3.2.1 (h10 ▸ hni)⟩
theorem rdP_end {k : Int} {r : BL} {i : Nat} (h : ¬ i < (fldI k).length) : rdP k r i = decM rE (fieldsL k) (ev0 k) ⟨r, false⟩ := by
  unfold rdP
  rw [List.take_of_length_le (by unfold fldI at h; rw [List.length_map] at h; omega)]
end Go.Proofs.YtfmnaigedgmhoaaDoor
namespace Go.Proofs.YtfmnaigedgmhoaaDoor
open Go.RowKit
set_option linter.unusedSimpArgs false
set_option linter.unusedVariables false
set_option maxRecDepth 100000
theorem ag95 : aggB Tryd.prog 95 = some false := by unfold aggB; kernel_rfl
def rdD (a : UInt8) (r : BL) : Ev × RS := decM rE (fieldsL (a.toNat : Int)) (ev0 (a.toNat : Int)) ⟨r, false⟩
theorem decB_rd (a : UInt8) (r : BL) : decB (a :: r) = if (rdD a r).2.bad = true ∨ (rdD a r).2.b ≠ [] then none else some (rdD a r).1 := (runD_eq rE_ok (a :: r)).symm
theorem dec_k {b : BL} (h : (decide ((b.length : Int) = 0) || !inB ((b.getD 0 default).toNat : Int) 1 14) = true) : decV b = (ev0 0, 4) := by
  match b, h with
  | [], _ => rfl
  | a :: r, h =>
    have h2 : inB (a.toNat : Int) 1 14 = false := by
      rcases (Bool.or_eq_true _ _).mp h with h | h
      · have := of_decide_eq_true h
        rw [List.length_cons] at this
        omega
      simpa using h
    unfold decV
    dsimp only
    rw [if_pos h2]
theorem dec_no {a : UInt8} {r : BL} (hk : inB (a.toNat : Int) 1 14 = true) (h : (rdD a r).2.bad = true ∨ (rdD a r).2.b ≠ [] ∨ valV (rdD a r).1 ≠ 0) : decV (a :: r) = (ev0 0, 3) := by
  unfold decV
  dsimp only
  rw [if_neg (by rw [hk]; decide), decB_rd]
  by_cases h1 : (rdD a r).2.bad = true ∨ (rdD a r).2.b ≠ []
  · rw [if_pos h1]
  rw [if_neg h1]
  have h2 : valV (rdD a r).1 ≠ 0 := by
    rcases h with h | h | h
    · exact absurd (.inl h) h1
    · exact absurd (.inr h) h1
    exact h
  dsimp only
  rw [if_neg h2]
theorem dec_yes {a : UInt8} {r : BL} (hk : inB (a.toNat : Int) 1 14 = true) (h1 : (rdD a r).2.bad = false) (h2 : (rdD a r).2.b = []) (h3 : valV (rdD a r).1 = 0) : decV (a :: r) = ((rdD a r).1, 0) := by
  unfold decV
  dsimp only
  rw [if_neg (by rw [hk]; decide), decB_rd, if_neg (fun h => h.elim (fun h => by rw [h1] at h; cases h) fun h => h h2)]
  dsimp only
  rw [if_pos h3]
theorem only_lists : ∀ (l : List Nat) (x y : Ev), (6 ∉ l → (onlyP l x y).reports = y.reports) ∧ (10 ∉ l → (onlyP l x y).ops = y.ops) ∧ (1 ∉ l → (onlyP l x y).text = y.text)
  | [], _, _ => ⟨fun _ => rfl, fun _ => rfl, fun _ => rfl⟩
  | p :: l, x, y => by
    have h2 := only_lists l x (setP p x y)
    have h1 : (p ≠ 6 → (setP p x y).reports = y.reports) ∧ (p ≠ 10 → (setP p x y).ops = y.ops) ∧ (p ≠ 1 → (setP p x y).text = y.text) := by
      unfold setP
      split <;> refine ⟨fun h => ?_, fun h => ?_, fun h => ?_⟩ <;> first | rfl | exact absurd rfl h
    exact ⟨fun h => (h2.1 fun h' => h (by simp [h'])).trans (h1.1 fun e => h (by simp [e])), fun h => (h2.2.1 fun h' => h (by simp [h'])).trans (h1.2.1 fun e => h (by simp [e])), fun h => (h2.2.2 fun h' => h (by simp [h'])).trans (h1.2.2 fun e => h (by simp [e]))⟩
theorem part_in {α : Type} {e : α → BL} : ∀ {l : List α} {x : α}, x ∈ l → (e x).length ≤ (l.flatMap e).length
  | y :: l, x, h => by
    rw [List.flatMap_cons, List.length_append]
    rcases List.mem_cons.1 h with rfl | h
    · omega
    have := part_in (e := e) h; omega
theorem len_in {α : Type} {e : α → BL} (he : ∀ x, 1 ≤ (e x).length) : ∀ (l : List α), l.length ≤ (l.flatMap e).length
  | [] => Nat.le_refl _
  | y :: l => by
    rw [List.flatMap_cons, List.length_append, List.length_cons]
    have := len_in he l
    have := he y
    omega
theorem rp_len1 (r : Report) : (eRp r).length = 9 + r.read.size := by
  show (b4 r.device ++ ([_] ++ eWd r.read)).length = _
  simp only [List.length_append, b4_len, wd_len, List.length_cons, List.length_nil]
  omega
theorem rd_sm {a : UInt8} {r : BL} (hl : r.length ≤ 1000000) (hk : inB (a.toNat : Int) 1 14 = true) (h1 : (rdD a r).2.bad = false) (h2 : (rdD a r).2.b = []) : (rdD a r).1.Sm := by
  have hd : decB (a :: r) = some (rdD a r).1 := by rw [decB_rd, if_neg (fun h => h.elim (fun h => by rw [h1] at h; cases h) fun h => h h2)]
  have hkk : (rdD a r).1.kind = (a.toNat : Int) := (decM_lists (fieldsL (a.toNat : Int)) (ev0 (a.toNat : Int)) ⟨r, false⟩).2.2
  obtain ⟨he, ho, -⟩ := decB_of hd (by rw [hkk]; exact inB_iff.1 hk)
  generalize (rdD a r).1 = x at he ho
  have hr : r = (fieldsL x.kind).flatMap (ePart x) := (List.cons.inj he).2
  have hp : ∀ p ∈ fieldsL x.kind, (ePart x p).length ≤ 1000000 := fun p hp => by
    have := part_in (e := ePart x) hp
    rw [← hr] at this
    omega
  have hol := only_lists (fieldsL x.kind) x (ev0 x.kind)
  rw [show onlyP (fieldsL x.kind) x (ev0 x.kind) = x from ho.symm] at hol
  refine ⟨?_, ?_, ?_, ?_⟩
  · by_cases h : 6 ∈ fieldsL x.kind
    · have h3 : (b4 (x.reports.length : Nat) ++ x.reports.flatMap eRp).length ≤ 1000000 := hp 6 h
      rw [List.length_append] at h3
      have := len_in (e := eRp) (fun x => by rw [rp_len1]; omega) x.reports
      omega
    rw [hol.1 h]; exact Nat.zero_le _
  · by_cases h : 10 ∈ fieldsL x.kind
    · have h3 : (b4 (x.ops.length : Nat) ++ x.ops.flatMap eOp).length ≤ 1000000 := hp 10 h
      rw [List.length_append] at h3
      have := len_in (e := eOp) (fun x => by rw [op_len]; omega) x.ops
      omega
    rw [hol.2.1 h]; exact Nat.zero_le _
  · by_cases h : 1 ∈ fieldsL x.kind
    · have h3 : (eWd x.text).length ≤ 1000000 := hp 1 h
      rw [wd_len] at h3
      omega
    rw [hol.2.2 h]; exact Nat.zero_le _
  intro q hq
  by_cases h : 6 ∈ fieldsL x.kind
  · have h3 : (b4 (x.reports.length : Nat) ++ x.reports.flatMap eRp).length ≤ 1000000 := hp 6 h
    rw [List.length_append] at h3
    have h4 := part_in (e := eRp) hq
    rw [rp_len1] at h4
    omega
  rw [hol.1 h] at hq; cases hq
theorem le_rd (k : Int) (r : BL) : RL (Le2 Tryd.prog) [rdC (ev0 k) (.v (.slice none 0 0)) (.v (.slice none 0 0)) ⟨r, false⟩].flatten [rowY (ev0 k) ⟨r, false⟩].flatten := by
  repeat (first | exact RL.nil | refine RL.cons Le2.same ?_ | refine RL.cons (Le2.nilo sz66) ?_ | refine RL.cons (Le2.nilo sz32) ?_)
set_option maxHeartbeats 8000000 in
theorem C20 {b : BL} (hl : b.length ≤ 1000000) : Fn Tryd.prog 20 [] [.ro (b.map bv)] [.agg (decV b).1.av, .v (.int .i64 (decV b).2)] [] := by
  refine Spec.body Tryd.func20 rfl Tryd.ntmps20 (by simp) rfl ?_; intro S0 own0 v0 w0 gl
  (refine AW.seq_k ?_; intro K hK)
  refine AW.region ?_
  refine awJ (op_alloc rfl ze35 rfl) ?_; (simp only [nA, Nat.reduceBEq, Nat.reduceEqDiff, ↓reduceIte])
  refine awP (op_assign rfl rfl) ?_
  refine AWL.nil ?_
  (refine hK _ ?_; clear hK K; (try simp only [nA, Nat.reduceBEq, Nat.reduceEqDiff, ↓reduceIte, Nat.reduceAdd, Nat.reduceSub]))
  (refine AW.seq_k ?_; intro K hK)
  (refine AW.seq_k ?_; intro K hK)
  refine AW.region (AWL.quiet ?_)
  refine aqP (op_move rfl rfl) ?_
  refine aqP (op_len_ro (n := b.length) rfl rfl Tryd.underlying43 (.inr (.inl ⟨_, rfl, by simp⟩))) ?_
  (refine aqP (op_eql rfl rfl rfl) ?_)
  refine aqP (op_move rfl rfl) ?_
  refine' aqOr' [_, _, _, _, _, _] [12,13,14,15,16,17] rfl rfl rfl rfl rfl rfl rfl rfl rfl rfl rfl rfl (fun hb => ?_) ?_; rotate_left
  ·
   (try simp only [hcS] at hb)
   refine aqP (op_move rfl rfl) ?_
   refine aqP (op_ia_ro 0 rfl (.inl rfl) rfl Tryd.underlying43 rfl (get_mapD (f := bv) (xs := b) (by omega)) (by exact sz5) (bl rfl)) ?_
   (refine aqR (op_load_rop1 rfl rfl ag5) ?_)
   refine aqP (op_conv rfl rfl Tryd.underlying5 Tryd.underlying3 (wrapB _)) ?_
   refine aqQ (op_callQ (b := true) rfl en37 (C37 (n := ((b.getD 0 default).toNat : Nat)) (lo := 1) (hi := 14)) (RL.cons (by exact View.same rfl) (RL.cons (by exact View.same rfl) (RL.cons (by exact View.same rfl) (RL.nil)))) rfl) ?_; (simp only [nA, ↓reduceIte])
   refine aqP (op_not rfl rfl rfl) ?_
   (refine aqSeg rfl rfl rfl ?_; repeat (first | exact fun _ _ => rfl | refine upd_out rfl ?_))
  simp only [nA, ↓reduceIte]
  refine AQ.nil ?_
  (refine hK _ ?_; clear hK K; (skip))
  refine AW.cond rfl rfl rfl (fun hc => ?_) (fun hc => ?_)
  ·
   have hc1 := hc
   (refine AW.seq_k ?_; intro K hK)
   refine AW.region ?_
   refine awP (op_build2 (xs := [.v (.int .i64 0), .v (.int .i64 0), .v (.string ⟨#[]⟩), .v (.int .i64 0), .v (.int .i64 0), .v (.int .i64 0), .v (.int .i64 0), .v (.int .i64 0), .v (.bool false), .v (.slice none 0 0), .v (.int .i64 0), .v (.int .i64 0), .v (.string ⟨#[]⟩), .v (.int .i64 0), .v (.string ⟨#[]⟩), .v (.int .i64 0), .v (.int .i64 0), .v (.int .i64 0), .v (.int .i64 0), .v (.int .i64 0), .v (.int .i64 0), .v (.int .i64 0), .v (.int .i64 0), .v (.int .i64 0), .v (.int .i64 0), .v (.int .i64 0), .v (.int .i64 0), .v (.slice none 0 0), .v (.string ⟨#[]⟩), .v (.int .i64 0), .v (.string ⟨#[]⟩), .v (.int .i64 0)]) rfl pl35 ze35 [] rfl rfl rfl) ?_
   refine awJ (op_store rfl rfl rfl rfl rfl rfl sz35 rfl (bl rfl) rfl) ?_; (simp only [nA, Nat.reduceBEq, Nat.reduceEqDiff, ↓reduceIte])
   refine awP (op_assign rfl rfl) ?_
   refine AWL.nil ?_
   (refine hK _ ?_; clear hK K; (try simp only [nA, Nat.reduceBEq, Nat.reduceEqDiff, ↓reduceIte, Nat.reduceAdd, Nat.reduceSub]))
   refine AW.gh (Gh.slot (r := 0) (es' := [(ev0 0).av]) rfl rfl (le_ev0s 0)) ?_; (try simp only [nA, Nat.reduceBEq, Nat.reduceEqDiff, ↓reduceIte, Nat.reduceAdd, Nat.reduceSub])
   refine AW.ret ?_; (try simp only [thenE, inBlk, Nat.reduceEqDiff, ↓reduceIte]); rw [dec_k hc1]; exact RQ.of0 rfl (.cell (bl rfl) rfl rfl rfl ag35 sz35 (bl rfl) rfl rfl (.tmp (bl rfl) rfl rfl .nil))
  have hc1 := hc; obtain ⟨a, r, rfl⟩ : ∃ a r, b = a :: r := (by match b, hc1 with | [], h => (simp at h) | a :: r, _ => exact ⟨a, r, rfl⟩); have hk0 : inB ((a.toNat : Nat) : Int) 1 14 = true := (by have h := (Bool.or_eq_false_iff.1 hc1).2; simpa using h); have hk := inB_iff.1 hk0; have hrl : r.length ≤ 1000000 := (by simp at hl; omega)
  refine AW.skip ?_
  (refine hK _ ?_; clear hK K; (try simp only [nA, Nat.reduceBEq, Nat.reduceEqDiff, ↓reduceIte, Nat.reduceAdd, Nat.reduceSub]))
  (refine AW.seq_k ?_; intro K hK)
  refine AW.quiet_tail 8 mix (by kernel_rfl) rfl rfl ?_
  refine aqP (op_move rfl rfl) ?_
  refine aqP (op_slice_ro 1 (a :: r).length rfl (.inl rfl) (by exact ⟨_, rfl⟩) (by simp [bndIs]) (by simp) (by simp) Tryd.underlying43 sz5 (bv_len (a :: r)) (es' := r.map bv) (by rw [List.take_of_length_le (by simp)]; rfl)) ?_; (simp only [nA, Nat.reduceEqDiff, ↓reduceIte])
  refine aqP (op_move rfl rfl) ?_
  refine aqP (op_ia_ro 0 rfl (.inl rfl) rfl Tryd.underlying43 rfl rfl (by exact sz5) (bl rfl)) ?_
  (refine aqR (op_load_rop1 rfl rfl ag5) ?_)
  refine aqP (op_conv rfl rfl Tryd.underlying5 Tryd.underlying3 (wrapB _)) ?_
  refine aqP (op_build2 (xs := [_, .v (.int .i64 0), .v (.string ⟨#[]⟩), .v (.int .i64 0), .v (.int .i64 0), .v (.int .i64 0), .v (.int .i64 0), .v (.int .i64 0), .v (.bool false), .v (.slice none 0 0), .v (.int .i64 0), .v (.int .i64 0), .v (.string ⟨#[]⟩), .v (.int .i64 0), .v (.string ⟨#[]⟩), .v (.int .i64 0), .v (.int .i64 0), .v (.int .i64 0), .v (.int .i64 0), .v (.int .i64 0), .v (.int .i64 0), .v (.int .i64 0), .v (.int .i64 0), .v (.int .i64 0), .v (.int .i64 0), .v (.int .i64 0), .v (.int .i64 0), .v (.slice none 0 0), .v (.string ⟨#[]⟩), .v (.int .i64 0), .v (.string ⟨#[]⟩), .v (.int .i64 0)]) rfl pl35 ze35 [(0, [_])] rfl rfl rfl) ?_
  refine aqP (op_build2 (xs := [_, _, _, _, _, _, _, _, _, _, _, _, _, _, _, _, _, _, _, _, _, _, _, _, _, _, _, _, _, _, _, _, _, .v (.bool false)]) rfl pl94 ze94 [(0, [_]), (1, [_, _, _, _, _, _, _, _, _, _, _, _, _, _, _, _, _, _, _, _, _, _, _, _, _, _, _, _, _, _, _, _])] rfl rfl rfl) ?_
  refine AQ.nil ?_
  refine awJ (op_box rfl rfl rfl sz94 rfl) ?_; (simp only [nA, Nat.reduceBEq, Nat.reduceEqDiff, ↓reduceIte]); refine AWL.gh (Gh.slot2 (r := 1) (es' := [rowY (ev0 ((a.toNat : Nat) : Int)) ⟨r, false⟩]) rfl rfl (le_rd ((a.toNat : Nat) : Int) r)) ?_; (try simp only [nA, Nat.reduceBEq, Nat.reduceEqDiff, ↓reduceIte, Nat.reduceAdd, Nat.reduceSub])
  refine awP (op_assign rfl rfl) ?_
  refine AWL.nil ?_
  (refine hK _ ?_; clear hK K; (simp only [nA]))
  (refine AW.seq_k ?_; intro K hK)
  refine AW.region ?_
  refine awJ (OpQ.j (op_callQA (b := true) rfl en44 (C44) (RL.nil) rfl)) ?_; (try simp only [nA, Nat.reduceBEq, Nat.reduceEqDiff, ↓reduceIte, Nat.reduceAdd, Nat.reduceSub])
  refine awJ (op_alloc rfl ze96 rfl) ?_; (simp only [nA, Nat.reduceBEq, Nat.reduceEqDiff, ↓reduceIte])
  refine awJ (op_store rfl rfl rfl rfl rfl rfl sz96 rfl (bl rfl) rfl) ?_; (simp only [nA, Nat.reduceBEq, Nat.reduceEqDiff, ↓reduceIte])
  refine AWL.nil ?_
  (refine hK _ ?_; clear hK K; (skip))
  (refine AW.seq_k ?_; intro K hK)
  (refine AW.seq_k ?_; intro K hK)
  refine AW.region ?_
  refine awP (op_move rfl rfl) ?_
  (refine awP (op_nil_slot rfl rfl rfl) ?_)
  (refine awP (op_fa_ptr rfl rfl rfl fl94_1 (by exact sz35) (by decide) rfl) ?_)
  (refine awP (op_fa_ptr rfl rfl rfl fl35_0 (by exact sz3) (by decide) rfl) ?_)
  (refine awR (op_load_ptr1 rfl rfl rfl rfl ag3 rfl rfl) ?_)
  refine awP (op_ia_glob (((a.toNat : Nat) : Int)).toNat rfl rfl Tryd.underlying79 (by show ((a.toNat : Nat) : Int) = _; omega) (fldI_row hk) (by exact sz78)) ?_
  (refine awR (op_load_rop1 rfl rfl ag78) ?_)
  refine awP (op_len_ro (n := (fldI ((a.toNat : Nat) : Int)).length) rfl rfl Tryd.underlying78 (.inr (.inl ⟨_, rfl, by simp⟩))) ?_
  refine awP (op_move rfl rfl) ?_
  refine AWL.nil ?_
  (refine hK _ ?_; clear hK K; (simp only [nA, Nat.reduceBEq, Nat.reduceEqDiff, ↓reduceIte]))
  refine AW.block ?_
  have hfn := fldI_len ((a.toNat : Nat) : Int); refine AW.loopI (fun i => [(2, .ptr 0 1 0 0), (4, .ptr 1 2 0 0), (5, .ptr 2 3 0 0), (36, .ro ((fldI ((a.toNat : Nat) : Int)).map fun n => [.v (.int .i64 n)])), (37, .v (.int .i64 (fldI ((a.toNat : Nat) : Int)).length)), (38, .v (.int .i64 (i : Nat)))]) (fun i => ⟨[(1, .own 35 [evC (ev0 0) (.v (.slice none 0 0)) (.v (.slice none 0 0))]), (2, .own 94 [rowY (rdP ((a.toNat : Nat) : Int) r i).1 (rdP ((a.toNat : Nat) : Int) r i).2]), (3, .own 96 [rdsA])], 4⟩) (fun i => i ≤ (fldI ((a.toNat : Nat) : Int)).length) (fun i => (fldI ((a.toNat : Nat) : Int)).length - i) 0 (by simp) ⟨rfl, rfl, rfl, rfl, rfl, rfl, trivial⟩ rfl ?_; intro i ρ hi; simp only [updL]
  (refine AW.seq_k ?_; intro K hK)
  refine AW.region ?_
  refine awP (op_lss rfl rfl rfl) ?_
  refine AWL.nil ?_
  (refine hK _ ?_; clear hK K; (try simp only [nA, Nat.reduceBEq, Nat.reduceEqDiff, ↓reduceIte, Nat.reduceAdd, Nat.reduceSub]))
  (refine AW.seq_k ?_; intro K hK)
  refine AW.cond rfl rfl rfl (fun hc => ?_) (fun hc => ?_)
  ·
   have hc2 := hc; have hlt : i < (fldI ((a.toNat : Nat) : Int)).length := (by simpa using hc2); have hpb := fldI_bd hlt; have hp11 : ((fldI ((a.toNat : Nat) : Int)).getD i default).toNat ≤ 11 := (by omega); have h610 := rdP_lists (r := r) hlt
   refine AW.skip ?_
   (refine hK _ ?_; clear hK K; (skip))
   (refine AW.seq_k ?_; intro K hK)
   refine AW.block ?_
   (refine AW.seq_k ?_; intro K hK)
   refine AW.region ?_
   refine awP (op_ia_ro i rfl (.inl rfl) rfl Tryd.underlying78 rfl (get_mapD (by omega)) (by exact sz80) (bl rfl)) ?_
   (refine awR (op_load_rop1 rfl rfl ag80) ?_)
   refine awP (op_assign rfl rfl) ?_
   refine AWL.nil ?_
   (refine hK _ ?_; clear hK K; (simp only [nA]))
   refine AW.region ?_
   refine awP (op_move rfl rfl) ?_
   refine awP (op_ia_arr ((fldI ((a.toNat : Nat) : Int)).getD i default).toNat 1 rfl rfl rfl rfl Tryd.underlying96 (by omega) (by omega) sz95 (j' := ((fldI ((a.toNat : Nat) : Int)).getD i default).toNat) (by omega)) ?_
   refine awR (op_load_ptr1 (row := rdsA) rfl rfl rfl rfl ag95 (rds_get hp11) rfl) ?_
   refine awP (op_move rfl rfl) ?_
   refine awJ (op_val1 rfl rfl (en_p hp11) (C73p hp11 (Nat.le_trans (rdP_len ((a.toNat : Nat) : Int) r i) hrl) h610.1 h610.2) (by exact rfl) (RL.cons .ptr RL.nil) (by exact ⟨_, _, _, rfl, rfl, rfl⟩) (by exact rfl) (by exact rfl) (by exact rfl)) ?_; (simp only [nA, ↓reduceIte])
   refine AWL.nil ?_
   (try simp only [thenE, inBlk, Nat.reduceEqDiff, ↓reduceIte])
   (refine hK _ ?_; clear hK K; (skip))
   refine AW.region ?_
   (refine awP (op_addi rfl rfl rfl (by omega)) ?_)
   refine awP (op_move rfl rfl) ?_
   skip
   refine AWL.nil ?_
   refine ⟨i + 1, by omega, by omega, ⟨rfl, rfl, rfl, rfl, rfl, rfl, trivial⟩, congrArg (fun z : Ev × RS => (⟨[(1, .own 35 [evC (ev0 0) (.v (.slice none 0 0)) (.v (.slice none 0 0))]), (2, .own 94 [rowY z.1 z.2]), (3, .own 96 [rdsA])], 4⟩ : Sl)) (rdP_step hlt), (by rfl)⟩
  have hc2 := hc; have hnl : ¬ i < (fldI ((a.toNat : Nat) : Int)).length := (by simpa using hc2); rw [show rdP ((a.toNat : Nat) : Int) r i = rdD a r from rdP_end hnl]; refine AW.gh (Gh.freezeC (r := 1) 0 10 rfl rfl rfl (rp_flat _) rfl) ?_; (try simp only [nA, Nat.reduceBEq, Nat.reduceEqDiff, ↓reduceIte, Nat.reduceAdd, Nat.reduceSub]); refine AW.gh (Gh.freezeC (r := 1) 0 28 rfl rfl rfl (op_flat _) rfl) ?_; (try simp only [nA, Nat.reduceBEq, Nat.reduceEqDiff, ↓reduceIte, Nat.reduceAdd, Nat.reduceSub])
  refine AW.exit ?_; (try simp only [thenE, inBlk, Nat.reduceEqDiff, ↓reduceIte])
  clear hK K
  (refine hK _ ?_; clear hK K; (skip))
  (refine AW.seq_k ?_; intro K hK)
  (refine AW.seq_k ?_; intro K hK)
  refine AW.region (AWL.quiet ?_)
  refine aqP (op_move rfl rfl) ?_
  (refine aqP (op_nil_slot rfl rfl rfl) ?_)
  (refine aqP (op_fa_ptr rfl rfl rfl fl94_2 (by exact sz4) (by decide) rfl) ?_)
  (refine aqR (op_load_ptr1 rfl rfl rfl rfl ag4 rfl rfl) ?_)
  refine aqP (op_move rfl rfl) ?_
  refine' aqOr' [_, _, _, _, _, _] [53,54,55,56,57,58] rfl rfl rfl rfl rfl rfl rfl rfl rfl rfl rfl rfl (fun hb => ?_) ?_; rotate_left
  ·
   (try simp only [hcS] at hb)
   refine aqP (op_move rfl rfl) ?_
   (refine aqP (op_nil_slot rfl rfl rfl) ?_)
   (refine aqP (op_fa_ptr rfl rfl rfl fl94_0 (by exact sz43) (by decide) rfl) ?_)
   (refine aqR (op_load_ptr1 rfl rfl rfl rfl ag43 rfl rfl) ?_)
   refine aqP (op_len_ro (n := (rdD a r).2.b.length) rfl rfl Tryd.underlying43 (.inr (.inl ⟨_, rfl, by simp⟩))) ?_
   refine aqP (op_gtr rfl rfl rfl) ?_
   (refine aqSeg rfl rfl rfl ?_; repeat (first | exact fun _ _ => rfl | refine upd_out rfl ?_))
  simp only [nA, ↓reduceIte]
  refine aqP (op_move rfl rfl) ?_
  refine' aqOr' [_, _, _, _, _, _] [61,62,63,64,65,66] rfl rfl rfl rfl rfl rfl rfl rfl rfl rfl rfl rfl (fun hb => ?_) ?_; rotate_left
  ·
   (try simp only [hcS] at hb)
   refine aqP (op_move rfl rfl) ?_
   (refine aqP (op_nil_slot rfl rfl rfl) ?_)
   (refine aqP (op_fa_ptr rfl rfl rfl fl94_1 (by exact sz35) (by decide) rfl) ?_)
   (refine aqR (op_load_ptr rfl rfl rfl rfl ag35 sz35 (bl rfl) rfl) ?_)
   refine aqQ (op_callQ (b := true) rfl en15 (C15 (x := (rdD a r).1) (by have hq : (rdD a r).2.bad = false ∧ (rdD a r).2.b = [] := (by simpa using hb); exact rd_sm hrl hk0 hq.1 hq.2)) (RL.cons (by exact View.same rfl) (RL.nil)) rfl) ?_; (simp only [nA, Nat.reduceEqDiff, ↓reduceIte])
   (refine aqP (op_neq rfl rfl rfl) ?_)
   (refine aqSeg rfl rfl rfl ?_; repeat (first | exact fun _ _ => rfl | refine upd_out rfl ?_))
  simp only [nA]
  refine AQ.nil ?_
  (refine hK _ ?_; clear hK K; (skip))
  refine AW.cond rfl rfl rfl (fun hc => ?_) (fun hc => ?_)
  ·
   have hc3 := hc
   (refine AW.seq_k ?_; intro K hK)
   refine AW.region ?_
   refine awP (op_build2 (xs := [.v (.int .i64 0), .v (.int .i64 0), .v (.string ⟨#[]⟩), .v (.int .i64 0), .v (.int .i64 0), .v (.int .i64 0), .v (.int .i64 0), .v (.int .i64 0), .v (.bool false), .v (.slice none 0 0), .v (.int .i64 0), .v (.int .i64 0), .v (.string ⟨#[]⟩), .v (.int .i64 0), .v (.string ⟨#[]⟩), .v (.int .i64 0), .v (.int .i64 0), .v (.int .i64 0), .v (.int .i64 0), .v (.int .i64 0), .v (.int .i64 0), .v (.int .i64 0), .v (.int .i64 0), .v (.int .i64 0), .v (.int .i64 0), .v (.int .i64 0), .v (.int .i64 0), .v (.slice none 0 0), .v (.string ⟨#[]⟩), .v (.int .i64 0), .v (.string ⟨#[]⟩), .v (.int .i64 0)]) rfl pl35 ze35 [] rfl rfl rfl) ?_
   refine awJ (op_store rfl rfl rfl rfl rfl rfl sz35 rfl (bl rfl) rfl) ?_; (try simp only [nA, Nat.reduceBEq, Nat.reduceEqDiff, ↓reduceIte, Nat.reduceAdd, Nat.reduceSub])
   refine awP (op_assign rfl rfl) ?_
   refine AWL.nil ?_
   (refine hK _ ?_; clear hK K; (try simp only [nA, Nat.reduceBEq, Nat.reduceEqDiff, ↓reduceIte, Nat.reduceAdd, Nat.reduceSub]))
   refine AW.gh (Gh.slot (r := 0) (es' := [(ev0 0).av]) rfl rfl (le_ev0s 0)) ?_; (try simp only [nA, Nat.reduceBEq, Nat.reduceEqDiff, ↓reduceIte, Nat.reduceAdd, Nat.reduceSub])
   refine AW.ret ?_; (try simp only [thenE, inBlk, Nat.reduceEqDiff, ↓reduceIte]); rw [dec_no hk0 (by have hq : ((rdD a r).2.bad = true ∨ ¬ (rdD a r).2.b = []) ∨ ¬ valV (rdD a r).1 = 0 := (by simpa [List.length_pos_iff] using hc3); rcases hq with (h | h) | h; exact .inl h; exact .inr (.inl h); exact .inr (.inr h))]; exact RQ.of0 rfl (.cell (bl rfl) rfl rfl rfl ag35 sz35 (bl rfl) rfl rfl (.tmp (bl rfl) rfl rfl .nil))
  have hc3 := hc
  refine AW.skip ?_
  (refine hK _ ?_; clear hK K; (skip))
  (refine AW.seq_k ?_; intro K hK)
  refine AW.region ?_
  refine awP (op_move rfl rfl) ?_
  (refine awP (op_nil_slot rfl rfl rfl) ?_)
  (refine awP (op_fa_ptr rfl rfl rfl fl94_1 (by exact sz35) (by decide) rfl) ?_)
  (refine awR (op_load_ptr rfl rfl rfl rfl ag35 sz35 (bl rfl) rfl) ?_)
  refine awJ (op_store rfl rfl rfl rfl rfl rfl sz35 rfl (bl rfl) rfl) ?_; (simp only [nA, Nat.reduceEqDiff, ↓reduceIte])
  refine awP (op_assign rfl rfl) ?_
  refine AWL.nil ?_
  (refine hK _ ?_; clear hK K; (try simp only [nA, Nat.reduceBEq, Nat.reduceEqDiff, ↓reduceIte, Nat.reduceAdd, Nat.reduceSub]))
  skip
  refine AW.ret ?_; (try simp only [thenE, inBlk, Nat.reduceEqDiff, ↓reduceIte]); obtain ⟨⟨h1, h2⟩, h3⟩ : ((rdD a r).2.bad = false ∧ (rdD a r).2.b = []) ∧ valV (rdD a r).1 = 0 := (by simpa using hc3); rw [dec_yes hk0 h1 h2 h3]; exact RQ.of0 rfl (.cell (bl rfl) rfl rfl rfl ag35 sz35 (bl rfl) rfl rfl (.tmp (bl rfl) rfl rfl .nil))
end Go.Proofs.YtfmnaigedgmhoaaDoor
namespace Go.Proofs.YtfmnaigedgmhoaaDoor
open Go.RowKit
set_option linter.unusedSimpArgs false
set_option linter.unusedVariables false
set_option maxRecDepth 100000
def rN (l : List Int) : Nat → Nat → Nat
  | 0, k => k
  | j + 1, k => rN l j (rawN l k)
def opV (l : List Int) (k : Nat) (d : Int) : Op := ⟨gmod (rawV l k) 1048577, d, 1 + gmod (rawV l (rN l 1 k)) 99, 1 + gmod (rawV l (rN l 2 k)) 2, 1 + gmod (rawV l (rN l 3 k)) 999, pieceV l (rN l 4 k) 1000⟩
set_option maxHeartbeats 8000000 in
theorem C29 {l : List Int} {k : Nat} {d : Int} (hl : l.length ≤ 2000) : Fn Tryd.prog 29 [.own 68 [srcRow l k]] [.ptr 0 0 0 0, .v (.int .i64 d)] [.agg (opV l k d).av] [.own 68 [srcRow l (rN l 7 k)]] := by
  have h1 := gmod_bd (x := rawV l (rN l 1 k)) (n := 99) (by decide)
  have h2 := gmod_bd (x := rawV l (rN l 2 k)) (n := 2) (by decide)
  have h3 := gmod_bd (x := rawV l (rN l 3 k)) (n := 999) (by decide)
  refine Spec.body Tryd.func29 rfl Tryd.ntmps29 (by simp) rfl ?_; intro S0 own0 v0 w0 gl
  (refine AW.seq_k ?_; intro K hK)
  refine AW.region ?_
  refine awJ (op_alloc rfl ze32 rfl) ?_; (simp only [nA, Nat.reduceBEq, Nat.reduceEqDiff, ↓reduceIte])
  refine AWL.nil ?_
  (refine hK _ ?_; clear hK K; (try simp only [nA, Nat.reduceBEq, Nat.reduceEqDiff, ↓reduceIte, Nat.reduceAdd, Nat.reduceSub]))
  (refine AW.seq_k ?_; intro K hK)
  refine AW.region ?_
  refine awP (op_move rfl rfl) ?_; (simp only [nA, ↓reduceIte])
  refine awJ (op_call1 rfl en22 (C22 (k := k) (n := 1048577) hl (by decide)) (by exact rfl) (RL.cons .ptr (RL.cons (.base (by exact View.same rfl)) (RL.nil))) (by exact ⟨_, _, _, rfl, rfl, rfl⟩) (by exact rfl) (by exact rfl) (by exact rfl)) ?_; (try simp only [nA, Nat.reduceBEq, Nat.reduceEqDiff, ↓reduceIte, Nat.reduceAdd, Nat.reduceSub])
  refine awP (op_move rfl rfl) ?_; (simp only [nA, ↓reduceIte])
  refine awP (op_move rfl rfl) ?_; (simp only [nA, ↓reduceIte])
  refine awJ (op_call1 rfl en22 (C22 (k := rN l 1 k) (n := 99) hl (by decide)) (by exact rfl) (RL.cons .ptr (RL.cons (.base (by exact View.same rfl)) (RL.nil))) (by exact ⟨_, _, _, rfl, rfl, rfl⟩) (by exact rfl) (by exact rfl) (by exact rfl)) ?_; (try simp only [nA, Nat.reduceBEq, Nat.reduceEqDiff, ↓reduceIte, Nat.reduceAdd, Nat.reduceSub])
  (refine awP (op_addi rfl rfl rfl (by omega)) ?_); (try simp only [nA, Nat.reduceBEq, Nat.reduceEqDiff, ↓reduceIte, Nat.reduceAdd, Nat.reduceSub])
  refine awP (op_move rfl rfl) ?_; (simp only [nA, ↓reduceIte])
  refine awJ (op_call1 rfl en22 (C22 (k := rN l 2 k) (n := 2) hl (by decide)) (by exact rfl) (RL.cons .ptr (RL.cons (.base (by exact View.same rfl)) (RL.nil))) (by exact ⟨_, _, _, rfl, rfl, rfl⟩) (by exact rfl) (by exact rfl) (by exact rfl)) ?_; (try simp only [nA, Nat.reduceBEq, Nat.reduceEqDiff, ↓reduceIte, Nat.reduceAdd, Nat.reduceSub])
  (refine awP (op_addi rfl rfl rfl (by omega)) ?_); (try simp only [nA, Nat.reduceBEq, Nat.reduceEqDiff, ↓reduceIte, Nat.reduceAdd, Nat.reduceSub])
  refine awP (op_move rfl rfl) ?_; (simp only [nA, ↓reduceIte])
  refine awJ (op_call1 rfl en22 (C22 (k := rN l 3 k) (n := 999) hl (by decide)) (by exact rfl) (RL.cons .ptr (RL.cons (.base (by exact View.same rfl)) (RL.nil))) (by exact ⟨_, _, _, rfl, rfl, rfl⟩) (by exact rfl) (by exact rfl) (by exact rfl)) ?_; (try simp only [nA, Nat.reduceBEq, Nat.reduceEqDiff, ↓reduceIte, Nat.reduceAdd, Nat.reduceSub])
  (refine awP (op_addi rfl rfl rfl (by omega)) ?_); (try simp only [nA, Nat.reduceBEq, Nat.reduceEqDiff, ↓reduceIte, Nat.reduceAdd, Nat.reduceSub])
  refine awP (op_move rfl rfl) ?_; (simp only [nA, ↓reduceIte])
  refine awJ (op_call1 rfl en50 (C50 (k := rN l 4 k) (n := 1000) hl (by decide)) (by exact rfl) (RL.cons .ptr (RL.cons (.base (by exact View.same rfl)) (RL.nil))) (by exact ⟨_, _, _, rfl, rfl, rfl⟩) (by exact rfl) (by exact rfl) (by exact rfl)) ?_; (try simp only [nA, Nat.reduceBEq, Nat.reduceEqDiff, ↓reduceIte, Nat.reduceAdd, Nat.reduceSub])
  refine awP (op_build2 (xs := [_, _, _, _, _, _, _, _, _, _]) rfl pl32 ze32 [(0, [_]), (1, [_]), (2, [_]), (3, [_]), (4, [_]), (5, [_, _, _, _, _])] rfl rfl rfl) ?_; (simp only [nA, ↓reduceIte])
  refine awJ (op_store rfl rfl rfl rfl rfl rfl sz32 rfl (bl rfl) rfl) ?_; (simp only [nA, Nat.reduceBEq, Nat.reduceEqDiff, ↓reduceIte])
  refine AWL.nil ?_
  (refine hK _ ?_; clear hK K; (skip))
  skip
  refine AW.ret ?_; (try simp only [thenE, inBlk, Nat.reduceEqDiff, ↓reduceIte]); exact RQ.of (.inl rfl) rfl (.cell (bl rfl) rfl rfl rfl ag32 sz32 (bl rfl) rfl rfl .nil) (by simp) rfl (one_out rfl)
def evT : List ByteArray := [⟨#[]⟩, ⟨#[65]⟩, ⟨#[66, 83, 77, 10, 46, 86, 47, 49, 76, 67, 80, 72, 47, 49, 10, 69, 78, 68, 66, 83, 77, 10]⟩, ⟨#[0, 255]⟩]
def rpT : List ByteArray := [⟨#[]⟩, ⟨#[]⟩, ⟨#[48, 49, 49, 55, 48, 48, 49, 48, 48, 48]⟩, ⟨#[48, 49, 49, 55, 48, 48, 49, 48, 63, 48]⟩]
abbrev tmL : List Int := [0, 1, 300, 1048576]
def repsV (l : List Int) : Nat → Nat → List Report → List Report × Nat
  | 0, k, acc => (acc, k)
  | n + 1, k, acc => if gmod (rawV l k) 6 = 5 then repsV l n (rN l 3 k) (acc ++ [⟨((23 - n : Nat) : Int), decide (gmod (rawV l (rN l 1 k)) 2 = 1), textV l (rN l 2 k) rpT⟩]) else repsV l n (rN l 1 k) acc
def opsV (l : List Int) (d : Int) : Nat → Nat → List Op → List Op × Nat
  | 0, k, acc => (acc, k)
  | n + 1, k, acc => opsV l d n (rN l 7 k) (acc ++ [opV l k d])
def evK (l : List Int) (k : Nat) : Int := 1 + gmod (rawV l k) 14
def evD (l : List Int) (k : Nat) : Int := 1 + gmod (rawV l (rN l 1 k)) 6
def evV (l : List Int) (k : Nat) : Ev × Nat :=
  if evK l k = 1 then ({ ev0 (evK l k) with text := textV l (rN l 1 k) evT }, rN l 2 k)
  else if evK l k = 2 ∨ evK l k = 10 then ({ ev0 (evK l k) with plate := platesP (gmod (rawV l (rN l 1 k)) 1000), node := gmod (rawV l (rN l 2 k)) 24 }, rN l 3 k)
  else if evK l k = 3 then ({ ev0 (evK l k) with time := pickV l (rN l 1 k) tmL, reports := (repsV l 24 (rN l 2 k) []).1 }, (repsV l 24 (rN l 2 k) []).2)
  else if evK l k = 4 then ({ ev0 (evK l k) with image := gmod (rawV l (rN l 1 k)) 1048577, clear := decide (gmod (rawV l (rN l 2 k)) 2 = 1) }, rN l 3 k)
  else if evK l k = 5 then ({ ev0 (evK l k) with rev := ⟨1 + gmod (rawV l (rN l 1 k)) 5, gmod (rawV l (rN l 2 k)) 1048577, flS l (rN l 3 k)⟩ }, rN l 6 k)
  else if evK l k = 6 ∨ evK l k = 7 then ({ ev0 (evK l k) with node := gmod (rawV l (rN l 1 k)) 24 }, rN l 2 k)
  else if evK l k = 8 then ({ ev0 (evK l k) with op := { opV l (rN l 2 k) (evD l k) with kind := 1 }, node := gmod (rawV l (rN l 9 k)) 24 }, rN l 10 k)
  else if evK l k = 9 then ({ ev0 (evK l k) with op := { opV l (rN l 2 k) (evD l k) with kind := 2 } }, rN l 9 k)
  else if evK l k = 11 then ({ ev0 (evK l k) with device := evD l k }, rN l 2 k)
  else if evK l k = 12 then ({ ev0 (evK l k) with device := evD l k, ops := (opsV l (evD l k) (gmod (rawV l (rN l 2 k)) 6).toNat (rN l 3 k) []).1 }, (opsV l (evD l k) (gmod (rawV l (rN l 2 k)) 6).toNat (rN l 3 k) []).2)
  else if evK l k = 13 then ({ ev0 (evK l k) with fl := flS l (rN l 1 k) }, rN l 4 k)
  else (ev0 (evK l k), rN l 1 k)
section
variable {l : List Int} {k : Nat}
theorem evV_1 (h : evK l k = 1) : evV l k = ({ ev0 (evK l k) with text := textV l (rN l 1 k) evT }, rN l 2 k) := by
  unfold evV; rw [if_pos h]
theorem evV_2 (h : evK l k = 2 ∨ evK l k = 10) : evV l k = ({ ev0 (evK l k) with plate := platesP (gmod (rawV l (rN l 1 k)) 1000), node := gmod (rawV l (rN l 2 k)) 24 }, rN l 3 k) := by
  unfold evV; rw [if_neg (by omega), if_pos h]
theorem evV_3 (h : evK l k = 3) : evV l k = ({ ev0 (evK l k) with time := pickV l (rN l 1 k) tmL, reports := (repsV l 24 (rN l 2 k) []).1 }, (repsV l 24 (rN l 2 k) []).2) := by
  unfold evV; rw [if_neg (by omega), if_neg (by omega), if_pos h]
theorem evV_4 (h : evK l k = 4) : evV l k = ({ ev0 (evK l k) with image := gmod (rawV l (rN l 1 k)) 1048577, clear := decide (gmod (rawV l (rN l 2 k)) 2 = 1) }, rN l 3 k) := by
  unfold evV; rw [if_neg (by omega), if_neg (by omega), if_neg (by omega), if_pos h]
theorem evV_5 (h : evK l k = 5) : evV l k = ({ ev0 (evK l k) with rev := ⟨1 + gmod (rawV l (rN l 1 k)) 5, gmod (rawV l (rN l 2 k)) 1048577, flS l (rN l 3 k)⟩ }, rN l 6 k) := by
  unfold evV; rw [if_neg (by omega), if_neg (by omega), if_neg (by omega), if_neg (by omega), if_pos h]
theorem evV_6 (h : evK l k = 6 ∨ evK l k = 7) : evV l k = ({ ev0 (evK l k) with node := gmod (rawV l (rN l 1 k)) 24 }, rN l 2 k) := by
  unfold evV; rw [if_neg (by omega), if_neg (by omega), if_neg (by omega), if_neg (by omega), if_neg (by omega), if_pos h]
theorem evV_8 (h : evK l k = 8) : evV l k = ({ ev0 (evK l k) with op := { opV l (rN l 2 k) (evD l k) with kind := 1 }, node := gmod (rawV l (rN l 9 k)) 24 }, rN l 10 k) := by
  unfold evV; rw [if_neg (by omega), if_neg (by omega), if_neg (by omega), if_neg (by omega), if_neg (by omega), if_neg (by omega), if_pos h]
theorem evV_9 (h : evK l k = 9) : evV l k = ({ ev0 (evK l k) with op := { opV l (rN l 2 k) (evD l k) with kind := 2 } }, rN l 9 k) := by
  unfold evV; rw [if_neg (by omega), if_neg (by omega), if_neg (by omega), if_neg (by omega), if_neg (by omega), if_neg (by omega), if_neg (by omega), if_pos h]
theorem evV_11 (h : evK l k = 11) : evV l k = ({ ev0 (evK l k) with device := evD l k }, rN l 2 k) := by
  unfold evV; rw [if_neg (by omega), if_neg (by omega), if_neg (by omega), if_neg (by omega), if_neg (by omega), if_neg (by omega), if_neg (by omega), if_neg (by omega), if_pos h]
theorem evV_12 (h : evK l k = 12) : evV l k = ({ ev0 (evK l k) with device := evD l k, ops := (opsV l (evD l k) (gmod (rawV l (rN l 2 k)) 6).toNat (rN l 3 k) []).1 }, (opsV l (evD l k) (gmod (rawV l (rN l 2 k)) 6).toNat (rN l 3 k) []).2) := by
  unfold evV; rw [if_neg (by omega), if_neg (by omega), if_neg (by omega), if_neg (by omega), if_neg (by omega), if_neg (by omega), if_neg (by omega), if_neg (by omega), if_neg (by omega), if_pos h]
theorem evV_13 (h : evK l k = 13) : evV l k = ({ ev0 (evK l k) with fl := flS l (rN l 1 k) }, rN l 4 k) := by
  unfold evV; rw [if_neg (by omega), if_neg (by omega), if_neg (by omega), if_neg (by omega), if_neg (by omega), if_neg (by omega), if_neg (by omega), if_neg (by omega), if_neg (by omega), if_neg (by omega), if_pos h]
theorem evV_0 (h : evK l k ≠ 1 ∧ ¬ (evK l k = 2 ∨ evK l k = 10) ∧ evK l k ≠ 3 ∧ evK l k ≠ 4 ∧ evK l k ≠ 5 ∧ ¬ (evK l k = 6 ∨ evK l k = 7) ∧ ¬ (evK l k = 8 ∨ evK l k = 9) ∧ evK l k ≠ 11 ∧ evK l k ≠ 12 ∧ evK l k ≠ 13) : evV l k = (ev0 (evK l k), rN l 1 k) := by
  unfold evV; rw [if_neg (by omega), if_neg (by omega), if_neg (by omega), if_neg (by omega), if_neg (by omega), if_neg (by omega), if_neg (by omega), if_neg (by omega), if_neg (by omega), if_neg (by omega), if_neg (by omega)]
end
end Go.Proofs.YtfmnaigedgmhoaaDoor
namespace Go.Proofs.YtfmnaigedgmhoaaDoor
open Go.RowKit
set_option linter.unusedSimpArgs false
set_option linter.unusedVariables false
set_option maxRecDepth 100000
theorem reps_y {l : List Int} {i kk : Nat} {acc : List Report} (hi : i < 24) (h : gmod (rawV l kk) 6 = 5) : repsV l (24 - i) kk acc = repsV l (24 - (i + 1)) (rN l 3 kk) (acc ++ [⟨(i : Nat), decide (gmod (rawV l (rN l 1 kk)) 2 = 1), textV l (rN l 2 kk) rpT⟩]) := by
  obtain ⟨n, hn⟩ : ∃ n, n = 23 - i := ⟨_, rfl⟩
  rw [show 24 - i = n + 1 by omega, show 24 - (i + 1) = n by omega]
  show (if gmod (rawV l kk) 6 = 5 then _ else _) = _
  rw [if_pos h, show 23 - n = i by omega]
theorem reps_n {l : List Int} {i kk : Nat} {acc : List Report} (hi : i < 24) (h : ¬ gmod (rawV l kk) 6 = 5) : repsV l (24 - i) kk acc = repsV l (24 - (i + 1)) (rN l 1 kk) acc := by
  obtain ⟨n, hn⟩ : ∃ n, n = 23 - i := ⟨_, rfl⟩
  rw [show 24 - i = n + 1 by omega, show 24 - (i + 1) = n by omega]
  show (if gmod (rawV l kk) 6 = 5 then _ else _) = _
  rw [if_neg h]
theorem le_kr (x : Ev) : RL (Le2 Tryd.prog) [evC x (.v (.slice none 0 0)) (.v (.slice none 0 0))].flatten [evC x (.own 66 []) (.ro [])].flatten := by
  repeat (first | exact RL.nil | refine RL.cons Le2.same ?_ | refine RL.cons (Le2.nilo sz66) ?_ | refine RL.cons Le2.nil ?_)
theorem le_ko (x : Ev) : RL (Le2 Tryd.prog) [evC x (.v (.slice none 0 0)) (.v (.slice none 0 0))].flatten [evC x (.ro []) (.own 32 [])].flatten := by
  repeat (first | exact RL.nil | refine RL.cons Le2.same ?_ | refine RL.cons Le2.nil ?_ | refine RL.cons (Le2.nilo sz32) ?_)
theorem sv_flat (l : List ByteArray) : ∀ r ∈ l.map sv, ∀ c ∈ r, flatA c = true := fun r hr c hc => by
  obtain ⟨p, _, rfl⟩ := List.mem_map.1 hr
  obtain rfl : c = _ := by simpa using hc
  rfl
set_option maxHeartbeats 8000000 in
theorem C10 {l : List Int} {k : Nat} (hl : l.length ≤ 2000) : Fn Tryd.prog 10 [.own 68 [srcRow l k]] [.ptr 0 0 0 0] [.agg (evV l k).1.av] [.own 68 [srcRow l (evV l k).2]] := by
  have hg := gmod_bd (x := rawV l k) (n := 14) (by decide)
  have hg5 := gmod_bd (x := rawV l (rN l 1 k)) (n := 5) (by decide)
  have hg1 := gmod_bd (x := rawV l (rN l 1 k)) (n := 6) (by decide)
  have hg6 := gmod_bd (x := rawV l (rN l 2 k)) (n := 6) (by decide)
  refine Spec.body Tryd.func10 rfl Tryd.ntmps10 (by simp) rfl ?_; intro S0 own0 v0 w0 gl
  (refine AW.seq_k ?_; intro K hK)
  refine AW.region ?_
  refine awJ (op_alloc rfl ze35 rfl) ?_; (simp only [nA, Nat.reduceBEq, Nat.reduceEqDiff, ↓reduceIte])
  refine AWL.nil ?_
  (refine hK _ ?_; clear hK K; (try simp only [nA, Nat.reduceBEq, Nat.reduceEqDiff, ↓reduceIte, Nat.reduceAdd, Nat.reduceSub]))
  (refine AW.seq_k ?_; intro K hK)
  refine AW.region ?_
  refine awP (op_move rfl rfl) ?_; (simp only [nA, ↓reduceIte])
  refine awJ (op_call1 rfl en22 (C22 (k := k) (n := 14) hl (by decide)) (by exact rfl) (RL.cons .ptr (RL.cons (.base (by exact View.same rfl)) (RL.nil))) (by exact ⟨_, _, _, rfl, rfl, rfl⟩) (by exact rfl) (by exact rfl) (by exact rfl)) ?_; (try simp only [nA, Nat.reduceBEq, Nat.reduceEqDiff, ↓reduceIte, Nat.reduceAdd, Nat.reduceSub])
  refine awP (op_add (z := (evK l k)) rfl rfl rfl (by rw [IntKind.wrap_i64]; unfold evK; omega)) ?_; (try simp only [nA, Nat.reduceBEq, Nat.reduceEqDiff, ↓reduceIte, Nat.reduceAdd, Nat.reduceSub])
  refine awP (op_build2 (xs := [_, .v (.int .i64 0), .v (.string ⟨#[]⟩), .v (.int .i64 0), .v (.int .i64 0), .v (.int .i64 0), .v (.int .i64 0), .v (.int .i64 0), .v (.bool false), .v (.slice none 0 0), .v (.int .i64 0), .v (.int .i64 0), .v (.string ⟨#[]⟩), .v (.int .i64 0), .v (.string ⟨#[]⟩), .v (.int .i64 0), .v (.int .i64 0), .v (.int .i64 0), .v (.int .i64 0), .v (.int .i64 0), .v (.int .i64 0), .v (.int .i64 0), .v (.int .i64 0), .v (.int .i64 0), .v (.int .i64 0), .v (.int .i64 0), .v (.int .i64 0), .v (.slice none 0 0), .v (.string ⟨#[]⟩), .v (.int .i64 0), .v (.string ⟨#[]⟩), .v (.int .i64 0)]) rfl pl35 ze35 [(0, [_])] rfl rfl rfl) ?_; (simp only [nA])
  refine awJ (op_alloc rfl ze35 rfl) ?_; (simp only [nA, Nat.reduceBEq, Nat.reduceEqDiff, ↓reduceIte])
  refine awJ (op_store rfl rfl rfl rfl rfl rfl sz35 rfl (bl rfl) rfl) ?_; (simp only [nA, Nat.reduceBEq, Nat.reduceEqDiff, ↓reduceIte])
  refine AWL.nil ?_
  (refine hK _ ?_; clear hK K; (skip))
  refine AW.join (fun (q : Ev × Nat × Nat) => [(2, .ptr 1 1 0 0), (3, .ptr 2 2 0 0)]) (fun q => ⟨[(0, .own 68 [srcRow l q.2.1]), (1, .own 35 [evC (ev0 0) (.v (.slice none 0 0)) (.v (.slice none 0 0))]), (2, .own 35 [q.1.av])], q.2.2⟩) (fun q => (q.1, q.2.1) = evV l k) ?_ ?_
  ·
   (refine AW.seq_k ?_; intro K hK)
   refine AW.region ?_
   (refine awP (op_fa_ptr rfl rfl rfl fl35_0 (by exact sz3) (by decide) rfl) ?_); (try simp only [nA, Nat.reduceBEq, Nat.reduceEqDiff, ↓reduceIte, Nat.reduceAdd, Nat.reduceSub])
   (refine awR (op_load_ptr1 rfl rfl rfl rfl ag3 rfl rfl) ?_); (try simp only [nA, Nat.reduceBEq, Nat.reduceEqDiff, ↓reduceIte, Nat.reduceAdd, Nat.reduceSub])
   refine AWL.nil ?_
   (refine hK _ ?_; clear hK K; (try simp only [nA, Nat.reduceBEq, Nat.reduceEqDiff, ↓reduceIte, Nat.reduceAdd, Nat.reduceSub]))
   refine AW.block ?_
   (refine AW.seq_k ?_; intro K hK)
   refine AW.region ?_
   (refine awP (op_eql rfl rfl rfl) ?_); (try simp only [nA, Nat.reduceBEq, Nat.reduceEqDiff, ↓reduceIte, Nat.reduceAdd, Nat.reduceSub])
   refine awP (op_assign rfl rfl) ?_; (simp only [nA])
   refine AWL.nil ?_
   (refine hK _ ?_; clear hK K; (skip))
   refine AW.cond rfl rfl rfl (fun hc => ?_) (fun hc => ?_)
   ·
    have hc1 := hc; have hk := of_decide_eq_true hc1; refine AW.gh (Gh.slot (r := 2) (es' := [(ev0 (evK l k)).av]) rfl rfl (le_ev0s (evK l k))) ?_; (try simp only [nA, Nat.reduceBEq, Nat.reduceEqDiff, ↓reduceIte, Nat.reduceAdd, Nat.reduceSub])
    refine AW.region ?_
    refine awP (op_move rfl rfl) ?_; (simp only [nA, ↓reduceIte])
    refine awJ (OpJ.frz (op_buildSlice rfl [(0, sv ⟨#[]⟩), (1, sv ⟨#[65]⟩), (2, sv ⟨#[66, 83, 77, 10, 46, 86, 47, 49, 76, 67, 80, 72, 47, 49, 10, 69, 78, 68, 66, 83, 77, 10]⟩), (3, sv ⟨#[0, 255]⟩)] (evT.map sv) Tryd.underlying70 ze9 rfl (by decide) rfl (by simp) rfl (bl rfl) (by decide)) (sv_flat _) rfl) ?_; (try simp only [nA, Nat.reduceBEq, Nat.reduceEqDiff, ↓reduceIte, Nat.reduceAdd, Nat.reduceSub])
    refine awJ (op_call1 rfl en25 (C25 (k := rN l 1 k) (ss := evT) hl (by decide) (by decide)) (by exact rfl) (RL.cons .ptr (RL.cons (.base (by exact View.same rfl)) (RL.nil))) (by exact ⟨_, _, _, rfl, rfl, rfl⟩) (by exact rfl) (by exact rfl) (by exact rfl)) ?_; (try simp only [nA, Nat.reduceBEq, Nat.reduceEqDiff, ↓reduceIte, Nat.reduceAdd, Nat.reduceSub])
    (refine awP (op_fa_ptr rfl rfl rfl fl35_2 (by exact sz9) (by decide) rfl) ?_); (try simp only [nA, Nat.reduceBEq, Nat.reduceEqDiff, ↓reduceIte, Nat.reduceAdd, Nat.reduceSub])
    refine awJ (op_store rfl rfl rfl rfl rfl rfl sz9 rfl (bl rfl) rfl) ?_; (simp only [nA, ↓reduceIte])
    refine AWL.nil ?_
    (try simp only [thenE, inBlk, Nat.reduceEqDiff, ↓reduceIte])
    exact ⟨(_, _, _), (evV_1 hk).symm, ⟨rfl, rfl, trivial⟩, (by rfl), (by trivial)⟩
   have hc1 := hc
   refine AW.join (fun (b : Bool) => [(0, .ptr 0 0 0 0), (2, .ptr 1 1 0 0), (3, .ptr 2 2 0 0), (11, .v (.int .i64 (evK l k))), (18, .v (.bool b))]) (fun b => ⟨[(0, .own 68 [srcRow l (rN l 1 k)]), (1, .own 35 [evC (ev0 0) (.v (.slice none 0 0)) (.v (.slice none 0 0))]), (2, .own 35 [evC (ev0 (evK l k)) (.v (.slice none 0 0)) (.v (.slice none 0 0))])], 3⟩) (fun b => b = true ↔ (evK l k) = 2 ∨ (evK l k) = 10) ?_ ?_
   ·
    (refine AW.seq_k ?_; intro K hK)
    refine AW.region ?_
    (refine awP (op_eql rfl rfl rfl) ?_); (try simp only [nA, Nat.reduceBEq, Nat.reduceEqDiff, ↓reduceIte, Nat.reduceAdd, Nat.reduceSub])
    refine awP (op_assign rfl rfl) ?_; (simp only [nA])
    refine AWL.nil ?_
    (refine hK _ ?_; clear hK K; (try simp only [nA, Nat.reduceBEq, Nat.reduceEqDiff, ↓reduceIte, Nat.reduceAdd, Nat.reduceSub]))
    refine AW.cond rfl rfl rfl (fun hc => ?_) (fun hc => ?_)
    ·
     have hc2 := hc
     refine AW.skip ?_
     exact ⟨decide ((evK l k) = 2), ⟨fun h => .inl (of_decide_eq_true h), fun _ => hc2⟩, ⟨rfl, rfl, rfl, rfl, rfl, trivial⟩, (by rfl), (by rfl)⟩
    have hc2 := hc
    refine AW.region ?_
    (refine awP (op_eql rfl rfl rfl) ?_); (try simp only [nA, Nat.reduceBEq, Nat.reduceEqDiff, ↓reduceIte, Nat.reduceAdd, Nat.reduceSub])
    refine awP (op_assign rfl rfl) ?_; (simp only [nA])
    refine AWL.nil ?_
    exact ⟨decide ((evK l k) = 10), ⟨fun h => .inr (of_decide_eq_true h), fun h => h.elim (fun h => absurd h (of_decide_eq_false hc2)) decide_eq_true⟩, ⟨rfl, rfl, rfl, rfl, rfl, trivial⟩, (by rfl), (by rfl)⟩
   intro b2 ρ hb2; simp only [updL]
   refine AW.cond rfl rfl rfl (fun hc => ?_) (fun hc => ?_)
   ·
    have hc3 := hc; have hk := hb2.1 hc3; refine AW.gh (Gh.slot (r := 2) (es' := [(ev0 (evK l k)).av]) rfl rfl (le_ev0s (evK l k))) ?_; (try simp only [nA, Nat.reduceBEq, Nat.reduceEqDiff, ↓reduceIte, Nat.reduceAdd, Nat.reduceSub])
    refine AW.region ?_
    refine awP (op_move rfl rfl) ?_; (simp only [nA])
    refine awJ (op_call1 rfl en26 (C26 (k := rN l 1 k) (n := 1000) hl (by decide)) (by exact rfl) (RL.cons .ptr (RL.cons (.base (by exact View.same rfl)) (RL.nil))) (by exact ⟨_, _, _, rfl, rfl, rfl⟩) (by exact rfl) (by exact rfl) (by exact rfl)) ?_; (try simp only [nA, Nat.reduceBEq, Nat.reduceEqDiff, ↓reduceIte, Nat.reduceAdd, Nat.reduceSub])
    refine awP (op_move rfl rfl) ?_; (simp only [nA, ↓reduceIte])
    refine awJ (op_call1 rfl en22 (C22 (k := rN l 2 k) (n := 24) hl (by decide)) (by exact rfl) (RL.cons .ptr (RL.cons (.base (by exact View.same rfl)) (RL.nil))) (by exact ⟨_, _, _, rfl, rfl, rfl⟩) (by exact rfl) (by exact rfl) (by exact rfl)) ?_; (try simp only [nA, Nat.reduceBEq, Nat.reduceEqDiff, ↓reduceIte, Nat.reduceAdd, Nat.reduceSub])
    (refine awP (op_fa_ptr rfl rfl rfl fl35_3 (by exact sz23) (by decide) rfl) ?_); (try simp only [nA, Nat.reduceBEq, Nat.reduceEqDiff, ↓reduceIte, Nat.reduceAdd, Nat.reduceSub])
    refine awJ (op_store rfl rfl rfl rfl rfl rfl sz23 rfl (bl rfl) rfl) ?_; (try simp only [nA, Nat.reduceBEq, Nat.reduceEqDiff, ↓reduceIte, Nat.reduceAdd, Nat.reduceSub])
    (refine awP (op_fa_ptr rfl rfl rfl fl35_4 (by exact sz3) (by decide) rfl) ?_); (try simp only [nA, Nat.reduceBEq, Nat.reduceEqDiff, ↓reduceIte, Nat.reduceAdd, Nat.reduceSub])
    refine awJ (op_store rfl rfl rfl rfl rfl rfl sz3 rfl (bl rfl) rfl) ?_; (simp only [nA, ↓reduceIte])
    refine AWL.nil ?_
    (try simp only [thenE, inBlk, Nat.reduceEqDiff, ↓reduceIte])
    exact ⟨(_, _, _), (evV_2 hk).symm, ⟨rfl, rfl, trivial⟩, (by rfl), (by trivial)⟩
   have hc3 := hc
   (refine AW.seq_k ?_; intro K hK)
   refine AW.region ?_
   (refine awP (op_eql rfl rfl rfl) ?_); (try simp only [nA, Nat.reduceBEq, Nat.reduceEqDiff, ↓reduceIte, Nat.reduceAdd, Nat.reduceSub])
   refine awP (op_assign rfl rfl) ?_; (simp only [nA])
   refine AWL.nil ?_
   (refine hK _ ?_; clear hK K; (skip))
   refine AW.cond rfl rfl rfl (fun hc => ?_) (fun hc => ?_)
   ·
    have hc4 := hc; have hk := of_decide_eq_true hc4; refine AW.gh (Gh.slot2 (r := 2) (es' := [evC (ev0 (evK l k)) (.own 66 []) (.ro [])]) rfl rfl (le_kr _)) ?_; (try simp only [nA, Nat.reduceBEq, Nat.reduceEqDiff, ↓reduceIte, Nat.reduceAdd, Nat.reduceSub])
    (refine AW.seq_k ?_; intro K hK)
    refine AW.region ?_
    refine awP (op_move rfl rfl) ?_; (simp only [nA, ↓reduceIte])
    refine awJ (OpJ.frz (op_buildSlice rfl [(0, iv 0), (1, iv 1), (2, iv 300), (3, iv 1048576)] (([0, 1, 300, 1048576] : List Int).map iv) Tryd.underlying36 ze3 rfl (by simp) (fold_dense 1 (([0, 1, 300, 1048576] : List Int).map iv) (iv_len _)) (iv_len _) rfl (bl rfl) (by simp [maxLen])) (iv_flat tmL) rfl) ?_; (try simp only [nA, Nat.reduceBEq, Nat.reduceEqDiff, ↓reduceIte, Nat.reduceAdd, Nat.reduceSub])
    refine awJ (op_call1 rfl en27 (C27 (k := rN l 1 k) (xs := tmL) hl (by decide) (by decide)) (by exact rfl) (RL.cons .ptr (RL.cons (.base (by exact View.same rfl)) (RL.nil))) (by exact ⟨_, _, _, rfl, rfl, rfl⟩) (by exact rfl) (by exact rfl) (by exact rfl)) ?_; (try simp only [nA, Nat.reduceBEq, Nat.reduceEqDiff, ↓reduceIte, Nat.reduceAdd, Nat.reduceSub])
    (refine awP (op_fa_ptr rfl rfl rfl fl35_1 (by exact sz3) (by decide) rfl) ?_); (try simp only [nA, Nat.reduceBEq, Nat.reduceEqDiff, ↓reduceIte, Nat.reduceAdd, Nat.reduceSub])
    refine awJ (op_store rfl rfl rfl rfl rfl rfl sz3 rfl (bl rfl) rfl) ?_; (simp only [nA, ↓reduceIte])
    refine AWL.nil ?_
    (refine hK _ ?_; clear hK K; (skip))
    (refine AW.seq_k ?_; intro K hK)
    refine AW.region ?_
    refine awP (op_assign rfl rfl) ?_; (try simp only [nA, Nat.reduceBEq, Nat.reduceEqDiff, ↓reduceIte, Nat.reduceAdd, Nat.reduceSub])
    refine AWL.nil ?_
    (refine hK _ ?_; clear hK K; (skip))
    refine AW.block ?_
    refine AW.loopI (fun (q : Nat × Nat × List Report × Nat) => [(0, .ptr 0 0 0 0), (2, .ptr 1 1 0 0), (3, .ptr 2 2 0 0), (4, .v (.int .i64 (q.1 : Nat)))]) (fun q => ⟨[(0, .own 68 [srcRow l q.2.1]), (1, .own 35 [evC (ev0 0) (.v (.slice none 0 0)) (.v (.slice none 0 0))]), (2, .own 35 [evC ({ ev0 (evK l k) with time := pickV l (rN l 1 k) tmL } : Ev) (.own 66 (q.2.2.1.map Report.av)) (.ro [])])], q.2.2.2⟩) (fun q => q.1 ≤ 24 ∧ repsV l (24 - q.1) q.2.1 q.2.2.1 = repsV l 24 (rN l 2 k) [] ∧ q.2.2.1.length ≤ q.1) (fun q => 24 - q.1) (0, rN l 2 k, [], 3) ⟨by dsimp only; omega, rfl, by simp⟩ ⟨rfl, rfl, rfl, rfl, trivial⟩ rfl ?_; rintro ⟨i, kk, acc, ep⟩ ρ ⟨hi, hR, hA⟩; dsimp only at hi hR hA ⊢; simp only [updL]
    (refine AW.seq_k ?_; intro K hK)
    (refine AW.seq_k ?_; intro K hK)
    refine AW.region ?_
    refine awP (op_move rfl rfl) ?_; (simp only [nA, ↓reduceIte])
    refine awP (op_lss rfl rfl rfl) ?_; (try simp only [nA, Nat.reduceBEq, Nat.reduceEqDiff, ↓reduceIte, Nat.reduceAdd, Nat.reduceSub])
    refine AWL.nil ?_
    (refine hK _ ?_; clear hK K; (skip))
    refine AW.cond rfl rfl rfl (fun hc => ?_) (fun hc => ?_)
    ·
     have hc5 := hc; have hlt : i < 24 := (by have := of_decide_eq_true hc5; omega)
     refine AW.skip ?_
     (refine hK _ ?_; clear hK K; (skip))
     (refine AW.seq_k ?_; intro K hK)
     refine AW.block ?_
     (refine AW.seq_k ?_; intro K hK)
     refine AW.region ?_
     refine awP (op_move rfl rfl) ?_; (simp only [nA, ↓reduceIte])
     refine awJ (op_call1 rfl en22 (C22 (k := kk) (n := 6) hl (by decide)) (by exact rfl) (RL.cons .ptr (RL.cons (.base (by exact View.same rfl)) (RL.nil))) (by exact ⟨_, _, _, rfl, rfl, rfl⟩) (by exact rfl) (by exact rfl) (by exact rfl)) ?_; (try simp only [nA, Nat.reduceBEq, Nat.reduceEqDiff, ↓reduceIte, Nat.reduceAdd, Nat.reduceSub])
     (refine awP (op_eql rfl rfl rfl) ?_); (try simp only [nA, Nat.reduceBEq, Nat.reduceEqDiff, ↓reduceIte, Nat.reduceAdd, Nat.reduceSub])
     refine AWL.nil ?_
     (refine hK _ ?_; clear hK K; (skip))
     refine AW.cond rfl rfl rfl (fun hc => ?_) (fun hc => ?_)
     ·
      have hc6 := hc; have h5 := of_decide_eq_true hc6; rw [reps_y hlt h5] at hR
      refine AW.ghE (GhE.unnest (r := 2) (row := evC ({ ev0 (evK l k) with time := pickV l (rN l 1 k) tmL } : Ev) (.own 66 (acc.map Report.av)) (.ro [])) 0 9 rfl rfl rfl) ?_; intro u hu; (try simp only [nA, Nat.reduceBEq, Nat.reduceEqDiff, ↓reduceIte, Nat.reduceAdd, Nat.reduceSub])
      refine AW.aeo (fun T' => T'.slots[2]? = some (2, .own 35 [evC ({ ev0 (evK l k) with time := pickV l (rN l 1 k) tmL } : Ev) (.v u) (.ro [])])) mix rfl ?_
      refine aePo 0 rfl (fun T' ok => op_fa_ptr rfl rfl ok fl35_7 (by exact sz24) (by decide) rfl) rfl (by kernel_rfl) (by kernel_rfl) ?_; (simp only [nA, Nat.reduceBEq, Nat.reduceEqDiff, ↓reduceIte])
      refine aeRo 1 rfl (fun T' ok => op_load_ptr1 (row := evC ({ ev0 (evK l k) with time := pickV l (rN l 1 k) tmL } : Ev) (.v u) (.ro [])) rfl rfl ok rfl ag24 rfl rfl) rfl (by kernel_rfl) (by kernel_rfl) ?_; (try simp only [nA, Nat.reduceBEq, Nat.reduceEqDiff, ↓reduceIte, Nat.reduceAdd, Nat.reduceSub])
      refine aePo 2 rfl (fun T' ok => op_move rfl rfl) rfl (by kernel_rfl) (by kernel_rfl) ?_; (simp only [nA, ↓reduceIte])
      refine aePo 3 rfl (fun T' ok => op_move rfl rfl) rfl (by kernel_rfl) (by kernel_rfl) ?_; (simp only [nA, ↓reduceIte])
      refine aePo 6 rfl (fun T' ok => op_move rfl rfl) rfl (by kernel_rfl) (by kernel_rfl) ?_; (simp only [nA, ↓reduceIte])
      refine aeFo 7 rfl (fun T' ok => OpJ.frz (op_buildSlice rfl [(0, sv ⟨#[]⟩), (1, sv ⟨#[]⟩), (2, sv ⟨#[48, 49, 49, 55, 48, 48, 49, 48, 48, 48]⟩), (3, sv ⟨#[48, 49, 49, 55, 48, 48, 49, 48, 63, 48]⟩)] (rpT.map sv) Tryd.underlying70 ze9 rfl (by decide) rfl (by simp) rfl (bl rfl) (by decide)) (sv_flat _) rfl) rfl (by kernel_rfl) (by kernel_rfl) ?_; (try simp only [nA, Nat.reduceBEq, Nat.reduceEqDiff, ↓reduceIte, Nat.reduceAdd, Nat.reduceSub])
      refine aeJo 4 rfl (op_call1 rfl en22 (C22 (k := rN l 1 kk) (n := 2) hl (by decide)) (by exact rfl) (RL.cons .ptr (RL.cons (.base (by exact View.same rfl)) (RL.nil))) (by exact ⟨_, _, _, rfl, rfl, rfl⟩) (by exact rfl) (by exact rfl) (by exact rfl)) (by kernel_rfl) rfl ?_; (try simp only [nA, Nat.reduceBEq, Nat.reduceEqDiff, ↓reduceIte, Nat.reduceAdd, Nat.reduceSub])
      refine aePo 5 rfl (fun T' ok => op_eql rfl rfl rfl) rfl (by kernel_rfl) (by kernel_rfl) ?_; (try simp only [nA, Nat.reduceBEq, Nat.reduceEqDiff, ↓reduceIte, Nat.reduceAdd, Nat.reduceSub])
      refine aeJo 8 rfl (op_call1 rfl en25 (C25 (k := rN l 2 kk) (ss := rpT) hl (by decide) (by decide)) (by exact rfl) (RL.cons .ptr (RL.cons (.base (by exact View.same rfl)) (RL.nil))) (by exact ⟨_, _, _, rfl, rfl, rfl⟩) (by exact rfl) (by exact rfl) (by exact rfl)) (by kernel_rfl) rfl ?_; (try simp only [nA, Nat.reduceBEq, Nat.reduceEqDiff, ↓reduceIte, Nat.reduceAdd, Nat.reduceSub])
      refine aePo 9 rfl (fun T' ok => op_build2 (xs := [_, _, _]) rfl pl66 ze66 [(0, [_]), (1, [_]), (2, [_])] rfl rfl rfl) rfl (by kernel_rfl) (by kernel_rfl) ?_; (simp only [nA, ↓reduceIte])
      refine aeJo 10 rfl (OpJ.frz (op_buildSlice rfl [(0, (⟨(i : Nat), decide (gmod (rawV l (rN l 1 kk)) 2 = 1), textV l (rN l 2 kk) rpT⟩ : Report).av)] [(⟨(i : Nat), decide (gmod (rawV l (rN l 1 kk)) 2 = 1), textV l (rN l 2 kk) rpT⟩ : Report).av] Tryd.underlying24 ze66 rfl (by simp) rfl (by simp) rfl (bl rfl) (by simp [maxLen])) (rp_flat [(⟨(i : Nat), decide (gmod (rawV l (rN l 1 kk)) 2 = 1), textV l (rN l 2 kk) rpT⟩ : Report)]) rfl) (by kernel_rfl) rfl ?_; (try simp only [nA, Nat.reduceBEq, Nat.reduceEqDiff, ↓reduceIte, Nat.reduceAdd, Nat.reduceSub])
      refine aeJo 11 rfl (OpJ.nm (t := 41) (r := 3) rfl rfl (op_app (rows := [(⟨(i : Nat), decide (gmod (rawV l (rN l 1 kk)) 2 = 1), textV l (rN l 2 kk) rpT⟩ : Report).av]) rfl rfl rfl rfl (by simp) .ro Tryd.underlying24 ze66 (by decide) (by simp) (by simp; omega) (by decide) (es' := (acc ++ [(⟨(i : Nat), decide (gmod (rawV l (rN l 1 kk)) 2 = 1), textV l (rN l 2 kk) rpT⟩ : Report)]).map Report.av) (by simp) (n := (acc ++ [(⟨(i : Nat), decide (gmod (rawV l (rN l 1 kk)) 2 = 1), textV l (rN l 2 kk) rpT⟩ : Report)]).length) (by simp))) (by kernel_rfl) rfl ?_; (try simp only [nA, Nat.reduceBEq, Nat.reduceEqDiff, ↓reduceIte, Nat.reduceAdd, Nat.reduceSub])
      refine aePo 12 rfl (fun T' ok => op_fa_ptr rfl rfl ok fl35_7 (by exact sz24) (by decide) rfl) rfl (by kernel_rfl) (by kernel_rfl) ?_; (try simp only [nA, Nat.reduceBEq, Nat.reduceEqDiff, ↓reduceIte, Nat.reduceAdd, Nat.reduceSub])
      refine aeLo 13 rfl (op_store_nest (r := 2) (q := 3) rfl rfl rfl rfl (row := evC ({ ev0 (evK l k) with time := pickV l (rN l 1 k) tmL } : Ev) (.v u) (.ro [])) rfl sz24 rfl (by decide) (by simp) (by simp) (es2 := [evC ({ ev0 (evK l k) with time := pickV l (rN l 1 k) tmL } : Ev) (.own 66 ((acc ++ [(⟨(i : Nat), decide (gmod (rawV l (rN l 1 kk)) 2 = 1), textV l (rN l 2 kk) rpT⟩ : Report)]).map Report.av)) (.ro [])]) rfl) (by kernel_rfl) (by kernel_rfl) ?_; (try simp only [nA, Nat.reduceBEq, Nat.reduceEqDiff, ↓reduceIte, Nat.reduceAdd, Nat.reduceSub])
      refine aeDoneo (by kernel_rfl) ?_
      (try simp only [thenE, inBlk, Nat.reduceEqDiff, ↓reduceIte])
      (refine hK _ ?_; clear hK K; (skip))
      refine AW.region ?_
      refine awP (op_move rfl rfl) ?_; (simp only [nA, ↓reduceIte])
      (refine awP (op_addi rfl rfl rfl (by omega)) ?_); (try simp only [nA, Nat.reduceBEq, Nat.reduceEqDiff, ↓reduceIte, Nat.reduceAdd, Nat.reduceSub])
      refine awP (op_assign rfl rfl) ?_; (simp only [nA])
      refine AWL.gh (Gh.drop 3) ?_; (try simp only [nA, Nat.reduceBEq, Nat.reduceEqDiff, ↓reduceIte, Nat.reduceAdd, Nat.reduceSub])
      refine AWL.nil ?_
      refine ⟨(i + 1, rN l 3 kk, acc ++ [(⟨(i : Nat), decide (gmod (rawV l (rN l 1 kk)) 2 = 1), textV l (rN l 2 kk) rpT⟩ : Report)], _), ⟨by dsimp only; omega, hR, by dsimp only; rw [List.length_append]; simp only [List.length_cons, List.length_nil]; omega⟩, by dsimp only; omega, ⟨rfl, rfl, rfl, by dsimp only; exact congrArg (fun z => AV.v (.int .i64 z)) (by omega), trivial⟩, (by rfl), (by rfl)⟩
     have hc6 := hc; have h5 := of_decide_eq_false hc6; rw [reps_n hlt h5] at hR
     refine AW.skip ?_
     (try simp only [thenE, inBlk, Nat.reduceEqDiff, ↓reduceIte])
     (refine hK _ ?_; clear hK K; (skip))
     refine AW.region ?_
     refine awP (op_move rfl rfl) ?_; (simp only [nA, ↓reduceIte])
     (refine awP (op_addi rfl rfl rfl (by omega)) ?_); (try simp only [nA, Nat.reduceBEq, Nat.reduceEqDiff, ↓reduceIte, Nat.reduceAdd, Nat.reduceSub])
     refine awP (op_assign rfl rfl) ?_; (simp only [nA])
     refine AWL.gh (Gh.drop 3) ?_; (try simp only [nA, Nat.reduceBEq, Nat.reduceEqDiff, ↓reduceIte, Nat.reduceAdd, Nat.reduceSub])
     refine AWL.nil ?_
     refine ⟨(i + 1, rN l 1 kk, acc, _), ⟨by dsimp only; omega, hR, by dsimp only; omega⟩, by dsimp only; omega, ⟨rfl, rfl, rfl, by dsimp only; exact congrArg (fun z => AV.v (.int .i64 z)) (by omega), trivial⟩, (by rfl), (by rfl)⟩
    have hc5 := hc; have hi24 : i = 24 := (by have := of_decide_eq_false hc5; omega); subst hi24; rw [show repsV l (24 - 24) kk acc = (acc, kk) from rfl] at hR; refine AW.gh (Gh.freezeC (r := 2) 0 9 rfl rfl rfl (rp_flat _) rfl) ?_; (simp only [nA, Nat.reduceBEq, Nat.reduceEqDiff, ↓reduceIte, Nat.reduceAdd, Nat.reduceSub])
    refine AW.exit ?_; (try simp only [thenE, inBlk, Nat.reduceEqDiff, ↓reduceIte])
    clear hK K
    (try simp only [thenE, inBlk, Nat.reduceEqDiff, ↓reduceIte])
    exact ⟨(_, _, _), (by rw [evV_3 hk, ← hR]), ⟨rfl, rfl, trivial⟩, (by rfl), (by trivial)⟩
   have hc4 := hc
   (refine AW.seq_k ?_; intro K hK)
   refine AW.region ?_
   (refine awP (op_eql rfl rfl rfl) ?_); (try simp only [nA, Nat.reduceBEq, Nat.reduceEqDiff, ↓reduceIte, Nat.reduceAdd, Nat.reduceSub])
   refine awP (op_assign rfl rfl) ?_; (simp only [nA])
   refine AWL.nil ?_
   (refine hK _ ?_; clear hK K; (skip))
   refine AW.cond rfl rfl rfl (fun hc => ?_) (fun hc => ?_)
   ·
    have hc7 := hc; have hk := of_decide_eq_true hc7; refine AW.gh (Gh.slot (r := 2) (es' := [(ev0 (evK l k)).av]) rfl rfl (le_ev0s (evK l k))) ?_; (try simp only [nA, Nat.reduceBEq, Nat.reduceEqDiff, ↓reduceIte, Nat.reduceAdd, Nat.reduceSub])
    refine AW.region ?_
    refine awP (op_move rfl rfl) ?_; (simp only [nA, ↓reduceIte])
    refine awJ (op_call1 rfl en22 (C22 (k := rN l 1 k) (n := 1048577) hl (by decide)) (by exact rfl) (RL.cons .ptr (RL.cons (.base (by exact View.same rfl)) (RL.nil))) (by exact ⟨_, _, _, rfl, rfl, rfl⟩) (by exact rfl) (by exact rfl) (by exact rfl)) ?_; (try simp only [nA, Nat.reduceBEq, Nat.reduceEqDiff, ↓reduceIte, Nat.reduceAdd, Nat.reduceSub])
    refine awP (op_move rfl rfl) ?_; (simp only [nA, ↓reduceIte])
    refine awJ (op_call1 rfl en22 (C22 (k := rN l 2 k) (n := 2) hl (by decide)) (by exact rfl) (RL.cons .ptr (RL.cons (.base (by exact View.same rfl)) (RL.nil))) (by exact ⟨_, _, _, rfl, rfl, rfl⟩) (by exact rfl) (by exact rfl) (by exact rfl)) ?_; (try simp only [nA, Nat.reduceBEq, Nat.reduceEqDiff, ↓reduceIte, Nat.reduceAdd, Nat.reduceSub])
    (refine awP (op_eql rfl rfl rfl) ?_); (try simp only [nA, Nat.reduceBEq, Nat.reduceEqDiff, ↓reduceIte, Nat.reduceAdd, Nat.reduceSub])
    (refine awP (op_fa_ptr rfl rfl rfl fl35_5 (by exact sz3) (by decide) rfl) ?_); (try simp only [nA, Nat.reduceBEq, Nat.reduceEqDiff, ↓reduceIte, Nat.reduceAdd, Nat.reduceSub])
    refine awJ (op_store rfl rfl rfl rfl rfl rfl sz3 rfl (bl rfl) rfl) ?_; (simp only [nA, ↓reduceIte])
    (refine awP (op_fa_ptr rfl rfl rfl fl35_6 (by exact sz4) (by decide) rfl) ?_); (try simp only [nA, Nat.reduceBEq, Nat.reduceEqDiff, ↓reduceIte, Nat.reduceAdd, Nat.reduceSub])
    refine awJ (op_store rfl rfl rfl rfl rfl rfl sz4 rfl (bl rfl) rfl) ?_; (simp only [nA, ↓reduceIte])
    refine AWL.nil ?_
    (try simp only [thenE, inBlk, Nat.reduceEqDiff, ↓reduceIte])
    exact ⟨(_, _, _), (evV_4 hk).symm, ⟨rfl, rfl, trivial⟩, (by rfl), (by trivial)⟩
   have hc7 := hc
   (refine AW.seq_k ?_; intro K hK)
   refine AW.region ?_
   (refine awP (op_eql rfl rfl rfl) ?_); (try simp only [nA, Nat.reduceBEq, Nat.reduceEqDiff, ↓reduceIte, Nat.reduceAdd, Nat.reduceSub])
   refine awP (op_assign rfl rfl) ?_; (simp only [nA])
   refine AWL.nil ?_
   (refine hK _ ?_; clear hK K; (skip))
   refine AW.cond rfl rfl rfl (fun hc => ?_) (fun hc => ?_)
   ·
    have hc8 := hc; have hk := of_decide_eq_true hc8; refine AW.gh (Gh.slot (r := 2) (es' := [(ev0 (evK l k)).av]) rfl rfl (le_ev0s (evK l k))) ?_; (try simp only [nA, Nat.reduceBEq, Nat.reduceEqDiff, ↓reduceIte, Nat.reduceAdd, Nat.reduceSub])
    refine AW.region ?_
    refine awP (op_move rfl rfl) ?_; (simp only [nA, ↓reduceIte])
    refine awJ (op_call1 rfl en22 (C22 (k := rN l 1 k) (n := 5) hl (by decide)) (by exact rfl) (RL.cons .ptr (RL.cons (.base (by exact View.same rfl)) (RL.nil))) (by exact ⟨_, _, _, rfl, rfl, rfl⟩) (by exact rfl) (by exact rfl) (by exact rfl)) ?_; (try simp only [nA, Nat.reduceBEq, Nat.reduceEqDiff, ↓reduceIte, Nat.reduceAdd, Nat.reduceSub])
    (refine awP (op_addi rfl rfl rfl (by omega)) ?_); (try simp only [nA, Nat.reduceBEq, Nat.reduceEqDiff, ↓reduceIte, Nat.reduceAdd, Nat.reduceSub])
    refine awP (op_move rfl rfl) ?_; (simp only [nA, ↓reduceIte])
    refine awJ (op_call1 rfl en22 (C22 (k := rN l 2 k) (n := 1048577) hl (by decide)) (by exact rfl) (RL.cons .ptr (RL.cons (.base (by exact View.same rfl)) (RL.nil))) (by exact ⟨_, _, _, rfl, rfl, rfl⟩) (by exact rfl) (by exact rfl) (by exact rfl)) ?_; (try simp only [nA, Nat.reduceBEq, Nat.reduceEqDiff, ↓reduceIte, Nat.reduceAdd, Nat.reduceSub])
    refine awP (op_move rfl rfl) ?_; (simp only [nA, ↓reduceIte])
    refine awJ (op_call1 rfl en28 (C28 (k := rN l 3 k) hl) (by exact rfl) (RL.cons .ptr (RL.nil)) (by exact ⟨_, _, _, rfl, rfl, rfl⟩) (by exact rfl) (by exact rfl) (by exact rfl)) ?_; (try simp only [nA, Nat.reduceBEq, Nat.reduceEqDiff, ↓reduceIte, Nat.reduceAdd, Nat.reduceSub])
    refine awP (op_build2 (xs := [_, _, _, _, _, _]) rfl pl28 ze28 [(0, [_]), (1, [_]), (2, [_, _, _, _])] rfl rfl rfl) ?_; (simp only [nA, ↓reduceIte])
    (refine awP (op_fa_ptr rfl rfl rfl fl35_8 (by exact sz28) (by decide) rfl) ?_); (try simp only [nA, Nat.reduceBEq, Nat.reduceEqDiff, ↓reduceIte, Nat.reduceAdd, Nat.reduceSub])
    refine awJ (op_store rfl rfl rfl rfl rfl rfl sz28 rfl (bl rfl) rfl) ?_; (try simp only [nA, Nat.reduceBEq, Nat.reduceEqDiff, ↓reduceIte, Nat.reduceAdd, Nat.reduceSub])
    refine AWL.nil ?_
    (try simp only [thenE, inBlk, Nat.reduceEqDiff, ↓reduceIte])
    exact ⟨(_, _, _), (evV_5 hk).symm, ⟨rfl, rfl, trivial⟩, (by rfl), (by trivial)⟩
   have hc8 := hc
   refine AW.join (fun (b : Bool) => [(0, .ptr 0 0 0 0), (2, .ptr 1 1 0 0), (3, .ptr 2 2 0 0), (11, .v (.int .i64 (evK l k))), (73, .v (.bool b))]) (fun b => ⟨[(0, .own 68 [srcRow l (rN l 1 k)]), (1, .own 35 [evC (ev0 0) (.v (.slice none 0 0)) (.v (.slice none 0 0))]), (2, .own 35 [evC (ev0 (evK l k)) (.v (.slice none 0 0)) (.v (.slice none 0 0))])], 3⟩) (fun b => b = true ↔ (evK l k) = 6 ∨ (evK l k) = 7) ?_ ?_
   ·
    (refine AW.seq_k ?_; intro K hK)
    refine AW.region ?_
    (refine awP (op_eql rfl rfl rfl) ?_); (try simp only [nA, Nat.reduceBEq, Nat.reduceEqDiff, ↓reduceIte, Nat.reduceAdd, Nat.reduceSub])
    refine awP (op_assign rfl rfl) ?_; (simp only [nA])
    refine AWL.nil ?_
    (refine hK _ ?_; clear hK K; (try simp only [nA, Nat.reduceBEq, Nat.reduceEqDiff, ↓reduceIte, Nat.reduceAdd, Nat.reduceSub]))
    refine AW.cond rfl rfl rfl (fun hc => ?_) (fun hc => ?_)
    ·
     have hc9 := hc
     refine AW.skip ?_
     exact ⟨decide ((evK l k) = 6), ⟨fun h => .inl (of_decide_eq_true h), fun _ => hc9⟩, ⟨rfl, rfl, rfl, rfl, rfl, trivial⟩, (by rfl), (by rfl)⟩
    have hc9 := hc
    refine AW.region ?_
    (refine awP (op_eql rfl rfl rfl) ?_); (try simp only [nA, Nat.reduceBEq, Nat.reduceEqDiff, ↓reduceIte, Nat.reduceAdd, Nat.reduceSub])
    refine awP (op_assign rfl rfl) ?_; (simp only [nA])
    refine AWL.nil ?_
    exact ⟨decide ((evK l k) = 7), ⟨fun h => .inr (of_decide_eq_true h), fun h => h.elim (fun h => absurd h (of_decide_eq_false hc9)) decide_eq_true⟩, ⟨rfl, rfl, rfl, rfl, rfl, trivial⟩, (by rfl), (by rfl)⟩
   intro b6 ρ hb6; simp only [updL]
   refine AW.cond rfl rfl rfl (fun hc => ?_) (fun hc => ?_)
   ·
    have hc10 := hc; have hk := hb6.1 hc10; refine AW.gh (Gh.slot (r := 2) (es' := [(ev0 (evK l k)).av]) rfl rfl (le_ev0s (evK l k))) ?_; (try simp only [nA, Nat.reduceBEq, Nat.reduceEqDiff, ↓reduceIte, Nat.reduceAdd, Nat.reduceSub])
    refine AW.region ?_
    refine awP (op_move rfl rfl) ?_; (simp only [nA])
    refine awJ (op_call1 rfl en22 (C22 (k := rN l 1 k) (n := 24) hl (by decide)) (by exact rfl) (RL.cons .ptr (RL.cons (.base (by exact View.same rfl)) (RL.nil))) (by exact ⟨_, _, _, rfl, rfl, rfl⟩) (by exact rfl) (by exact rfl) (by exact rfl)) ?_; (try simp only [nA, Nat.reduceBEq, Nat.reduceEqDiff, ↓reduceIte, Nat.reduceAdd, Nat.reduceSub])
    (refine awP (op_fa_ptr rfl rfl rfl fl35_4 (by exact sz3) (by decide) rfl) ?_); (try simp only [nA, Nat.reduceBEq, Nat.reduceEqDiff, ↓reduceIte, Nat.reduceAdd, Nat.reduceSub])
    refine awJ (op_store rfl rfl rfl rfl rfl rfl sz3 rfl (bl rfl) rfl) ?_; (simp only [nA, ↓reduceIte])
    refine AWL.nil ?_
    (try simp only [thenE, inBlk, Nat.reduceEqDiff, ↓reduceIte])
    exact ⟨(_, _, _), (evV_6 hk).symm, ⟨rfl, rfl, trivial⟩, (by rfl), (by trivial)⟩
   have hc10 := hc
   refine AW.join (fun (b : Bool) => [(0, .ptr 0 0 0 0), (2, .ptr 1 1 0 0), (3, .ptr 2 2 0 0), (11, .v (.int .i64 (evK l k))), (79, .v (.bool b))]) (fun b => ⟨[(0, .own 68 [srcRow l (rN l 1 k)]), (1, .own 35 [evC (ev0 0) (.v (.slice none 0 0)) (.v (.slice none 0 0))]), (2, .own 35 [evC (ev0 (evK l k)) (.v (.slice none 0 0)) (.v (.slice none 0 0))])], 3⟩) (fun b => b = true ↔ (evK l k) = 8 ∨ (evK l k) = 9) ?_ ?_
   ·
    (refine AW.seq_k ?_; intro K hK)
    refine AW.region ?_
    (refine awP (op_eql rfl rfl rfl) ?_); (try simp only [nA, Nat.reduceBEq, Nat.reduceEqDiff, ↓reduceIte, Nat.reduceAdd, Nat.reduceSub])
    refine awP (op_assign rfl rfl) ?_; (simp only [nA])
    refine AWL.nil ?_
    (refine hK _ ?_; clear hK K; (try simp only [nA, Nat.reduceBEq, Nat.reduceEqDiff, ↓reduceIte, Nat.reduceAdd, Nat.reduceSub]))
    refine AW.cond rfl rfl rfl (fun hc => ?_) (fun hc => ?_)
    ·
     have hc11 := hc
     refine AW.skip ?_
     exact ⟨decide ((evK l k) = 8), ⟨fun h => .inl (of_decide_eq_true h), fun _ => hc11⟩, ⟨rfl, rfl, rfl, rfl, rfl, trivial⟩, (by rfl), (by rfl)⟩
    have hc11 := hc
    refine AW.region ?_
    (refine awP (op_eql rfl rfl rfl) ?_); (try simp only [nA, Nat.reduceBEq, Nat.reduceEqDiff, ↓reduceIte, Nat.reduceAdd, Nat.reduceSub])
    refine awP (op_assign rfl rfl) ?_; (simp only [nA])
    refine AWL.nil ?_
    exact ⟨decide ((evK l k) = 9), ⟨fun h => .inr (of_decide_eq_true h), fun h => h.elim (fun h => absurd h (of_decide_eq_false hc11)) decide_eq_true⟩, ⟨rfl, rfl, rfl, rfl, rfl, trivial⟩, (by rfl), (by rfl)⟩
   intro b8 ρ hb8; simp only [updL]
   refine AW.cond rfl rfl rfl (fun hc => ?_) (fun hc => ?_)
   ·
    have hc12 := hc; have hk := hb8.1 hc12; refine AW.gh (Gh.slot (r := 2) (es' := [(ev0 (evK l k)).av]) rfl rfl (le_ev0s (evK l k))) ?_; (try simp only [nA, Nat.reduceBEq, Nat.reduceEqDiff, ↓reduceIte, Nat.reduceAdd, Nat.reduceSub])
    (refine AW.seq_k ?_; intro K hK)
    refine AW.region ?_
    refine awP (op_move rfl rfl) ?_; (simp only [nA])
    refine awP (op_move rfl rfl) ?_; (simp only [nA, ↓reduceIte])
    refine awJ (op_call1 rfl en22 (C22 (k := rN l 1 k) (n := 6) hl (by decide)) (by exact rfl) (RL.cons .ptr (RL.cons (.base (by exact View.same rfl)) (RL.nil))) (by exact ⟨_, _, _, rfl, rfl, rfl⟩) (by exact rfl) (by exact rfl) (by exact rfl)) ?_; (try simp only [nA, Nat.reduceBEq, Nat.reduceEqDiff, ↓reduceIte, Nat.reduceAdd, Nat.reduceSub])
    refine awP (op_add (z := evD l k) rfl rfl rfl (by rw [IntKind.wrap_i64]; unfold evD; omega)) ?_; (try simp only [nA, Nat.reduceBEq, Nat.reduceEqDiff, ↓reduceIte, Nat.reduceAdd, Nat.reduceSub])
    refine awJ (op_call1 rfl en29 (C29 (k := rN l 2 k) (d := evD l k) hl) (by exact rfl) (RL.cons .ptr (RL.cons (.base (by exact View.same rfl)) (RL.nil))) (by exact ⟨_, _, _, rfl, rfl, rfl⟩) (by exact rfl) (by exact rfl) (by exact rfl)) ?_; (try simp only [nA, Nat.reduceBEq, Nat.reduceEqDiff, ↓reduceIte, Nat.reduceAdd, Nat.reduceSub])
    (refine awP (op_fa_ptr rfl rfl rfl fl35_10 (by exact sz32) (by decide) rfl) ?_); (try simp only [nA, Nat.reduceBEq, Nat.reduceEqDiff, ↓reduceIte, Nat.reduceAdd, Nat.reduceSub])
    refine awJ (op_store rfl rfl rfl rfl rfl rfl sz32 rfl (bl rfl) rfl) ?_; (try simp only [nA, Nat.reduceBEq, Nat.reduceEqDiff, ↓reduceIte, Nat.reduceAdd, Nat.reduceSub])
    refine AWL.nil ?_
    (refine hK _ ?_; clear hK K; (skip))
    (refine AW.seq_k ?_; intro K hK)
    refine AW.region ?_
    (refine awP (op_fa_ptr rfl rfl rfl fl35_10 (by exact sz32) (by decide) rfl) ?_); (try simp only [nA, Nat.reduceBEq, Nat.reduceEqDiff, ↓reduceIte, Nat.reduceAdd, Nat.reduceSub])
    (refine awP (op_fa_ptr rfl rfl rfl fl32_3 (by exact sz3) (by decide) rfl) ?_); (simp only [nA, Nat.reduceBEq, Nat.reduceEqDiff, ↓reduceIte])
    refine awJ (op_store rfl rfl rfl rfl rfl rfl sz3 rfl (bl rfl) rfl) ?_; (try simp only [nA, Nat.reduceBEq, Nat.reduceEqDiff, ↓reduceIte, Nat.reduceAdd, Nat.reduceSub])
    refine AWL.nil ?_
    (refine hK _ ?_; clear hK K; (skip))
    (refine AW.seq_k ?_; intro K hK)
    refine AW.region ?_
    (refine awP (op_fa_ptr rfl rfl rfl fl35_0 (by exact sz3) (by decide) rfl) ?_); (try simp only [nA, Nat.reduceBEq, Nat.reduceEqDiff, ↓reduceIte, Nat.reduceAdd, Nat.reduceSub])
    (refine awR (op_load_ptr1 rfl rfl rfl rfl ag3 rfl rfl) ?_); (try simp only [nA, Nat.reduceBEq, Nat.reduceEqDiff, ↓reduceIte, Nat.reduceAdd, Nat.reduceSub])
    (refine awP (op_eql rfl rfl rfl) ?_); (try simp only [nA, Nat.reduceBEq, Nat.reduceEqDiff, ↓reduceIte, Nat.reduceAdd, Nat.reduceSub])
    refine AWL.nil ?_
    (refine hK _ ?_; clear hK K; (skip))
    refine AW.cond rfl rfl rfl (fun hc => ?_) (fun hc => ?_)
    ·
     have hc13 := hc
     refine AW.region ?_
     (refine awP (op_fa_ptr rfl rfl rfl fl35_10 (by exact sz32) (by decide) rfl) ?_); (try simp only [nA, Nat.reduceBEq, Nat.reduceEqDiff, ↓reduceIte, Nat.reduceAdd, Nat.reduceSub])
     (refine awP (op_fa_ptr rfl rfl rfl fl32_3 (by exact sz3) (by decide) rfl) ?_); (simp only [nA, Nat.reduceBEq, Nat.reduceEqDiff, ↓reduceIte])
     refine awJ (op_store rfl rfl rfl rfl rfl rfl sz3 rfl (bl rfl) rfl) ?_; (try simp only [nA, Nat.reduceBEq, Nat.reduceEqDiff, ↓reduceIte, Nat.reduceAdd, Nat.reduceSub])
     refine AWL.nil ?_
     (try simp only [thenE, inBlk, Nat.reduceEqDiff, ↓reduceIte])
     exact ⟨(_, _, _), (evV_9 (of_decide_eq_true hc13)).symm, ⟨rfl, rfl, trivial⟩, (by rfl), (by trivial)⟩
    have hc13 := hc
    refine AW.region ?_
    refine awP (op_move rfl rfl) ?_; (simp only [nA, ↓reduceIte])
    refine awJ (op_call1 rfl en22 (C22 (k := rN l 9 k) (n := 24) hl (by decide)) (by exact rfl) (RL.cons .ptr (RL.cons (.base (by exact View.same rfl)) (RL.nil))) (by exact ⟨_, _, _, rfl, rfl, rfl⟩) (by exact rfl) (by exact rfl) (by exact rfl)) ?_; (try simp only [nA, Nat.reduceBEq, Nat.reduceEqDiff, ↓reduceIte, Nat.reduceAdd, Nat.reduceSub])
    (refine awP (op_fa_ptr rfl rfl rfl fl35_4 (by exact sz3) (by decide) rfl) ?_); (try simp only [nA, Nat.reduceBEq, Nat.reduceEqDiff, ↓reduceIte, Nat.reduceAdd, Nat.reduceSub])
    refine awJ (op_store rfl rfl rfl rfl rfl rfl sz3 rfl (bl rfl) rfl) ?_; (simp only [nA, ↓reduceIte])
    refine AWL.nil ?_
    (try simp only [thenE, inBlk, Nat.reduceEqDiff, ↓reduceIte])
    exact ⟨(_, _, _), (evV_8 (by have := of_decide_eq_false hc13; omega)).symm, ⟨rfl, rfl, trivial⟩, (by rfl), (by trivial)⟩
   have hc12 := hc
   (refine AW.seq_k ?_; intro K hK)
   refine AW.region ?_
   (refine awP (op_eql rfl rfl rfl) ?_); (try simp only [nA, Nat.reduceBEq, Nat.reduceEqDiff, ↓reduceIte, Nat.reduceAdd, Nat.reduceSub])
   refine awP (op_assign rfl rfl) ?_; (simp only [nA])
   refine AWL.nil ?_
   (refine hK _ ?_; clear hK K; (skip))
   refine AW.cond rfl rfl rfl (fun hc => ?_) (fun hc => ?_)
   ·
    have hc14 := hc; have hk := of_decide_eq_true hc14; refine AW.gh (Gh.slot (r := 2) (es' := [(ev0 (evK l k)).av]) rfl rfl (le_ev0s (evK l k))) ?_; (try simp only [nA, Nat.reduceBEq, Nat.reduceEqDiff, ↓reduceIte, Nat.reduceAdd, Nat.reduceSub])
    refine AW.region ?_
    refine awP (op_move rfl rfl) ?_; (simp only [nA, ↓reduceIte])
    refine awJ (op_call1 rfl en22 (C22 (k := rN l 1 k) (n := 6) hl (by decide)) (by exact rfl) (RL.cons .ptr (RL.cons (.base (by exact View.same rfl)) (RL.nil))) (by exact ⟨_, _, _, rfl, rfl, rfl⟩) (by exact rfl) (by exact rfl) (by exact rfl)) ?_; (try simp only [nA, Nat.reduceBEq, Nat.reduceEqDiff, ↓reduceIte, Nat.reduceAdd, Nat.reduceSub])
    refine awP (op_add (z := evD l k) rfl rfl rfl (by rw [IntKind.wrap_i64]; unfold evD; omega)) ?_; (try simp only [nA, Nat.reduceBEq, Nat.reduceEqDiff, ↓reduceIte, Nat.reduceAdd, Nat.reduceSub])
    (refine awP (op_fa_ptr rfl rfl rfl fl35_9 (by exact sz3) (by decide) rfl) ?_); (try simp only [nA, Nat.reduceBEq, Nat.reduceEqDiff, ↓reduceIte, Nat.reduceAdd, Nat.reduceSub])
    refine awJ (op_store rfl rfl rfl rfl rfl rfl sz3 rfl (bl rfl) rfl) ?_; (simp only [nA, ↓reduceIte])
    refine AWL.nil ?_
    (try simp only [thenE, inBlk, Nat.reduceEqDiff, ↓reduceIte])
    exact ⟨(_, _, _), (evV_11 hk).symm, ⟨rfl, rfl, trivial⟩, (by rfl), (by trivial)⟩
   have hc14 := hc
   (refine AW.seq_k ?_; intro K hK)
   refine AW.region ?_
   (refine awP (op_eql rfl rfl rfl) ?_); (try simp only [nA, Nat.reduceBEq, Nat.reduceEqDiff, ↓reduceIte, Nat.reduceAdd, Nat.reduceSub])
   refine awP (op_assign rfl rfl) ?_; (simp only [nA])
   refine AWL.nil ?_
   (refine hK _ ?_; clear hK K; (skip))
   refine AW.cond rfl rfl rfl (fun hc => ?_) (fun hc => ?_)
   ·
    have hc15 := hc; have hk := of_decide_eq_true hc15; refine AW.gh (Gh.slot2 (r := 2) (es' := [evC (ev0 (evK l k)) (.ro []) (.own 32 [])]) rfl rfl (le_ko _)) ?_; (try simp only [nA, Nat.reduceBEq, Nat.reduceEqDiff, ↓reduceIte, Nat.reduceAdd, Nat.reduceSub])
    (refine AW.seq_k ?_; intro K hK)
    refine AW.region ?_
    refine awP (op_move rfl rfl) ?_; (simp only [nA, ↓reduceIte])
    refine awJ (op_call1 rfl en22 (C22 (k := rN l 1 k) (n := 6) hl (by decide)) (by exact rfl) (RL.cons .ptr (RL.cons (.base (by exact View.same rfl)) (RL.nil))) (by exact ⟨_, _, _, rfl, rfl, rfl⟩) (by exact rfl) (by exact rfl) (by exact rfl)) ?_; (try simp only [nA, Nat.reduceBEq, Nat.reduceEqDiff, ↓reduceIte, Nat.reduceAdd, Nat.reduceSub])
    refine awP (op_add (z := evD l k) rfl rfl rfl (by rw [IntKind.wrap_i64]; unfold evD; omega)) ?_; (try simp only [nA, Nat.reduceBEq, Nat.reduceEqDiff, ↓reduceIte, Nat.reduceAdd, Nat.reduceSub])
    (refine awP (op_fa_ptr rfl rfl rfl fl35_9 (by exact sz3) (by decide) rfl) ?_); (try simp only [nA, Nat.reduceBEq, Nat.reduceEqDiff, ↓reduceIte, Nat.reduceAdd, Nat.reduceSub])
    refine awJ (op_store rfl rfl rfl rfl rfl rfl sz3 rfl (bl rfl) rfl) ?_; (simp only [nA, ↓reduceIte])
    refine AWL.nil ?_
    (refine hK _ ?_; clear hK K; (skip))
    (refine AW.seq_k ?_; intro K hK)
    refine AW.region ?_
    refine awP (op_move rfl rfl) ?_; (simp only [nA, ↓reduceIte])
    refine awJ (op_call1 rfl en22 (C22 (k := rN l 2 k) (n := 6) hl (by decide)) (by exact rfl) (RL.cons .ptr (RL.cons (.base (by exact View.same rfl)) (RL.nil))) (by exact ⟨_, _, _, rfl, rfl, rfl⟩) (by exact rfl) (by exact rfl) (by exact rfl)) ?_; (try simp only [nA, Nat.reduceBEq, Nat.reduceEqDiff, ↓reduceIte, Nat.reduceAdd, Nat.reduceSub])
    refine awP (op_assign rfl rfl) ?_; (simp only [nA])
    refine AWL.nil ?_
    (refine hK _ ?_; clear hK K; (skip))
    refine AW.block ?_
    refine AW.loopI (fun (q : Nat × Nat × List Op × Nat) => [(0, .ptr 0 0 0 0), (2, .ptr 1 1 0 0), (3, .ptr 2 2 0 0), (5, .v (.int .i64 (q.1 : Nat)))]) (fun q => ⟨[(0, .own 68 [srcRow l q.2.1]), (1, .own 35 [evC (ev0 0) (.v (.slice none 0 0)) (.v (.slice none 0 0))]), (2, .own 35 [evC ({ ev0 (evK l k) with device := evD l k } : Ev) (.ro []) (.own 32 (q.2.2.1.map Op.av))])], q.2.2.2⟩) (fun q => q.1 ≤ 6 ∧ opsV l (evD l k) q.1 q.2.1 q.2.2.1 = opsV l (evD l k) (gmod (rawV l (rN l 2 k)) 6).toNat (rN l 3 k) [] ∧ q.2.2.1.length + q.1 ≤ 6) (fun q => q.1) ((gmod (rawV l (rN l 2 k)) 6).toNat, rN l 3 k, [], 3) ⟨by dsimp only; omega, rfl, by simp; omega⟩ ⟨rfl, rfl, rfl, by dsimp only; rw [Int.toNat_of_nonneg hg6.1]; rfl, trivial⟩ rfl ?_; rintro ⟨i, kk, acc, ep⟩ ρ ⟨hi, hR, hA⟩; dsimp only at hi hR hA ⊢; simp only [updL]
    (refine AW.seq_k ?_; intro K hK)
    (refine AW.seq_k ?_; intro K hK)
    refine AW.region ?_
    refine awP (op_move rfl rfl) ?_; (simp only [nA, ↓reduceIte])
    refine awP (op_gtr rfl rfl rfl) ?_; (try simp only [nA, Nat.reduceBEq, Nat.reduceEqDiff, ↓reduceIte, Nat.reduceAdd, Nat.reduceSub])
    refine AWL.nil ?_
    (refine hK _ ?_; clear hK K; (skip))
    refine AW.cond rfl rfl rfl (fun hc => ?_) (fun hc => ?_)
    ·
     have hc16 := hc; have hlt : 0 < i := (by have := of_decide_eq_true hc16; omega); obtain ⟨i, rfl⟩ : ∃ j, i = j + 1 := ⟨i - 1, by omega⟩; rw [show opsV l (evD l k) (i + 1) kk acc = opsV l (evD l k) i (rN l 7 kk) (acc ++ [opV l kk (evD l k)]) from rfl] at hR
     refine AW.skip ?_
     (refine hK _ ?_; clear hK K; (skip))
     (refine AW.seq_k ?_; intro K hK)
     refine AW.block ?_
     refine AW.ghE (GhE.unnest (r := 2) (row := evC ({ ev0 (evK l k) with device := evD l k } : Ev) (.ro []) (.own 32 (acc.map Op.av))) 0 27 rfl rfl rfl) ?_; intro u hu; (try simp only [nA, Nat.reduceBEq, Nat.reduceEqDiff, ↓reduceIte, Nat.reduceAdd, Nat.reduceSub])
     refine AW.aeo (fun T' => T'.slots[2]? = some (2, .own 35 [evC ({ ev0 (evK l k) with device := evD l k } : Ev) (.ro []) (.v u)])) mix rfl ?_
     refine aePo 0 rfl (fun T' ok => op_fa_ptr rfl rfl ok fl35_11 (by exact sz33) (by decide) rfl) rfl (by kernel_rfl) (by kernel_rfl) ?_; (simp only [nA, Nat.reduceBEq, Nat.reduceEqDiff, ↓reduceIte])
     refine aeRo 1 rfl (fun T' ok => op_load_ptr1 (row := evC ({ ev0 (evK l k) with device := evD l k } : Ev) (.ro []) (.v u)) rfl rfl ok rfl ag33 rfl rfl) rfl (by kernel_rfl) (by kernel_rfl) ?_; (try simp only [nA, Nat.reduceBEq, Nat.reduceEqDiff, ↓reduceIte, Nat.reduceAdd, Nat.reduceSub])
     refine aePo 2 rfl (fun T' ok => op_move rfl rfl) rfl (by kernel_rfl) (by kernel_rfl) ?_; (simp only [nA, ↓reduceIte])
     refine aePo 3 rfl (fun T' ok => op_fa_ptr rfl rfl ok fl35_9 (by exact sz3) (by decide) rfl) rfl (by kernel_rfl) (by kernel_rfl) ?_; (try simp only [nA, Nat.reduceBEq, Nat.reduceEqDiff, ↓reduceIte, Nat.reduceAdd, Nat.reduceSub])
     refine aeRo 4 rfl (fun T' ok => op_load_ptr1 (row := evC ({ ev0 (evK l k) with device := evD l k } : Ev) (.ro []) (.v u)) rfl rfl ok rfl ag3 rfl rfl) rfl (by kernel_rfl) (by kernel_rfl) ?_; (try simp only [nA, Nat.reduceBEq, Nat.reduceEqDiff, ↓reduceIte, Nat.reduceAdd, Nat.reduceSub])
     refine aeJo 5 rfl (op_call1 rfl en29 (C29 (k := kk) (d := evD l k) hl) (by exact rfl) (RL.cons .ptr (RL.cons (.base (by exact View.same rfl)) (RL.nil))) (by exact ⟨_, _, _, rfl, rfl, rfl⟩) (by exact rfl) (by exact rfl) (by exact rfl)) (by kernel_rfl) rfl ?_; (try simp only [nA, Nat.reduceBEq, Nat.reduceEqDiff, ↓reduceIte, Nat.reduceAdd, Nat.reduceSub])
     refine aeJo 6 rfl (OpJ.frz (op_buildSlice rfl [(0, (opV l kk (evD l k)).av)] [(opV l kk (evD l k)).av] Tryd.underlying33 ze32 rfl (by simp) rfl (by simp) rfl (bl rfl) (by simp [maxLen])) (op_flat [(opV l kk (evD l k))]) rfl) (by kernel_rfl) rfl ?_; (try simp only [nA, Nat.reduceBEq, Nat.reduceEqDiff, ↓reduceIte, Nat.reduceAdd, Nat.reduceSub])
     refine aeJo 7 rfl (OpJ.nm (t := 117) (r := 3) rfl rfl (op_app (rows := [(opV l kk (evD l k)).av]) rfl rfl rfl rfl (by simp) .ro Tryd.underlying33 ze32 (by decide) (by simp) (by simp; omega) (by decide) (es' := (acc ++ [(opV l kk (evD l k))]).map Op.av) (by simp) (n := (acc ++ [(opV l kk (evD l k))]).length) (by simp))) (by kernel_rfl) rfl ?_; (try simp only [nA, Nat.reduceBEq, Nat.reduceEqDiff, ↓reduceIte, Nat.reduceAdd, Nat.reduceSub])
     refine aePo 8 rfl (fun T' ok => op_fa_ptr rfl rfl ok fl35_11 (by exact sz33) (by decide) rfl) rfl (by kernel_rfl) (by kernel_rfl) ?_; (try simp only [nA, Nat.reduceBEq, Nat.reduceEqDiff, ↓reduceIte, Nat.reduceAdd, Nat.reduceSub])
     refine aeLo 9 rfl (op_store_nest (r := 2) (q := 3) rfl rfl rfl rfl (row := evC ({ ev0 (evK l k) with device := evD l k } : Ev) (.ro []) (.v u)) rfl sz33 rfl (by decide) (by simp) (by simp) (es2 := [evC ({ ev0 (evK l k) with device := evD l k } : Ev) (.ro []) (.own 32 ((acc ++ [(opV l kk (evD l k))]).map Op.av))]) rfl) (by kernel_rfl) (by kernel_rfl) ?_; (try simp only [nA, Nat.reduceBEq, Nat.reduceEqDiff, ↓reduceIte, Nat.reduceAdd, Nat.reduceSub])
     refine aeDoneo (by kernel_rfl) ?_
     (try simp only [thenE, inBlk, Nat.reduceEqDiff, ↓reduceIte])
     (refine hK _ ?_; clear hK K; (skip))
     refine AW.region ?_
     refine awP (op_move rfl rfl) ?_; (simp only [nA, ↓reduceIte])
     (refine awP (op_subi rfl rfl rfl (by omega)) ?_); (try simp only [nA, Nat.reduceBEq, Nat.reduceEqDiff, ↓reduceIte, Nat.reduceAdd, Nat.reduceSub])
     refine awP (op_assign rfl rfl) ?_; (simp only [nA])
     refine AWL.gh (Gh.drop 3) ?_; (try simp only [nA, Nat.reduceBEq, Nat.reduceEqDiff, ↓reduceIte, Nat.reduceAdd, Nat.reduceSub])
     refine AWL.nil ?_
     refine ⟨(i, rN l 7 kk, acc ++ [(opV l kk (evD l k))], _), ⟨by dsimp only; omega, hR, by dsimp only; rw [List.length_append]; simp only [List.length_cons, List.length_nil]; omega⟩, by dsimp only; omega, ⟨rfl, rfl, rfl, by dsimp only; exact congrArg (fun z => AV.v (.int .i64 z)) (by omega), trivial⟩, (by rfl), (by rfl)⟩
    have hc16 := hc; have hi0 : i = 0 := (by have := of_decide_eq_false hc16; omega); subst hi0; rw [show opsV l (evD l k) 0 kk acc = (acc, kk) from rfl] at hR; refine AW.gh (Gh.freezeC (r := 2) 0 27 rfl rfl rfl (op_flat _) rfl) ?_; (try simp only [nA, Nat.reduceBEq, Nat.reduceEqDiff, ↓reduceIte, Nat.reduceAdd, Nat.reduceSub])
    refine AW.exit ?_; (try simp only [thenE, inBlk, Nat.reduceEqDiff, ↓reduceIte])
    clear hK K
    (try simp only [thenE, inBlk, Nat.reduceEqDiff, ↓reduceIte])
    exact ⟨(_, _, _), (by rw [evV_12 hk, ← hR]), ⟨rfl, rfl, trivial⟩, (by rfl), (by trivial)⟩
   have hc15 := hc
   (refine AW.seq_k ?_; intro K hK)
   refine AW.region ?_
   (refine awP (op_eql rfl rfl rfl) ?_); (try simp only [nA, Nat.reduceBEq, Nat.reduceEqDiff, ↓reduceIte, Nat.reduceAdd, Nat.reduceSub])
   refine awP (op_assign rfl rfl) ?_; (simp only [nA])
   refine AWL.nil ?_
   (refine hK _ ?_; clear hK K; (skip))
   refine AW.cond rfl rfl rfl (fun hc => ?_) (fun hc => ?_)
   ·
    have hc17 := hc; have hk := of_decide_eq_true hc17; refine AW.gh (Gh.slot (r := 2) (es' := [(ev0 (evK l k)).av]) rfl rfl (le_ev0s (evK l k))) ?_; (try simp only [nA, Nat.reduceBEq, Nat.reduceEqDiff, ↓reduceIte, Nat.reduceAdd, Nat.reduceSub])
    refine AW.region ?_
    refine awP (op_move rfl rfl) ?_; (simp only [nA, ↓reduceIte])
    refine awJ (op_call1 rfl en28 (C28 (k := rN l 1 k) hl) (by exact rfl) (RL.cons .ptr (RL.nil)) (by exact ⟨_, _, _, rfl, rfl, rfl⟩) (by exact rfl) (by exact rfl) (by exact rfl)) ?_; (try simp only [nA, Nat.reduceBEq, Nat.reduceEqDiff, ↓reduceIte, Nat.reduceAdd, Nat.reduceSub])
    (refine awP (op_fa_ptr rfl rfl rfl fl35_12 (by exact sz26) (by decide) rfl) ?_); (try simp only [nA, Nat.reduceBEq, Nat.reduceEqDiff, ↓reduceIte, Nat.reduceAdd, Nat.reduceSub])
    refine awJ (op_store rfl rfl rfl rfl rfl rfl sz26 rfl (bl rfl) rfl) ?_; (try simp only [nA, Nat.reduceBEq, Nat.reduceEqDiff, ↓reduceIte, Nat.reduceAdd, Nat.reduceSub])
    refine AWL.nil ?_
    (try simp only [thenE, inBlk, Nat.reduceEqDiff, ↓reduceIte])
    exact ⟨(_, _, _), (evV_13 hk).symm, ⟨rfl, rfl, trivial⟩, (by rfl), (by trivial)⟩
   have hc17 := hc; refine AW.gh (Gh.slot (r := 2) (es' := [(ev0 (evK l k)).av]) rfl rfl (le_ev0s (evK l k))) ?_; (try simp only [nA, Nat.reduceBEq, Nat.reduceEqDiff, ↓reduceIte, Nat.reduceAdd, Nat.reduceSub])
   refine AW.skip ?_
   (try simp only [thenE, inBlk, Nat.reduceEqDiff, ↓reduceIte])
   exact ⟨(_, _, _), (evV_0 (by have h2 : ¬ ((evK l k) = 2 ∨ (evK l k) = 10) := (fun h => by have := hb2.2 h; rw [this] at hc3; cases hc3); have h6 : ¬ ((evK l k) = 6 ∨ (evK l k) = 7) := (fun h => by have := hb6.2 h; rw [this] at hc10; cases hc10); have h8 : ¬ ((evK l k) = 8 ∨ (evK l k) = 9) := (fun h => by have := hb8.2 h; rw [this] at hc12; cases hc12); exact ⟨of_decide_eq_false hc1, h2, of_decide_eq_false hc4, of_decide_eq_false hc7, of_decide_eq_false hc8, h6, h8, of_decide_eq_false hc14, of_decide_eq_false hc15, of_decide_eq_false hc17⟩)).symm, ⟨rfl, rfl, trivial⟩, (by rfl), (by trivial)⟩
  rintro ⟨y, kk, ep⟩ ρ hy; dsimp only at hy ⊢; rw [← hy]; simp only [updL]
  (refine AW.seq_k ?_; intro K hK)
  refine AW.region ?_
  (refine awR (op_load_ptr rfl rfl rfl rfl ag35 sz35 (bl rfl) rfl) ?_); (try simp only [nA, Nat.reduceBEq, Nat.reduceEqDiff, ↓reduceIte, Nat.reduceAdd, Nat.reduceSub])
  refine awJ (op_store rfl rfl rfl rfl rfl rfl sz35 rfl (bl rfl) rfl) ?_; (try simp only [nA, Nat.reduceBEq, Nat.reduceEqDiff, ↓reduceIte, Nat.reduceAdd, Nat.reduceSub])
  refine AWL.nil ?_
  (refine hK _ ?_; clear hK K; (skip))
  skip
  refine AW.ret ?_; (try simp only [thenE, inBlk, Nat.reduceEqDiff, ↓reduceIte]); exact RQ.of (.inl rfl) rfl (.cell (bl rfl) rfl rfl rfl ag35 sz35 (bl rfl) rfl rfl .nil) (by simp) rfl (one_out rfl)
end Go.Proofs.YtfmnaigedgmhoaaDoor
namespace Go.Proofs.YtfmnaigedgmhoaaDoor
open Go.RowKit
set_option linter.unusedSimpArgs false
set_option linter.unusedVariables false
set_option maxRecDepth 100000
theorem textV_mem {l : List Int} {k : Nat} {ss : List ByteArray} (h : 1 ≤ ss.length) : textV l k ss ∈ ss := by
  have hg := gmod_bd (x := rawV l k) (n := (ss.length : Nat)) (by omega)
  unfold textV
  rw [List.getD_eq_getElem?_getD, List.getElem?_eq_getElem (by omega)]
  exact List.getElem_mem _
theorem plates_ok (i : Int) : plB (platesP i) = true := by
  have hg := gmod_bd (x := i) (n := 1000) (by decide)
  unfold plB platesP
  simp only [Bool.and_eq_true, decide_eq_true_eq]
  omega
theorem piece_ok (l : List Int) (k : Nat) : piB (pieceV l k 1000) = true := by
  have hg := gmod_bd (x := rawV l (rawN l k)) (n := 40) (by decide)
  have hc : ∀ c ∈ catsL, 0 ≤ c ∧ c ≤ 4 := by decide
  have h2 := hc _ (pickV_mem (l := l) (k := rawN l (rawN l k)) (xs := catsL) (by decide))
  unfold piB
  rw [show (pieceV l k 1000).plate = platesP (gmod (rawV l k) 1000) from rfl, plates_ok, Bool.true_and, Bool.and_eq_true, inB_iff, inB_iff]
  exact ⟨⟨by show (1 : Int) ≤ 1 + _; omega, by show 1 + _ ≤ (999 : Int); omega⟩, h2⟩
theorem op_ok (l : List Int) (k : Nat) {d : Int} (hd : 1 ≤ d ∧ d ≤ 6) (kd : Int) (hk : kd = 1 ∨ kd = 2) : opB { opV l k d with kind := kd } = true := by
  have h0 := gmod_bd (x := rawV l k) (n := 1048577) (by decide)
  have h1 := gmod_bd (x := rawV l (rN l 1 k)) (n := 99) (by decide)
  have h3 := gmod_bd (x := rawV l (rN l 3 k)) (n := 999) (by decide)
  have a1 : inB (gmod (rawV l k) 1048577) 0 1048576 = true := inB_iff.2 (by omega)
  have a2 : inB d 1 6 = true := inB_iff.2 hd
  have a3 : inB (1 + gmod (rawV l (rN l 1 k)) 99) 1 1048576 = true := inB_iff.2 (by omega)
  have a4 : inB (1 + gmod (rawV l (rN l 3 k)) 999) 1 999 = true := inB_iff.2 (by omega)
  unfold opB
  rw [if_neg (by show ¬ ((!inB (gmod (rawV l k) 1048577) 0 1048576 || !inB d 1 6) || !inB (1 + gmod (rawV l (rN l 1 k)) 99) 1 1048576) = true; rw [a1, a2, a3]; decide)]
  show (((decide (kd = 1) || decide (kd = 2)) && inB (1 + gmod (rawV l (rN l 3 k)) 999) 1 999) && piB (pieceV l (rN l 4 k) 1000)) = true
  rw [a4, piece_ok]
  rcases hk with rfl | rfl <;> rfl
theorem op_ok0 (l : List Int) (k : Nat) {d : Int} (hd : 1 ≤ d ∧ d ≤ 6) : opB (opV l k d) = true := by
  have h2 := gmod_bd (x := rawV l (rN l 2 k)) (n := 2) (by decide)
  exact op_ok l k hd (1 + gmod (rawV l (rN l 2 k)) 2) (by omega)
theorem fl_ok (l : List Int) (k : Nat) : flB (flS l k) = true := by
  have h1 := gmod_bd (x := rawV l (rawN l k)) (n := 3) (by decide)
  have h2 := gmod_bd (x := rawV l (rawN l (rawN l k))) (n := 3) (by decide)
  have hc : ∀ s ∈ carL, carB s = true := by decide
  have h3 := hc _ (textV_mem (l := l) (k := k) (ss := carL) (by decide))
  have h4 : lettersB (⟨#[]⟩ : ByteArray) 0 1 = true := by decide
  unfold flB
  rw [show (flS l k).carrier = textV l k carL from rfl, h3, show (flS l k).suffix = (⟨#[]⟩ : ByteArray) from rfl, h4]
  simp only [Bool.true_and, Bool.and_true, Bool.and_eq_true, decide_eq_true_eq]
  omega
structure RGood (n : Nat) (acc : List Report) : Prop where
  all : ∀ r ∈ acc, rpB r = true
  lt : ∀ r ∈ acc, r.device < (n : Int)
  asc : acc.Pairwise fun a b => a.device < b.device
  len : acc.length ≤ n
theorem reps_good (l : List Int) : ∀ (n k : Nat) (acc : List Report), n ≤ 24 → RGood (24 - n) acc → RGood 24 (repsV l n k acc).1
  | 0, _, _, _, h => h
  | n + 1, k, acc, hn, h => by
    have step : RGood (24 - n) acc := ⟨h.all, fun r hr => by have := h.lt r hr; omega, h.asc, by have := h.len; omega⟩
    show RGood 24 (if gmod (rawV l k) 6 = 5 then repsV l n (rN l 3 k) _ else repsV l n (rN l 1 k) acc).1
    split
    · refine reps_good l n _ _ (by omega) ⟨fun r hr => ?_, fun r hr => ?_, ?_, ?_⟩
      · rcases List.mem_append.1 hr with hr | hr
        · exact h.all r hr
        obtain rfl : r = _ := by simpa using hr
        have hc : ∀ s ∈ rpT, rdB s = true := by decide
        unfold rpB
        rw [hc _ (textV_mem (by decide)), Bool.and_true]
        exact inB_iff.2 (by dsimp only; omega)
      · rcases List.mem_append.1 hr with hr | hr
        · have := h.lt r hr; omega
        obtain rfl : r = _ := by simpa using hr
        dsimp only
        omega
      · rw [List.pairwise_append]
        refine ⟨h.asc, List.pairwise_singleton _ _, fun a ha b hb => ?_⟩
        obtain rfl : b = _ := by simpa using hb
        have := h.lt a ha
        dsimp only
        omega
      rw [List.length_append, List.length_singleton]
      have := h.len
      omega
    exact reps_good l n _ _ (by omega) step
theorem asc_of {l : List Report} (h : l.Pairwise fun a b => a.device < b.device) : ascR l = true := by
  refine asc_yes (i := l.length) (by omega) fun k h1 h2 => ?_
  rw [getD_of (by omega), getD_of h2]
  exact List.pairwise_iff_getElem.1 h (k - 1) k (by omega) h2 (by omega)
theorem opsV_good (l : List Int) {d : Int} (hd : 1 ≤ d ∧ d ≤ 6) : ∀ (n k : Nat) (acc : List Op), (∀ o ∈ acc, opB o = true ∧ o.device = d) → acc.length + n ≤ 6 → (∀ o ∈ (opsV l d n k acc).1, opB o = true ∧ o.device = d) ∧ (opsV l d n k acc).1.length ≤ 6
  | 0, _, _, h, hl => ⟨h, hl⟩
  | n + 1, k, acc, h, hl => by
    refine opsV_good l hd n (rN l 7 k) (acc ++ [opV l k d]) (fun o ho => ?_) (by rw [List.length_append, List.length_singleton]; omega)
    rcases List.mem_append.1 ho with ho | ho
    · exact h o ho
    obtain rfl : o = _ := by simpa using ho
    exact ⟨op_ok0 l k hd, rfl⟩
theorem mem1 {f : Nat → Bool} {p : Nat} (h : f p = true) : ∀ q ∈ [p], f q = true := fun q hq => by
  obtain rfl : q = p := by simpa using hq
  exact h
theorem mem2 {f : Nat → Bool} {p r : Nat} (h : f p = true) (h2 : f r = true) : ∀ q ∈ [p, r], f q = true := fun q hq => by
  simp only [List.mem_cons, List.not_mem_nil, or_false] at hq
  rcases hq with rfl | rfl
  · exact h
  exact h2
theorem z3 : (0 ≤ 2048) ∧ (0 ≤ 24) ∧ (0 ≤ 60) := by decide
theorem ev_good (l : List Int) (k : Nat) : Good (evV l k).1 := by
  have hK : 1 ≤ evK l k ∧ evK l k ≤ 14 := by
    have := gmod_bd (x := rawV l k) (n := 14) (by decide)
    unfold evK; omega
  have hD : 1 ≤ evD l k ∧ evD l k ≤ 6 := by
    have := gmod_bd (x := rawV l (rN l 1 k)) (n := 6) (by decide)
    unfold evD; omega
  have n24 : ∀ j, inB (gmod (rawV l j) 24) 0 23 = true := fun j => by
    have := gmod_bd (x := rawV l j) (n := 24) (by decide)
    exact inB_iff.2 (by omega)
  have nM : ∀ j, inB (gmod (rawV l j) 1048577) 0 1048576 = true := fun j => by
    have := gmod_bd (x := rawV l j) (n := 1048577) (by decide)
    exact inB_iff.2 (by omega)
  rcases kind_cases hK with h | h | h | h | h | h | h | h | h | h | h | h | h | h
  · rw [evV_1 h, h]
    have ht : ∀ s ∈ evT, s.size ≤ 2048 := by decide
    exact ⟨(by decide : (1 : Int) ≤ 1 ∧ (1 : Int) ≤ 14), rfl, ⟨ht _ (textV_mem (by decide)), Nat.zero_le _, Nat.zero_le _⟩, mem1 rfl, rfl⟩
  · rw [evV_2 (.inl h), h]
    exact ⟨(by decide : (1 : Int) ≤ 2 ∧ (2 : Int) ≤ 14), rfl, z3, mem2 (plates_ok _) (n24 _), rfl⟩
  · rw [evV_3 h, h]
    have hr := reps_good l 24 (rN l 2 k) [] (by decide) ⟨by simp, by simp, .nil, by simp⟩
    have ht : ∀ c ∈ tmL, inB c 0 1048576 = true := by decide
    exact ⟨(by decide : (1 : Int) ≤ 3 ∧ (3 : Int) ≤ 14), rfl, ⟨Nat.zero_le _, hr.len, Nat.zero_le _⟩, mem2 (ht _ (pickV_mem (by decide))) (List.all_eq_true.2 hr.all), asc_of hr.asc⟩
  · rw [evV_4 h, h]
    exact ⟨(by decide : (1 : Int) ≤ 4 ∧ (4 : Int) ≤ 14), rfl, z3, mem2 (nM _) rfl, rfl⟩
  · rw [evV_5 h, h]
    have hg := gmod_bd (x := rawV l (rN l 1 k)) (n := 5) (by decide)
    refine ⟨(by decide : (1 : Int) ≤ 5 ∧ (5 : Int) ≤ 14), rfl, z3, mem1 ?_, rfl⟩
    show ((inB (1 + gmod (rawV l (rN l 1 k)) 5) 1 5 && inB (gmod (rawV l (rN l 2 k)) 1048577) 0 1048576) && flB (flS l (rN l 3 k))) = true
    rw [nM, fl_ok, Bool.and_true, Bool.and_true]
    exact inB_iff.2 (by omega)
  · rw [evV_6 (.inl h), h]
    exact ⟨(by decide : (1 : Int) ≤ 6 ∧ (6 : Int) ≤ 14), rfl, z3, mem1 (n24 _), rfl⟩
  · rw [evV_6 (.inr h), h]
    exact ⟨(by decide : (1 : Int) ≤ 7 ∧ (7 : Int) ≤ 14), rfl, z3, mem1 (n24 _), rfl⟩
  · rw [evV_8 h, h]
    refine ⟨(by decide : (1 : Int) ≤ 8 ∧ (8 : Int) ≤ 14), rfl, z3, mem2 ?_ (n24 _), rfl⟩
    show (opB { opV l (rN l 2 k) (evD l k) with kind := 1 } && true) = true
    rw [op_ok l _ hD 1 (.inl rfl)]; rfl
  · rw [evV_9 h, h]
    refine ⟨(by decide : (1 : Int) ≤ 9 ∧ (9 : Int) ≤ 14), rfl, z3, mem1 ?_, rfl⟩
    show (opB { opV l (rN l 2 k) (evD l k) with kind := 2 } && true) = true
    rw [op_ok l _ hD 2 (.inr rfl)]; rfl
  · rw [evV_2 (.inr h), h]
    exact ⟨(by decide : (1 : Int) ≤ 10 ∧ (10 : Int) ≤ 14), rfl, z3, mem2 (plates_ok _) (n24 _), rfl⟩
  · rw [evV_11 h, h]
    exact ⟨(by decide : (1 : Int) ≤ 11 ∧ (11 : Int) ≤ 14), rfl, z3, mem1 (inB_iff.2 hD), rfl⟩
  · rw [evV_12 h, h]
    have hg := gmod_bd (x := rawV l (rN l 2 k)) (n := 6) (by decide)
    have ho := opsV_good l hD (gmod (rawV l (rN l 2 k)) 6).toNat (rN l 3 k) [] (by simp) (by simp; omega)
    refine ⟨(by decide : (1 : Int) ≤ 12 ∧ (12 : Int) ≤ 14), rfl, ⟨Nat.zero_le _, Nat.zero_le _, Nat.le_trans ho.2 (by decide)⟩, mem2 (inB_iff.2 hD) (List.all_eq_true.2 fun o hm => ?_), rfl⟩
    rw [(ho.1 o hm).1, Bool.true_and]
    exact decide_eq_true (ho.1 o hm).2
  · rw [evV_13 h, h]
    exact ⟨(by decide : (1 : Int) ≤ 13 ∧ (13 : Int) ≤ 14), rfl, z3, mem1 (fl_ok _ _), rfl⟩
  rw [evV_0 (by omega), h]
  exact ⟨(by decide : (1 : Int) ≤ 14 ∧ (14 : Int) ≤ 14), rfl, z3, (fun p hp => by cases hp), rfl⟩
theorem Good.sm {x : Ev} (h : Good x) : x.Sm := by
  have hl := h.lim
  refine ⟨by omega, by omega, by omega, fun r hr => ?_⟩
  by_cases h6 : 6 ∈ fieldsL x.kind
  · have := (rp_good (List.all_eq_true.1 (h.pr 6 h6) r hr)).2
    omega
  have h0 : x.reports = [] := by
    have := (only_lists (fieldsL x.kind) x (ev0 x.kind)).1 h6
    rw [show onlyP (fieldsL x.kind) x (ev0 x.kind) = x from h.only.symm] at this
    exact this
  rw [h0] at hr; cases hr
end Go.Proofs.YtfmnaigedgmhoaaDoor
namespace Go.Proofs.YtfmnaigedgmhoaaDoor
open Go.RowKit
set_option linter.unusedSimpArgs false
set_option linter.unusedVariables false
theorem op_sadd {C : Cx} {o : Oper} {ev : Operand → AV} {T : Sl} {t yt : TypeId} {p q : Operand} {a b : ByteArray} (ho : o.op = .binOp .add t p q yt) (hp : ev p = .v (.string a)) (hq : ev q = .v (.string b)) (h : a.size + b.size ≤ 9223372036854775807) : OpP C o ev T (.v (.string (a ++ b))) :=
  op_bin ho hp hq (fun w => by unfold eqGuard; simp) (fun w => by rw [binOp_string_add]; exact run_string_add_sum w a b h) rfl
end Go.Proofs.YtfmnaigedgmhoaaDoor
