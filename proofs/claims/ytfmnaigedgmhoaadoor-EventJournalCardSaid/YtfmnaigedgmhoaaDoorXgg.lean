import Derived.Test.YtfmnaigedgmhoaaDoorXgf
import Derived.Test.YtfmnaigedgmhoaaDoorRows
import Derived.OpenShut
import Derived.LaidMore
import Derived.Stop.Joined
namespace Go.Proofs.YtfmnaigedgmhoaaDoor
open Go.RowKit
set_option linter.unusedSimpArgs false
set_option linter.unusedVariables false
set_option maxRecDepth 100000
abbrev jB (E : List Ev) : BL := joinF 0 (E.map encB)
def endsL (E : List Ev) : List Int := (List.range (E.length + 1)).map fun j => ((posL (E.map encB) j : Nat) : Int)
structure JI (E : List Ev) (c : Nat) : Prop where
  good : ∀ x ∈ E, Good x
  le : E.length + c ≤ 7
theorem JI.rl {E : List Ev} {c : Nat} (h : JI E c) : ∀ q ∈ E.map encB, q.length ≤ 2500 := fun q hq => by
  obtain ⟨x, hx, rfl⟩ := List.mem_map.1 hq
  exact enc_len (h.good x hx)
theorem JI.rl' {E : List Ev} {c : Nat} (h : JI E c) : ∀ q ∈ E.map encB, q.length ≤ 4096 := fun q hq => Nat.le_trans (h.rl q hq) (by decide)
theorem JI.len {E : List Ev} {c : Nat} (h : JI E c) : (jB E).length ≤ 17556 := by
  have h1 := posL_le (E.map encB) 2500 h.rl
  have h2 := h.le
  unfold jB
  rw [joinF_len]
  rw [List.length_map] at h1 ⊢
  have h3 : E.length * (2500 + 8) ≤ 7 * (2500 + 8) := Nat.mul_le_mul_right _ (by omega)
  omega
theorem JI.next {E : List Ev} {c : Nat} {x : Ev} (h : JI E (c + 1)) (hx : Good x) : JI (E ++ [x]) c := by
  refine ⟨fun y hy => ?_, by rw [List.length_append, List.length_singleton]; have := h.le; omega⟩
  rcases List.mem_append.1 hy with hy | hy
  · exact h.good y hy
  rw [List.mem_singleton.1 hy]; exact hx
set_option maxHeartbeats 8000000 in
theorem C23e {E : List Ev} {c : Nat} {x : Ev} (h : JI E (c + 1)) (hx : Good x) : Fn Tryd.prog 23 [] [.ro ((jB E).map bv), .ro ((encB x).map bv)] [.ro ((jB (E ++ [x])).map bv), .v (.int .i64 0)] [] := by
  have h1 := recs_join (E.map encB) [] h.rl' (by have := h.len; unfold jB at this; omega) (firstL_nil _)
  rw [List.append_nil] at h1
  have h2 := C23 (r := encB x) h1 (Nat.le_trans (enc_len hx) (by decide)) (by have := h.len; have := enc_len hx; unfold jB at *; omega) (many_len _ 0)
  have e : jB (E ++ [x]) = joinF 0 (E.map encB) ++ frameL (E.map encB).length (encB x) := by
    unfold jB
    rw [List.map_append, joinF_append]
    simp [joinF]
  rw [e]
  exact h2
theorem ends_step (E : List Ev) (x : Ev) : endsL E ++ [((jB (E ++ [x])).length : Int)] = endsL (E ++ [x]) := by
  unfold endsL jB
  rw [show (E ++ [x]).length + 1 = (E.length + 1) + 1 by simp, List.range_succ (n := E.length + 1), List.map_append (l₁ := List.range (E.length + 1)), joinF_len]
  congr 1
  · refine List.map_congr_left fun j hj => ?_
    have := List.mem_range.1 hj
    unfold posL
    rw [List.map_append, List.take_append_of_le_length (by rw [List.length_map]; omega)]
  rw [List.length_map, List.length_append]; rfl
theorem ends_len (E : List Ev) : (endsL E).length = E.length + 1 := by simp [endsL]
theorem get_ends {E : List Ev} {w : Nat} (h : w ≤ E.length) : ((endsL E).map iv)[w]? = some (iv ((posL (E.map encB) w : Nat) : Int)) := by
  unfold endsL
  rw [List.getElem?_map, List.getElem?_map, List.getElem?_range (by omega)]; rfl
theorem pl59 : plIs Tryd.prog 59 [(0, 1), (1, 1)] := ⟨_, Tryd.underlying59, by kernel_rfl⟩
abbrev pw (p : Nat × Nat) : List AV := [.v (.int .i64 (p.1 : Nat)), .v (.int .i64 (p.2 : Nat))]
theorem pw_len (l : List (Nat × Nat)) : ∀ x ∈ l.map pw, x.length = 2 := fun x hx => by obtain ⟨g, _, rfl⟩ := List.mem_map.1 hx; rfl
theorem pw_flat (l : List (Nat × Nat)) : ∀ r ∈ l.map pw, ∀ c ∈ r, flatA c = true := fun r hr c hc => by
  obtain ⟨g, _, rfl⟩ := List.mem_map.1 hr
  exact List.all_eq_true.1 (show (pw g).all flatA = true from rfl) c hc
structure RowOk (E : List Ev) (p : Nat × Nat) : Prop where
  n : p.1 ≤ (jB E).length
  w : p.2 ≤ E.length
  r : (recs ((jB E).take p.1)).1 = (E.take p.2).map encB
theorem row_ok {E : List Ev} {c n w : Nat} (h : JI E c) (hn : n ≤ (jB E).length) (hw : w ≤ E.length) (h1 : posL (E.map encB) w ≤ n) (h2 : w = E.length ∨ n < posL (E.map encB) (w + 1)) : RowOk E (n, w) := by
  refine ⟨hn, hw, ?_⟩
  have hl := h.len
  unfold jB at hl
  rw [joinF_len] at hl
  have := recs_torn (E.map encB) w n h.rl' (by omega) (by rw [List.length_map]; exact hw) h1 (fun h => by rw [List.length_map] at h; omega)
  show (recs ((joinF 0 (E.map encB)).take n)).1 = _
  rw [this, List.map_take]
theorem row_all {E : List Ev} {c : Nat} (h : JI E c) : RowOk E ((jB E).length, E.length) := by
  refine row_ok h (Nat.le_refl _) (Nat.le_refl _) ?_ (.inl rfl)
  unfold jB
  rw [joinF_len, List.length_map]; exact Nat.le_refl _
theorem RowOk.c24 {E : List Ev} {c : Nat} {p : Nat × Nat} (h : JI E c) (hp : RowOk E p) : Fn Tryd.prog 24 [] [.ro (((jB E).take p.1).map bv)] [.ro (((E.take p.2).map encB).map rv), .v (.int .i64 (recs ((jB E).take p.1)).2)] [] := by
  have h1 := C24 (b := (jB E).take p.1) (by rw [List.length_take]; have := h.len; omega)
  rwa [hp.r] at h1
theorem get_ex2 {RW : List (Nat × Nat)} {i : Nat} (h : i < RW.length) : ∃ p, RW[i]? = some p := ⟨_, List.getElem?_eq_getElem h⟩
theorem get_pw {RW : List (Nat × Nat)} {i : Nat} {p : Nat × Nat} (h : RW[i]? = some p) : (RW.map pw)[i]? = some (pw p) := by rw [List.getElem?_map, h]; rfl
theorem get_rec {E : List Ev} {W i : Nat} {x : Ev} (h : E[i]? = some x) (hi : i < W) : (((E.take W).map encB).map rv)[i]? = some (rv (encB x)) := by
  rw [List.getElem?_map, List.getElem?_map, List.getElem?_take_of_lt hi, h]; rfl
set_option maxHeartbeats 8000000 in
theorem C7 {l : List Int} {cut : Int} : Fn Tryd.prog 7 [] [.ro (l.map iv), .v (.int .i64 cut)] [.v (.bool true)] [] := by
  have hc0 := gmod_bd (x := rawV (l.take 2000) 0) (n := 8) (by decide)
  refine Spec.body Tryd.func7 rfl Tryd.ntmps7 (by simp) rfl ?_; intro S0 own0 v0 w0 gl
  (refine AW.seq_k ?_; intro K hK)
  refine AW.region ?_
  refine awP (op_assign rfl rfl) ?_; (try simp only [nA, Nat.reduceBEq, Nat.reduceEqDiff, ↓reduceIte, Nat.reduceAdd, Nat.reduceSub])
  refine AWL.nil ?_
  (refine hK _ ?_; clear hK K; (try simp only [nA, Nat.reduceBEq, Nat.reduceEqDiff, ↓reduceIte, Nat.reduceAdd, Nat.reduceSub]))
  (refine AW.seq_k ?_; intro K hK)
  refine AW.region ?_
  refine awP (op_move rfl rfl) ?_; (simp only [nA, ↓reduceIte])
  refine awJ (op_callB rfl en9 (C9) (RL.cons (by exact View.same rfl) (RL.nil))) ?_; (simp only [nA, Nat.reduceBEq, Nat.reduceEqDiff, ↓reduceIte])
  refine awP (op_assign rfl rfl) ?_; (simp only [nA])
  refine AWL.nil ?_
  (refine hK _ ?_; clear hK K; (skip))
  (refine AW.seq_k ?_; intro K hK)
  refine AW.region ?_
  refine awP (op_assign rfl rfl) ?_; (try simp only [nA, Nat.reduceBEq, Nat.reduceEqDiff, ↓reduceIte, Nat.reduceAdd, Nat.reduceSub])
  refine AWL.nil ?_
  (refine hK _ ?_; clear hK K; (skip))
  (refine AW.seq_k ?_; intro K hK)
  refine AW.region ?_
  refine awP (op_assign rfl rfl) ?_; (try simp only [nA, Nat.reduceBEq, Nat.reduceEqDiff, ↓reduceIte, Nat.reduceAdd, Nat.reduceSub])
  refine AWL.nil ?_
  (refine hK _ ?_; clear hK K; (skip))
  (refine AW.seq_k ?_; intro K hK)
  refine AW.region ?_
  refine awJ (op_buildSlice (n := 1) rfl [(0, iv 0)] ((endsL []).map iv) Tryd.underlying36 ze3 rfl (by simp) rfl (iv_len _) rfl (bl rfl) (by decide)) ?_; (simp only [nA, Nat.reduceBEq, Nat.reduceEqDiff, ↓reduceIte])
  refine awP (op_assign rfl rfl) ?_; (simp only [nA])
  refine AWL.nil ?_
  (refine hK _ ?_; clear hK K; (skip))
  (refine AW.seq_k ?_; intro K hK)
  (refine AW.seq_k ?_; intro K hK)
  refine AW.region ?_
  refine awP (op_move rfl rfl) ?_; (simp only [nA, ↓reduceIte])
  refine awJ (op_call1 rfl en22 (C22 (l := (l.take 2000)) (k := 0) (n := 8) (hl20 l) (by decide)) (by exact rfl) (RL.cons .ptr (RL.cons (.base (by exact View.same rfl)) (RL.nil))) (by exact ⟨_, _, _, rfl, rfl, rfl⟩) (by exact rfl) (by exact rfl) (by exact rfl)) ?_; (try simp only [nA, Nat.reduceBEq, Nat.reduceEqDiff, ↓reduceIte, Nat.reduceAdd, Nat.reduceSub])
  refine awP (op_assign rfl rfl) ?_; (simp only [nA])
  refine AWL.nil ?_
  (refine hK _ ?_; clear hK K; (skip))
  refine AW.block ?_
  refine AW.gh (Gh.nil (e := 5) 6 (bl rfl) rfl sz5) ?_; (simp only [nA, Nat.reduceBEq, Nat.reduceEqDiff, ↓reduceIte]); refine AW.gh (Gh.freeze 6 (bl rfl) rfl rfl (by simp) (es' := ([] : BL).map bv) rfl) ?_; (try simp only [nA, Nat.reduceBEq, Nat.reduceEqDiff, ↓reduceIte, Nat.reduceAdd, Nat.reduceSub]); refine AW.gh (Gh.nil (e := 35) 7 (bl rfl) rfl sz35) ?_; (simp only [nA, Nat.reduceBEq, Nat.reduceEqDiff, ↓reduceIte]); refine AW.loopI (fun (q : Nat × List Ev × Nat × Nat × Nat × Nat) => [(5, .ptr 0 1 0 0), (6, .ro ((jB q.2.1).map bv)), (7, .sl 3 q.2.2.2.1 0 q.2.1.length), (8, .sl 1 q.2.2.2.2.1 0 (q.2.1.length + 1)), (9, .v (.int .i64 (q.1 : Nat))), (1, .v (.int .i64 cut))]) (fun q => ⟨[(1, .own 68 [srcRow (l.take 2000) q.2.2.1]), (q.2.2.2.2.1, .own 3 ((endsL q.2.1).map iv)), (3, .any), (q.2.2.2.1, .own 35 (q.2.1.map Ev.av))], q.2.2.2.2.2⟩) (fun q => JI q.2.1 q.1) (fun q => q.1) ((gmod (rawV (l.take 2000) 0) 8).toNat, [], _, _, _, _) ⟨by simp, by simp; omega⟩ ⟨rfl, rfl, rfl, rfl, by dsimp only; rw [Int.toNat_of_nonneg hc0.1]; rfl, rfl, trivial⟩ rfl ?_; rintro ⟨c, E, kk, k7, k8, ep⟩ ρ hI; dsimp only at hI ⊢; simp only [updL]; have hEl := hI.len; have hE7 := hI.le
  (refine AW.seq_k ?_; intro K hK)
  (refine AW.seq_k ?_; intro K hK)
  refine AW.region ?_
  refine awP (op_move rfl rfl) ?_; (simp only [nA, ↓reduceIte])
  refine awP (op_gtr rfl rfl rfl) ?_; (try simp only [nA, Nat.reduceBEq, Nat.reduceEqDiff, ↓reduceIte, Nat.reduceAdd, Nat.reduceSub])
  refine AWL.nil ?_
  (refine hK _ ?_; clear hK K; (skip))
  refine AW.cond rfl rfl rfl (fun hc => ?_) (fun hc => ?_)
  ·
   have hc1 := hc; obtain ⟨c, rfl⟩ : ∃ c', c = c' + 1 := ⟨c - 1, by have := of_decide_eq_true hc1; omega⟩; have hX := ev_good (l.take 2000) kk; have hI2 := hI.next hX; have hEl2 := hI2.len
   refine AW.skip ?_
   (refine hK _ ?_; clear hK K; (skip))
   (refine AW.seq_k ?_; intro K hK)
   refine AW.block ?_
   (refine AW.seq_k ?_; intro K hK)
   refine AW.region ?_
   refine awP (op_move rfl rfl) ?_; (simp only [nA, ↓reduceIte])
   refine awJ (op_call1 rfl en10 (C10 (l := (l.take 2000)) (k := kk) (hl20 l)) (by exact rfl) (RL.cons .ptr (RL.nil)) (by exact ⟨_, _, _, rfl, rfl, rfl⟩) (by exact rfl) (by exact rfl) (by exact rfl)) ?_; (try simp only [nA, Nat.reduceBEq, Nat.reduceEqDiff, ↓reduceIte, Nat.reduceAdd, Nat.reduceSub])
   refine awJ (op_alloc rfl ze35 rfl) ?_; (simp only [nA, Nat.reduceBEq, Nat.reduceEqDiff, ↓reduceIte])
   refine awJ (op_store rfl rfl rfl rfl rfl rfl sz35 rfl (bl rfl) rfl) ?_; (simp only [nA, Nat.reduceBEq, Nat.reduceEqDiff, ↓reduceIte])
   refine AWL.nil ?_
   (refine hK _ ?_; clear hK K; (skip))
   (refine AW.seq_k ?_; intro K hK)
   refine AW.region ?_
   (refine awR (op_load_ptr rfl rfl rfl rfl ag35 sz35 (bl rfl) rfl) ?_); (try simp only [nA, Nat.reduceBEq, Nat.reduceEqDiff, ↓reduceIte, Nat.reduceAdd, Nat.reduceSub])
   refine awJ (op_call (b := false) rfl en13 (cE hX) (RL.cons (by exact View.same rfl) (RL.nil)) rfl (fun h => by cases h) rfl rfl) ?_; (try simp only [nA, Nat.reduceBEq, Nat.reduceEqDiff, ↓reduceIte, Nat.reduceAdd, Nat.reduceSub])
   refine awP (op_move rfl rfl) ?_; (simp only [nA])
   refine awP (op_extract rfl rfl rfl) ?_; (try simp only [nA, Nat.reduceBEq, Nat.reduceEqDiff, ↓reduceIte, Nat.reduceAdd, Nat.reduceSub])
   refine awP (op_extract rfl rfl rfl) ?_; (try simp only [nA, Nat.reduceBEq, Nat.reduceEqDiff, ↓reduceIte, Nat.reduceAdd, Nat.reduceSub])
   refine awP (op_assign rfl rfl) ?_; (simp only [nA, ↓reduceIte])
   refine awP (op_assign rfl rfl) ?_; (simp only [nA, ↓reduceIte])
   refine AWL.nil ?_
   (refine hK _ ?_; clear hK K; (skip))
   (refine AW.seq_k ?_; intro K hK)
   refine AW.region ?_
   refine awP (op_move rfl rfl) ?_; (simp only [nA, ↓reduceIte])
   refine awP (op_move rfl rfl) ?_; (simp only [nA, ↓reduceIte])
   refine awJ (op_call (b := false) rfl en23 (C23e hI hX) (RL.cons (by exact View.same rfl) (RL.cons (by exact View.same rfl) (RL.nil))) rfl (fun h => by cases h) rfl rfl) ?_; (try simp only [nA, Nat.reduceBEq, Nat.reduceEqDiff, ↓reduceIte, Nat.reduceAdd, Nat.reduceSub])
   refine awP (op_move rfl rfl) ?_; (simp only [nA])
   refine awP (op_extract rfl rfl rfl) ?_; (try simp only [nA, Nat.reduceBEq, Nat.reduceEqDiff, ↓reduceIte, Nat.reduceAdd, Nat.reduceSub])
   refine awP (op_extract rfl rfl rfl) ?_; (try simp only [nA, Nat.reduceBEq, Nat.reduceEqDiff, ↓reduceIte, Nat.reduceAdd, Nat.reduceSub])
   refine awP (op_assign rfl rfl) ?_; (simp only [nA, ↓reduceIte])
   refine awP (op_assign rfl rfl) ?_; (simp only [nA, ↓reduceIte])
   refine AWL.nil ?_
   (refine hK _ ?_; clear hK K; (skip))
   (refine AW.seq_k ?_; intro K hK)
   (refine AW.seq_k ?_; intro K hK)
   refine AW.region (AWL.quiet ?_)
   refine aqP (op_move rfl rfl) ?_; (simp only [nA, ↓reduceIte])
   (refine aqP (op_neq rfl rfl rfl) ?_); (try simp only [nA, Nat.reduceBEq, Nat.reduceEqDiff, ↓reduceIte, Nat.reduceAdd, Nat.reduceSub])
   refine aqP (op_move rfl rfl) ?_; (simp only [nA])
   refine' aqOr' [_, _] [49,50] rfl rfl rfl rfl rfl rfl rfl rfl rfl rfl rfl rfl (fun hb => ?_) ?_; rotate_left
   ·
    (try simp only [hcS] at hb)
    refine aqP (op_move rfl rfl) ?_; (simp only [nA, ↓reduceIte])
    (refine aqP (op_neq rfl rfl rfl) ?_); (try simp only [nA, Nat.reduceBEq, Nat.reduceEqDiff, ↓reduceIte, Nat.reduceAdd, Nat.reduceSub])
    (refine aqSeg rfl rfl rfl ?_; repeat (first | exact fun _ _ => rfl | refine upd_out rfl ?_))
   refine AQ.nil ?_
   (refine hK _ ?_; clear hK K; (skip))
   refine AW.cond rfl rfl rfl (fun hc => ?_) (fun hc => ?_)
   · (cases hc; done)
   have hc2 := hc
   refine AW.skip ?_
   (refine hK _ ?_; clear hK K; (skip))
   refine AW.region ?_
   refine awP (op_move rfl rfl) ?_; (simp only [nA, Nat.reduceEqDiff, ↓reduceIte])
   refine awP (op_move rfl rfl) ?_; (simp only [nA, Nat.reduceEqDiff, ↓reduceIte])
   (refine awR (op_load_ptr rfl rfl rfl rfl ag35 sz35 (bl rfl) rfl) ?_); (try simp only [nA, Nat.reduceBEq, Nat.reduceEqDiff, ↓reduceIte, Nat.reduceAdd, Nat.reduceSub])
   refine awJ (OpJ.frz (op_buildSlice (n := 1) rfl [(0, (evV (l.take 2000) kk).1.av)] ([(evV (l.take 2000) kk).1].map Ev.av) Tryd.underlying42 ze35 rfl (numb_r (sz := 32) ([(evV (l.take 2000) kk).1].map Ev.av) 0 (evv_len _)) (numb_f (sz := 32) (z := .any) ([(evV (l.take 2000) kk).1].map Ev.av) 0 [] rfl (evv_len _)) (evv_len _) rfl (bl rfl) (by decide)) (evv_flat _) rfl) ?_; (try simp only [nA, Nat.reduceBEq, Nat.reduceEqDiff, ↓reduceIte, Nat.reduceAdd, Nat.reduceSub])
   refine awJ (op_app (r := 3) (k := k7) (len := E.length) (es := E.map Ev.av) (rows := [(evV (l.take 2000) kk).1].map Ev.av) rfl rfl rfl rfl (by rw [List.length_map]) .ro Tryd.underlying42 ze35 (by decide) (evv_len _) (by rw [List.length_map, List.length_map, List.length_singleton]; omega) (by decide) (es' := (E ++ [(evV (l.take 2000) kk).1]).map Ev.av) (by simp) (n := (E ++ [(evV (l.take 2000) kk).1]).length) (by simp)) ?_; (try simp only [nA, Nat.reduceBEq, Nat.reduceEqDiff, ↓reduceIte, Nat.reduceAdd, Nat.reduceSub])
   refine awP (op_move rfl rfl) ?_; (simp only [nA, Nat.reduceEqDiff, ↓reduceIte])
   refine awP (op_move rfl rfl) ?_; (simp only [nA, Nat.reduceEqDiff, ↓reduceIte])
   refine awP (op_len_ro (n := (jB (E ++ [(evV (l.take 2000) kk).1])).length) rfl rfl Tryd.underlying43 (.inr (.inl ⟨_, rfl, by simp⟩))) ?_; (try simp only [nA, Nat.reduceBEq, Nat.reduceEqDiff, ↓reduceIte, Nat.reduceAdd, Nat.reduceSub])
   refine awJ (OpJ.frz (op_buildSlice (n := 1) rfl [(0, iv ((jB (E ++ [(evV (l.take 2000) kk).1])).length : Nat))] ([((jB (E ++ [(evV (l.take 2000) kk).1])).length : Int)].map iv) Tryd.underlying36 ze3 rfl (by simp) rfl (iv_len _) rfl (bl rfl) (by decide)) (iv_flat _) rfl) ?_; (try simp only [nA, Nat.reduceBEq, Nat.reduceEqDiff, ↓reduceIte, Nat.reduceAdd, Nat.reduceSub])
   refine awJ (op_app (r := 1) (k := k8) (len := E.length + 1) (es := (endsL E).map iv) (rows := [((jB (E ++ [(evV (l.take 2000) kk).1])).length : Int)].map iv) rfl rfl rfl rfl (by rw [List.length_map, ends_len]) .ro Tryd.underlying36 ze3 (by decide) (iv_len _) (by rw [List.length_map, List.length_map, ends_len, List.length_singleton]; omega) (by decide) (es' := (endsL (E ++ [(evV (l.take 2000) kk).1])).map iv) (by rw [← List.map_append, ends_step]) (n := (E ++ [(evV (l.take 2000) kk).1]).length + 1) (by rw [List.length_map, List.length_map, ends_len, List.length_append]; rfl)) ?_; (try simp only [nA, Nat.reduceBEq, Nat.reduceEqDiff, ↓reduceIte, Nat.reduceAdd, Nat.reduceSub])
   refine awP (op_assign rfl rfl) ?_; (simp only [nA, ↓reduceIte])
   refine awP (op_assign rfl rfl) ?_; (simp only [nA, ↓reduceIte])
   refine awP (op_assign rfl rfl) ?_; (simp only [nA, ↓reduceIte])
   refine AWL.nil ?_
   (try simp only [thenE, inBlk, Nat.reduceEqDiff, ↓reduceIte])
   (refine hK _ ?_; clear hK K; (skip))
   refine AW.region ?_
   refine awP (op_move rfl rfl) ?_; (simp only [nA, Nat.reduceEqDiff, ↓reduceIte])
   (refine awP (op_subi rfl rfl rfl (by omega)) ?_); (try simp only [nA, Nat.reduceBEq, Nat.reduceEqDiff, ↓reduceIte, Nat.reduceAdd, Nat.reduceSub])
   refine awP (op_assign rfl rfl) ?_; (simp only [nA])
   refine AWL.gh (Gh.drop 4) ?_; (try simp only [nA, Nat.reduceBEq, Nat.reduceEqDiff, ↓reduceIte, Nat.reduceAdd, Nat.reduceSub])
   refine AWL.nil ?_
   refine ⟨(c, E ++ [(evV (l.take 2000) kk).1], (evV (l.take 2000) kk).2, ep + 1, ep + 2, ep + 3), hI2, by dsimp only; omega, ⟨rfl, rfl, rfl, rfl, by dsimp only; exact congrArg (fun z => AV.v (.int .i64 z)) (by omega), rfl, trivial⟩, (by rfl), (by rfl)⟩
  have hc1 := hc; obtain rfl : c = 0 := (by have := of_decide_eq_false hc1; omega); refine AW.gh (Gh.freeze 7 (bl rfl) rfl rfl (evv_flat _) (es' := E.map Ev.av) (List.take_of_length_le (by rw [List.length_map]; exact Nat.le_refl _))) ?_; (try simp only [nA, Nat.reduceBEq, Nat.reduceEqDiff, ↓reduceIte, Nat.reduceAdd, Nat.reduceSub]); refine AW.gh (Gh.freeze 8 (bl rfl) rfl rfl (iv_flat _) (es' := (endsL E).map iv) (List.take_of_length_le (by rw [List.length_map, ends_len]; exact Nat.le_refl _))) ?_; (try simp only [nA, Nat.reduceBEq, Nat.reduceEqDiff, ↓reduceIte, Nat.reduceAdd, Nat.reduceSub]); have hnb := gmod_bd (x := cut) (n := (((jB E).length : Nat) + 1 : Int)) (by omega); have hne : gmod cut (((jB E).length : Nat) + 1 : Int) = (((gmod cut (((jB E).length : Nat) + 1 : Int)).toNat : Nat) : Int) := (Int.toNat_of_nonneg hnb.1).symm; have hn : (gmod cut (((jB E).length : Nat) + 1 : Int)).toNat ≤ (jB E).length := (by omega); have c21 : Fn Tryd.prog 21 [] [.v (.int .i64 cut), .v (.int .i64 (((jB E).length : Nat) + 1 : Int))] [.v (.int .i64 ((gmod cut (((jB E).length : Nat) + 1 : Int)).toNat : Nat))] [] := (by have h := C21 (x := cut) (n := (((jB E).length : Nat) + 1 : Int)) (by omega); rwa [hne] at h)
  refine AW.exit ?_; (try simp only [thenE, inBlk, Nat.reduceEqDiff, ↓reduceIte])
  clear hK K
  (refine hK _ ?_; clear hK K; (skip))
  (refine AW.seq_k ?_; intro K hK)
  refine AW.region ?_
  refine awP (op_move rfl rfl) ?_; (simp only [nA, ↓reduceIte])
  refine awP (op_move rfl rfl) ?_; (simp only [nA, ↓reduceIte])
  refine awP (op_len_ro (n := (jB E).length) rfl rfl Tryd.underlying43 (.inr (.inl ⟨_, rfl, by simp⟩))) ?_; (try simp only [nA, Nat.reduceBEq, Nat.reduceEqDiff, ↓reduceIte, Nat.reduceAdd, Nat.reduceSub])
  (refine awP (op_addi rfl rfl rfl (by omega)) ?_); (try simp only [nA, Nat.reduceBEq, Nat.reduceEqDiff, ↓reduceIte, Nat.reduceAdd, Nat.reduceSub])
  refine awJ (OpQ.j (op_callQ (b := true) rfl en21 c21 (RL.cons (by exact View.same rfl) (RL.cons (by exact View.same rfl) (RL.nil))) rfl)) ?_; (try simp only [nA, Nat.reduceBEq, Nat.reduceEqDiff, ↓reduceIte, Nat.reduceAdd, Nat.reduceSub])
  refine awP (op_assign rfl rfl) ?_; (simp only [nA])
  refine AWL.nil ?_
  (refine hK _ ?_; clear hK K; (skip))
  (refine AW.seq_k ?_; intro K hK)
  refine AW.region ?_
  refine awP (op_assign rfl rfl) ?_; (try simp only [nA, Nat.reduceBEq, Nat.reduceEqDiff, ↓reduceIte, Nat.reduceAdd, Nat.reduceSub])
  refine AWL.nil ?_
  (refine hK _ ?_; clear hK K; (skip))
  (refine AW.seq_k ?_; intro K hK)
  refine AW.block ?_
  refine AW.loopI (fun (w : Nat) => [(6, .ro ((jB E).map bv)), (7, .ro (E.map Ev.av)), (8, .ro ((endsL E).map iv)), (15, .v (.int .i64 ((gmod cut (((jB E).length : Nat) + 1 : Int)).toNat : Nat))), (16, .v (.int .i64 (w : Nat)))]) (fun w => ⟨[(1, .own 68 [srcRow (l.take 2000) kk]), (k8, .any), (3, .any), (k7, .any)], ep⟩) (fun w => w ≤ E.length ∧ posL (E.map encB) w ≤ (gmod cut (((jB E).length : Nat) + 1 : Int)).toNat) (fun w => E.length - w) 0 ⟨Nat.zero_le _, by rw [posL_zero]; exact Nat.zero_le _⟩ ⟨rfl, rfl, rfl, rfl, rfl, trivial⟩ rfl ?_; intro w ρ2 hw; simp only [updL]
  (refine AW.seq_k ?_; intro K hK)
  (refine AW.seq_k ?_; intro K hK)
  refine AW.region (AWL.quiet ?_)
  refine aqP (op_move rfl rfl) ?_; (simp only [nA, ↓reduceIte])
  refine aqP (op_move rfl rfl) ?_; (simp only [nA, ↓reduceIte])
  refine aqP (op_len_ro (n := E.length) rfl rfl Tryd.underlying42 (.inr (.inl ⟨_, rfl, by simp⟩))) ?_; (try simp only [nA, Nat.reduceBEq, Nat.reduceEqDiff, ↓reduceIte, Nat.reduceAdd, Nat.reduceSub])
  refine aqP (op_lss rfl rfl rfl) ?_; (try simp only [nA, Nat.reduceBEq, Nat.reduceEqDiff, ↓reduceIte, Nat.reduceAdd, Nat.reduceSub])
  refine aqP (op_move rfl rfl) ?_; (simp only [nA])
  refine' aqAnd' [_, _, _, _, _, _, _] [72,73,74,75,76,77,78] rfl rfl rfl rfl rfl rfl rfl rfl rfl rfl rfl rfl (fun hb => ?_) ?_; rotate_left
  ·
   (try simp only [hcS] at hb)
   refine aqP (op_move rfl rfl) ?_; (simp only [nA, ↓reduceIte])
   refine aqP (op_move rfl rfl) ?_; (simp only [nA, ↓reduceIte])
   (refine aqP (op_addi rfl rfl rfl (by omega)) ?_); (try simp only [nA, Nat.reduceBEq, Nat.reduceEqDiff, ↓reduceIte, Nat.reduceAdd, Nat.reduceSub])
   refine aqP (op_ia_ro (w + 1) rfl (.inl rfl) rfl Tryd.underlying36 rfl (get_ends (by omega)) (by exact sz3) (bl rfl)) ?_; (try simp only [nA, Nat.reduceBEq, Nat.reduceEqDiff, ↓reduceIte, Nat.reduceAdd, Nat.reduceSub])
   (refine aqR (op_load_rop1 rfl rfl ag3) ?_); (try simp only [nA, Nat.reduceBEq, Nat.reduceEqDiff, ↓reduceIte, Nat.reduceAdd, Nat.reduceSub])
   refine aqP (op_move rfl rfl) ?_; (simp only [nA, ↓reduceIte])
   refine aqP (op_leq rfl rfl rfl) ?_; (try simp only [nA, Nat.reduceBEq, Nat.reduceEqDiff, ↓reduceIte, Nat.reduceAdd, Nat.reduceSub])
   (refine aqSeg rfl rfl rfl ?_; repeat (first | exact fun _ _ => rfl | refine upd_out rfl ?_))
  refine AQ.nil ?_
  (refine hK _ ?_; clear hK K; (skip))
  refine AW.cond rfl rfl rfl (fun hc => ?_) (fun hc => ?_)
  ·
   have hc3 := hc; have hw2 : w + 1 ≤ E.length ∧ posL (E.map encB) (w + 1) ≤ (gmod cut (((jB E).length : Nat) + 1 : Int)).toNat := (by rw [Bool.and_eq_true, decide_eq_true_eq, decide_eq_true_eq] at hc3; omega)
   refine AW.skip ?_
   (refine hK _ ?_; clear hK K; (skip))
   refine AW.block ?_
   refine AW.region ?_
   refine awP (op_move rfl rfl) ?_; (simp only [nA, Nat.reduceEqDiff, ↓reduceIte])
   (refine awP (op_addi rfl rfl rfl (by omega)) ?_); (try simp only [nA, Nat.reduceBEq, Nat.reduceEqDiff, ↓reduceIte, Nat.reduceAdd, Nat.reduceSub])
   refine awP (op_assign rfl rfl) ?_; (simp only [nA])
   refine AWL.nil ?_
   (try simp only [thenE, inBlk, Nat.reduceEqDiff, ↓reduceIte])
   refine ⟨w + 1, hw2, by omega, ⟨rfl, rfl, rfl, rfl, by exact congrArg (fun z => AV.v (.int .i64 z)) (by omega), trivial⟩, (by trivial), (by trivial)⟩
  have hc3 := hc; have hw3 : w = E.length ∨ (gmod cut (((jB E).length : Nat) + 1 : Int)).toNat < posL (E.map encB) (w + 1) := (by rw [Bool.and_eq_false_iff, decide_eq_false_iff_not, decide_eq_false_iff_not] at hc3; omega); have hr1 := row_all hI; have hr2 := row_ok hI hn hw.1 hw.2 hw3; obtain ⟨RW, hRW⟩ : ∃ RW : List (Nat × Nat), RW = [((jB E).length, E.length), ((gmod cut (((jB E).length : Nat) + 1 : Int)).toNat, w)] := ⟨_, rfl⟩; have hrw : ∀ p ∈ RW, RowOk E p := (by rw [hRW]; intro p hp; simp only [List.mem_cons, List.not_mem_nil, or_false] at hp; rcases hp with rfl | rfl; exact hr1; exact hr2); have hrl : RW.length = 2 := (by rw [hRW]; rfl)
  refine AW.exit ?_; (try simp only [thenE, inBlk, Nat.reduceEqDiff, ↓reduceIte])
  clear hK K
  (refine hK _ ?_; clear hK K; (skip))
  (refine AW.seq_k ?_; intro K hK)
  (refine AW.seq_k ?_; intro K hK)
  refine AW.region ?_
  refine awP (op_move rfl rfl) ?_; (simp only [nA, Nat.reduceEqDiff, ↓reduceIte])
  refine awP (op_len_ro (n := (jB E).length) rfl rfl Tryd.underlying43 (.inr (.inl ⟨_, rfl, by simp⟩))) ?_; (try simp only [nA, Nat.reduceBEq, Nat.reduceEqDiff, ↓reduceIte, Nat.reduceAdd, Nat.reduceSub])
  refine awP (op_move rfl rfl) ?_; (simp only [nA, Nat.reduceEqDiff, ↓reduceIte])
  refine awP (op_len_ro (n := E.length) rfl rfl Tryd.underlying42 (.inr (.inl ⟨_, rfl, by simp⟩))) ?_; (try simp only [nA, Nat.reduceBEq, Nat.reduceEqDiff, ↓reduceIte, Nat.reduceAdd, Nat.reduceSub])
  refine awP (op_build2 (xs := [_, _]) rfl pl59 ze59 [(0, [_]), (1, [_])] rfl rfl rfl) ?_; (simp only [nA, ↓reduceIte])
  refine awP (op_move rfl rfl) ?_; (simp only [nA, Nat.reduceEqDiff, ↓reduceIte])
  refine awP (op_move rfl rfl) ?_; (simp only [nA, Nat.reduceEqDiff, ↓reduceIte])
  refine awP (op_build2 (xs := [_, _]) rfl pl59 ze59 [(0, [_]), (1, [_])] rfl rfl rfl) ?_; (simp only [nA, ↓reduceIte])
  refine awJ (OpJ.frz (op_buildSlice (n := 2) rfl [(0, pw ((jB E).length, E.length)), (1, pw ((gmod cut (((jB E).length : Nat) + 1 : Int)).toNat, w))] (RW.map pw) Tryd.underlying60 ze59 rfl (numb_r (sz := 2) ([((jB E).length, E.length), ((gmod cut (((jB E).length : Nat) + 1 : Int)).toNat, w)].map pw) 0 (pw_len _)) (by rw [hRW]; exact numb_f (sz := 2) (z := .any) ([((jB E).length, E.length), ((gmod cut (((jB E).length : Nat) + 1 : Int)).toNat, w)].map pw) 0 [] rfl (pw_len _)) (pw_len _) (by rw [List.length_map, hrl]) (bl rfl) (by decide)) (pw_flat _) (by rw [List.length_map, hrl])) ?_; (try simp only [nA, Nat.reduceBEq, Nat.reduceEqDiff, ↓reduceIte, Nat.reduceAdd, Nat.reduceSub])
  refine awP (op_len_ro (n := 2) rfl rfl Tryd.underlying60 (.inr (.inl ⟨_, rfl, by rw [List.length_map, hrl]⟩))) ?_; (try simp only [nA, Nat.reduceBEq, Nat.reduceEqDiff, ↓reduceIte, Nat.reduceAdd, Nat.reduceSub])
  refine awP (op_move rfl rfl) ?_; (try simp only [nA, Nat.reduceBEq, Nat.reduceEqDiff, ↓reduceIte, Nat.reduceAdd, Nat.reduceSub])
  refine AWL.nil ?_
  (refine hK _ ?_; clear hK K; (skip))
  refine AW.block ?_
  refine AW.loopI (fun (q : Nat × Nat) => [(6, .ro ((jB E).map bv)), (7, .ro (E.map Ev.av)), (90, .ro (RW.map pw)), (91, .v (.int .i64 2)), (92, .v (.int .i64 (q.1 : Nat)))]) (fun q => ⟨[(1, .own 68 [srcRow (l.take 2000) kk]), (k8, .any), (3, .any), (k7, .any)], q.2⟩) (fun q => q.1 ≤ 2) (fun q => 2 - q.1) (0, _) (by simp) ⟨rfl, rfl, rfl, rfl, rfl, trivial⟩ rfl ?_; rintro ⟨j, ep2⟩ ρ3 hj; dsimp only at hj ⊢; simp only [updL]
  (refine AW.seq_k ?_; intro K hK)
  refine AW.region ?_
  refine awP (op_lss rfl rfl rfl) ?_; (try simp only [nA, Nat.reduceBEq, Nat.reduceEqDiff, ↓reduceIte, Nat.reduceAdd, Nat.reduceSub])
  refine AWL.nil ?_
  (refine hK _ ?_; clear hK K; (skip))
  (refine AW.seq_k ?_; intro K hK)
  refine AW.cond rfl rfl rfl (fun hc => ?_) (fun hc => ?_)
  ·
   have hc4 := hc; have hlt4 : j < 2 := (by have := of_decide_eq_true hc4; omega); obtain ⟨p, hp⟩ := get_ex2 (RW := RW) (i := j) (by omega); have hpo := hrw p (List.mem_of_getElem? hp); have c24 := hpo.c24 hI; have hpn := hpo.n; have hpw := hpo.w
   refine AW.skip ?_
   (refine hK _ ?_; clear hK K; (skip))
   (refine AW.seq_k ?_; intro K hK)
   refine AW.block ?_
   (refine AW.seq_k ?_; intro K hK)
   refine AW.region ?_
   refine awP (op_ia_ro j rfl (.inl rfl) rfl Tryd.underlying60 rfl (get_pw hp) (by exact sz59) (bl rfl)) ?_; (try simp only [nA, Nat.reduceBEq, Nat.reduceEqDiff, ↓reduceIte, Nat.reduceAdd, Nat.reduceSub])
   (refine awR (op_load_rop rfl rfl ag59 sz59 (bl rfl) (by decide) rfl) ?_); (try simp only [nA, Nat.reduceBEq, Nat.reduceEqDiff, ↓reduceIte, Nat.reduceAdd, Nat.reduceSub])
   refine awJ (op_alloc rfl ze59 rfl) ?_; (simp only [nA, Nat.reduceBEq, Nat.reduceEqDiff, ↓reduceIte])
   refine awJ (op_store rfl rfl rfl rfl rfl rfl sz59 rfl (bl rfl) rfl) ?_; (simp only [nA, Nat.reduceBEq, Nat.reduceEqDiff, ↓reduceIte])
   refine AWL.nil ?_
   (refine hK _ ?_; clear hK K; (skip))
   (refine AW.seq_k ?_; intro K hK)
   refine AW.region ?_
   refine awP (op_move rfl rfl) ?_; (simp only [nA, ↓reduceIte])
   (refine awP (op_fa_ptr rfl rfl rfl fl59_0 (by exact sz3) (by decide) rfl) ?_); (try simp only [nA, Nat.reduceBEq, Nat.reduceEqDiff, ↓reduceIte, Nat.reduceAdd, Nat.reduceSub])
   (refine awR (op_load_ptr1 rfl rfl rfl rfl ag3 rfl rfl) ?_); (try simp only [nA, Nat.reduceBEq, Nat.reduceEqDiff, ↓reduceIte, Nat.reduceAdd, Nat.reduceSub])
   refine awP (op_slice_ro 0 p.1 rfl (.inl rfl) (by exact rfl) (by exact ⟨_, rfl⟩) (Nat.zero_le _) (by rw [List.length_map]; omega) Tryd.underlying43 sz5 (bv_len _) (es' := ((jB E).take p.1).map bv) (by rw [List.drop_zero, Nat.sub_zero, List.map_take])) ?_; (try simp only [nA, Nat.reduceBEq, Nat.reduceEqDiff, ↓reduceIte, Nat.reduceAdd, Nat.reduceSub])
   refine awJ (op_call (b := false) rfl en24 c24 (RL.cons (by exact View.same rfl) (RL.nil)) rfl (fun h => by cases h) rfl rfl) ?_; (try simp only [nA, Nat.reduceBEq, Nat.reduceEqDiff, ↓reduceIte, Nat.reduceAdd, Nat.reduceSub])
   refine awP (op_move rfl rfl) ?_; (simp only [nA])
   refine awP (op_extract rfl rfl rfl) ?_; (try simp only [nA, Nat.reduceBEq, Nat.reduceEqDiff, ↓reduceIte, Nat.reduceAdd, Nat.reduceSub])
   refine awP (op_extract rfl rfl rfl) ?_; (try simp only [nA, Nat.reduceBEq, Nat.reduceEqDiff, ↓reduceIte, Nat.reduceAdd, Nat.reduceSub])
   refine awP (op_assign rfl rfl) ?_; (simp only [nA, ↓reduceIte])
   refine awP (op_assign rfl rfl) ?_; (simp only [nA, ↓reduceIte])
   refine AWL.nil ?_
   (refine hK _ ?_; clear hK K; (skip))
   (refine AW.seq_k ?_; intro K hK)
   (refine AW.seq_k ?_; intro K hK)
   refine AW.region ?_
   refine awP (op_move rfl rfl) ?_; (simp only [nA, ↓reduceIte])
   refine awP (op_len_ro (n := p.2) rfl rfl Tryd.underlying61 (.inr (.inl ⟨_, rfl, by rw [List.length_map, List.length_map, List.length_take]; omega⟩))) ?_; (try simp only [nA, Nat.reduceBEq, Nat.reduceEqDiff, ↓reduceIte, Nat.reduceAdd, Nat.reduceSub])
   (refine awP (op_fa_ptr rfl rfl rfl fl59_1 (by exact sz3) (by decide) rfl) ?_); (try simp only [nA, Nat.reduceBEq, Nat.reduceEqDiff, ↓reduceIte, Nat.reduceAdd, Nat.reduceSub])
   (refine awR (op_load_ptr1 rfl rfl rfl rfl ag3 rfl rfl) ?_); (try simp only [nA, Nat.reduceBEq, Nat.reduceEqDiff, ↓reduceIte, Nat.reduceAdd, Nat.reduceSub])
   (refine awP (op_neq rfl rfl rfl) ?_); (try simp only [nA, Nat.reduceBEq, Nat.reduceEqDiff, ↓reduceIte, Nat.reduceAdd, Nat.reduceSub])
   refine AWL.nil ?_
   (refine hK _ ?_; clear hK K; (skip))
   refine AW.cond rfl rfl rfl (fun hc => ?_) (fun hc => ?_)
   · (cases hc; done)
   have hc5 := hc
   refine AW.skip ?_
   (refine hK _ ?_; clear hK K; (skip))
   (refine AW.seq_k ?_; intro K hK)
   refine AW.region ?_
   refine awP (op_move rfl rfl) ?_; (simp only [nA, ↓reduceIte])
   refine awP (op_len_ro (n := p.2) rfl rfl Tryd.underlying61 (.inr (.inl ⟨_, rfl, by rw [List.length_map, List.length_map, List.length_take]; omega⟩))) ?_; (try simp only [nA, Nat.reduceBEq, Nat.reduceEqDiff, ↓reduceIte, Nat.reduceAdd, Nat.reduceSub])
   refine awP (op_move rfl rfl) ?_; (try simp only [nA, Nat.reduceBEq, Nat.reduceEqDiff, ↓reduceIte, Nat.reduceAdd, Nat.reduceSub])
   refine AWL.nil ?_
   (refine hK _ ?_; clear hK K; (skip))
   refine AW.block ?_
   refine AW.loopI (fun (q : Nat × Nat) => [(6, .ro ((jB E).map bv)), (7, .ro (E.map Ev.av)), (90, .ro (RW.map pw)), (91, .v (.int .i64 2)), (92, .v (.int .i64 (j : Nat))), (19, .ro (((E.take p.2).map encB).map rv)), (109, .ro (((E.take p.2).map encB).map rv)), (110, .v (.int .i64 (p.2 : Nat))), (111, .v (.int .i64 (q.1 : Nat)))]) (fun q => ⟨[(1, .own 68 [srcRow (l.take 2000) kk]), (k8, .any), (3, .any), (k7, .any)] ++ [(ep2, .own 59 [pw p])], q.2⟩) (fun q => q.1 ≤ p.2) (fun q => p.2 - q.1) (0, _) (by simp) ⟨rfl, rfl, rfl, rfl, rfl, rfl, rfl, rfl, rfl, trivial⟩ rfl ?_; rintro ⟨i, ep3⟩ ρ4 hi; dsimp only at hi ⊢; simp only [updL]; (try simp only [nA, Nat.reduceBEq, Nat.reduceEqDiff, ↓reduceIte, Nat.reduceAdd, Nat.reduceSub])
   (refine AW.seq_k ?_; intro K hK)
   refine AW.region ?_
   refine awP (op_lss rfl rfl rfl) ?_; (try simp only [nA, Nat.reduceBEq, Nat.reduceEqDiff, ↓reduceIte, Nat.reduceAdd, Nat.reduceSub])
   refine AWL.nil ?_
   (refine hK _ ?_; clear hK K; (skip))
   (refine AW.seq_k ?_; intro K hK)
   refine AW.cond rfl rfl rfl (fun hc => ?_) (fun hc => ?_)
   ·
    have hc6 := hc; have hlt6 : i < p.2 := (by have := of_decide_eq_true hc6; omega); obtain ⟨x, hx⟩ := get_ex (LS := E) (i := i) (by omega); have hxg := hI.good x (List.mem_of_getElem? hx)
    refine AW.skip ?_
    (refine hK _ ?_; clear hK K; (skip))
    (refine AW.seq_k ?_; intro K hK)
    refine AW.block ?_
    (refine AW.seq_k ?_; intro K hK)
    refine AW.region ?_
    refine awP (op_move rfl rfl) ?_; (simp only [nA, ↓reduceIte])
    refine awP (op_assign rfl rfl) ?_; (simp only [nA])
    refine AWL.nil ?_
    (refine hK _ ?_; clear hK K; (skip))
    (refine AW.seq_k ?_; intro K hK)
    refine AW.region ?_
    refine awP (op_move rfl rfl) ?_; (simp only [nA, ↓reduceIte])
    refine awP (op_move rfl rfl) ?_; (simp only [nA, ↓reduceIte])
    refine awP (op_ia_ro i rfl (.inl rfl) rfl Tryd.underlying61 rfl (get_rec hx hlt6) (by exact sz43) (bl rfl)) ?_; (try simp only [nA, Nat.reduceBEq, Nat.reduceEqDiff, ↓reduceIte, Nat.reduceAdd, Nat.reduceSub])
    (refine awR (op_load_rop1 rfl rfl ag43) ?_); (try simp only [nA, Nat.reduceBEq, Nat.reduceEqDiff, ↓reduceIte, Nat.reduceAdd, Nat.reduceSub])
    refine awJ (op_call (b := false) rfl en20 (cD hxg) (RL.cons (by exact View.same rfl) (RL.nil)) rfl (fun h => by cases h) rfl rfl) ?_; (try simp only [nA, Nat.reduceBEq, Nat.reduceEqDiff, ↓reduceIte, Nat.reduceAdd, Nat.reduceSub])
    refine awP (op_move rfl rfl) ?_; (simp only [nA])
    refine awP (op_extract rfl rfl rfl) ?_; (try simp only [nA, Nat.reduceBEq, Nat.reduceEqDiff, ↓reduceIte, Nat.reduceAdd, Nat.reduceSub])
    refine awP (op_extract rfl rfl rfl) ?_; (try simp only [nA, Nat.reduceBEq, Nat.reduceEqDiff, ↓reduceIte, Nat.reduceAdd, Nat.reduceSub])
    refine awJ (op_alloc rfl ze35 rfl) ?_; (simp only [nA, Nat.reduceBEq, Nat.reduceEqDiff, ↓reduceIte])
    refine awJ (op_store rfl rfl rfl rfl rfl rfl sz35 rfl (bl rfl) rfl) ?_; (simp only [nA, Nat.reduceBEq, Nat.reduceEqDiff, ↓reduceIte])
    refine awP (op_assign rfl rfl) ?_; (simp only [nA, ↓reduceIte])
    refine AWL.nil ?_
    (refine hK _ ?_; clear hK K; (skip))
    (refine AW.seq_k ?_; intro K hK)
    refine AW.quiet mix (by kernel_rfl) ?_
    refine aqP (op_move rfl rfl) ?_; (simp only [nA])
    (refine aqP (op_neq rfl rfl rfl) ?_); (try simp only [nA, Nat.reduceBEq, Nat.reduceEqDiff, ↓reduceIte, Nat.reduceAdd, Nat.reduceSub])
    refine aqP (op_move rfl rfl) ?_; (simp only [nA])
    refine' aqOr' [_, _, _, _, _, _, _] [125,126,127,128,129,130,131] rfl rfl rfl rfl rfl rfl rfl rfl rfl rfl rfl rfl (fun hb => ?_) ?_; rotate_left
    ·
     (try simp only [hcS] at hb)
     (refine aqR (op_load_ptr rfl rfl rfl rfl ag35 sz35 (bl rfl) rfl) ?_); (try simp only [nA, Nat.reduceBEq, Nat.reduceEqDiff, ↓reduceIte, Nat.reduceAdd, Nat.reduceSub])
     refine aqP (op_move rfl rfl) ?_; (simp only [nA, ↓reduceIte])
     refine aqP (op_move rfl rfl) ?_; (simp only [nA, ↓reduceIte])
     refine aqP (op_ia_ro i rfl (.inl rfl) rfl Tryd.underlying42 rfl (get_av hx) (by exact sz35) (bl rfl)) ?_; (try simp only [nA, Nat.reduceBEq, Nat.reduceEqDiff, ↓reduceIte, Nat.reduceAdd, Nat.reduceSub])
     (refine aqR (op_load_rop rfl rfl ag35 sz35 (bl rfl) (by decide) rfl) ?_); (try simp only [nA, Nat.reduceBEq, Nat.reduceEqDiff, ↓reduceIte, Nat.reduceAdd, Nat.reduceSub])
     refine aqQ (op_callQ (b := true) rfl en18 (cS hxg) (RL.cons (by exact View.same rfl) (RL.cons (by exact View.same rfl) (RL.nil))) rfl) ?_; (try simp only [nA, Nat.reduceBEq, Nat.reduceEqDiff, ↓reduceIte, Nat.reduceAdd, Nat.reduceSub])
     refine aqP (op_not rfl rfl rfl) ?_; (try simp only [nA, Nat.reduceBEq, Nat.reduceEqDiff, ↓reduceIte, Nat.reduceAdd, Nat.reduceSub])
     (refine aqSeg rfl rfl rfl ?_; repeat (first | exact fun _ _ => rfl | refine upd_out rfl ?_))
    refine AQ.nil ?_
    (refine hK _ ?_; clear hK K; (skip))
    refine AW.cond rfl rfl rfl (fun hc => ?_) (fun hc => ?_)
    · (cases hc; done)
    have hc7 := hc
    refine AW.skip ?_
    (try simp only [thenE, inBlk, Nat.reduceEqDiff, ↓reduceIte])
    (refine hK _ ?_; clear hK K; (skip))
    refine AW.region ?_
    (refine awP (op_addi rfl rfl rfl (by omega)) ?_); (try simp only [nA, Nat.reduceBEq, Nat.reduceEqDiff, ↓reduceIte, Nat.reduceAdd, Nat.reduceSub])
    refine awP (op_move rfl rfl) ?_; (simp only [nA])
    refine AWL.gh (Gh.drop 5) ?_; (try simp only [nA, Nat.reduceBEq, Nat.reduceEqDiff, ↓reduceIte, Nat.reduceAdd, Nat.reduceSub])
    refine AWL.nil ?_
    refine ⟨(i + 1, _), by dsimp only; omega, by dsimp only; omega, ⟨rfl, rfl, rfl, rfl, rfl, rfl, rfl, rfl, by dsimp only; exact congrArg (fun z => AV.v (.int .i64 z)) (by omega), trivial⟩, (by rfl), (by rfl)⟩
   have hc6 := hc
   refine AW.exit ?_; (try simp only [thenE, inBlk, Nat.reduceEqDiff, ↓reduceIte])
   clear hK K
   (try simp only [thenE, inBlk, Nat.reduceEqDiff, ↓reduceIte])
   (refine hK _ ?_; clear hK K; (skip))
   refine AW.region ?_
   (refine awP (op_addi rfl rfl rfl (by omega)) ?_); (try simp only [nA, Nat.reduceBEq, Nat.reduceEqDiff, ↓reduceIte, Nat.reduceAdd, Nat.reduceSub])
   refine awP (op_move rfl rfl) ?_; (simp only [nA])
   refine AWL.gh (Gh.drop 4) ?_; (try simp only [nA, Nat.reduceBEq, Nat.reduceEqDiff, ↓reduceIte, Nat.reduceAdd, Nat.reduceSub])
   refine AWL.nil ?_
   refine ⟨(j + 1, _), by dsimp only; omega, by dsimp only; omega, ⟨rfl, rfl, rfl, rfl, by dsimp only; exact congrArg (fun z => AV.v (.int .i64 z)) (by omega), trivial⟩, (by rfl), (by rfl)⟩
  have hc4 := hc
  refine AW.exit ?_; (try simp only [thenE, inBlk, Nat.reduceEqDiff, ↓reduceIte])
  clear hK K
  (refine hK _ ?_; clear hK K; (skip))
  (refine AW.seq_k ?_; intro K hK)
  refine AW.region ?_
  refine awJ (OpQ.j (op_callQ (b := true) rfl en19 (C19) (RL.nil) rfl)) ?_; (try simp only [nA, Nat.reduceBEq, Nat.reduceEqDiff, ↓reduceIte, Nat.reduceAdd, Nat.reduceSub])
  refine awP (op_assign rfl rfl) ?_; (simp only [nA])
  refine AWL.nil ?_
  (refine hK _ ?_; clear hK K; (skip))
  skip
  refine AW.ret ?_; (try simp only [thenE, inBlk, Nat.reduceEqDiff, ↓reduceIte]); exact RQ.of0 rfl (.tmp (bl rfl) rfl rfl .nil)
end Go.Proofs.YtfmnaigedgmhoaaDoor
namespace Go.Proofs.YtfmnaigedgmhoaaDoor
open Go.RowKit Go.ChangeShapes Go.WideShapes
theorem gName : Tryd.prog.globalNamed "baggage/event.fields" = some 0 := by kernel_rfl
theorem gType : (Tryd.prog.globals[0]?).map (·.type) = some 79 := by kernel_rfl
def laidL : List (String × DataW Unit) := [("baggage/event.fields", Rows.laid_baggage_event_fields)]
theorem door_met (os : Os) (args : Array Value) : laidMetH Tryd.prog laidL ((World.doorLaid Tryd.prog 27 os).forCall (fun _ _ => 0) ⟨#[], args, []⟩).memory :=
  laidMetH_of_parts3 (fuel := 8) (laidMet_of_run' 8 (by kernel_rfl) (by kernel_rfl)) (by kernel_rfl) (by kernel_rfl)
def rowD (l : List Int) : DataW Unit := match l with
  | [] => .nil
  | _ => .slice (l.map fun n => .lit (.int .i64 n)) []
theorem rowD_cons {l : List Int} {xs ys : List (DataW Unit)} (h : rowD l = .slice xs ys) : xs = l.map fun n => .lit (.int .i64 n) := by
  cases l with
  | nil => simp [rowD] at h
  | cons a l => simp only [rowD, DataW.slice.injEq] at h; exact h.1.symm
theorem laid_rows : Rows.laid_baggage_event_fields = .agg (gRows.map rowD) := by rfl
theorem lits_inj : ∀ {a b : List Int}, (a.map fun n => (DataW.lit (.int .i64 n) : DataW Unit)) = b.map (fun n => DataW.lit (.int .i64 n)) → a = b
  | [], [], _ => rfl
  | [], _ :: _, h => by simp at h
  | _ :: _, [], h => by simp at h
  | a :: r, b :: s, h => by
    simp only [List.map_cons, List.cons.injEq, DataW.lit.injEq, Lit.int.injEq, true_and] at h
    rw [h.1, lits_inj h.2]
theorem rows_flat : ∀ l : List Int, (l.map fun n => [AV.v (.int .i64 n)]).flatten = l.map fun n => AV.v (.int .i64 n)
  | [] => rfl
  | a :: l => by simp only [List.map_cons, List.flatten_cons, rows_flat l, List.singleton_append]
theorem row_rep {enc : TypeId × Value → Unit} {w : World} {spare : Nat → Bool} {held : Bool} {fuel : Nat} {cs : List Value} {l : List Int} {ps : List MemPlace}
    (h : DataW.trod enc Tryd.prog w 0 spare held fuel 78 cs = some (rowD l, ps)) : ∃ u, cs = [u] ∧ Rep Tryd.prog (fun k => k < w.heap.size) w [] u (.ro (l.map fun n => [.v (.int .i64 n)])) := by
  rcases open_ints Tryd.underlying78 Tryd.underlying80 (by kernel_rfl) h with ⟨rfl, hx⟩ | ⟨a, len, cap, zs, rfl, _, hl, hm, hlen, hx, hc, _⟩
  · have hx := congrArg Prod.fst hx
    cases l with
    | nil => exact ⟨_, rfl, rep_ro_nil⟩
    | cons a l => simp [rowD] at hx
  have hx := congrArg Prod.fst hx
  have e := lits_inj (rowD_cons hx)
  subst e
  have hz : len ≤ zs.length := by rw [hlen]; split <;> omega
  refine ⟨_, rfl, ?_⟩
  have hlen' : ((zs.take len).map fun n => [AV.v (.int .i64 n)]).length = len := by rw [List.length_map, List.length_take]; omega
  have hrep : Rep Tryd.prog (fun k => k < w.heap.size) w [] (.slice (some a) ((zs.take len).map fun n => [AV.v (.int .i64 n)]).length cap) (.ro ((zs.take len).map fun n => [AV.v (.int .i64 n)])) := by
    refine Rep.ro (sz := 1) (us := (zs.take len).map fun n => .int .i64 n) (by rw [hlen']; exact hl) hm (fun e he => ?_) (fun hn => ?_) (by rw [rows_flat, List.length_map, List.length_map]) fun i u x hu hx' => ?_
    · obtain ⟨n, _, rfl⟩ := List.mem_map.1 he; rfl
    · have hget : ∀ j u, ((zs.take len).map fun n => Value.int .i64 n)[j]? = some u → w.cell? (a.add j) = some u := fun j u hu => by
        rw [List.getElem?_map] at hu
        obtain ⟨n, h1, rfl⟩ := Option.map_eq_some_iff.1 hu
        have hj := (List.getElem?_eq_some_iff.1 h1).1
        rw [List.length_take] at hj
        have := hc j (by omega)
        rw [List.getElem?_take_of_lt (by omega)] at h1
        rw [this, List.getD_eq_getElem?_getD, h1]; rfl
      have h0 := hget 0 _ (List.getElem?_eq_getElem hn)
      obtain ⟨g, o, sp⟩ := a
      have : sp = none := by simpa [Addr.add] using World.cell?_spot h0
      subst this
      refine ⟨g, o, rfl, World.block_lt_of_cell? w _ h0, fun j u hu => ?_⟩
      have := hget j u hu
      rw [add_off] at this
      exact this
    rw [rows_flat, List.getElem?_map] at hx'
    rw [List.getElem?_map] at hu
    obtain ⟨n, h1, rfl⟩ := Option.map_eq_some_iff.1 hu
    rw [h1] at hx'
    simp only [Option.map_some, Option.some.injEq] at hx'
    subst hx'
    exact Rep.v rfl
  rw [hlen'] at hrep
  exact hrep
theorem glb_of_laid {W : World} (h : laidMetH Tryd.prog laidL W) : Glb Tryd.prog (fun k => k < W.heap.size) W := by
  rw [MakeChecks.laidMetH_plain _ _ _ (by kernel_rfl)] at h
  obtain ⟨ps, ⟨g0, t0, cs0, f0, p0, q0, hg0, ht0, hv0, hd0, _, _⟩, _, _⟩ := h
  obtain rfl := Option.some.inj (gName.symm.trans hg0)
  obtain rfl := Option.some.inj (gType.symm.trans ht0)
  rw [laid_rows] at hd0
  obtain ⟨xs, m1, rfl, hx1, hlen, hn3, hel⟩ := DataW.trod_array Tryd.underlying79 hd0
  have c78 : Tryd.prog.cellsOf 78 = 1 := by kernel_rfl
  have hxs : gRows.map rowD = xs.map (·.1) := by
    have := congrArg Prod.fst hx1
    simpa using this
  intro m l hm
  have hml : m < 15 := (List.getElem?_eq_some_iff.1 hm).1
  have h1 := hel m hml
  have hr : (gRows.map rowD)[m]? = some (rowD l) := by rw [List.getElem?_map, hm]; rfl
  rw [hxs, List.getElem?_map] at hr
  obtain ⟨⟨D, P⟩, h2, h3⟩ := Option.map_eq_some_iff.1 hr
  simp only at h3
  subst h3
  rw [h2, c78, Nat.mul_one] at h1
  obtain ⟨u, e, hrep⟩ := row_rep h1
  have hu : cs0.toList[m]? = some u := by
    have := congrArg (·[0]?) e
    simpa [List.getElem?_take, List.getElem?_drop] using this
  have hcell : W.cell? ⟨0, m, none⟩ = some u := by
    rw [World.var?_cell hg0 hv0 m, ← Array.getElem?_toList]; exact hu
  refine Rep.rop (us := [u]) (fun _ => ⟨0, m, rfl, World.block_lt_of_cell? W _ hcell, fun j v hj => ?_⟩) rfl fun i v x hv hx => ?_
  · cases j with
    | zero => simp at hj; subst hj; exact hcell
    | succ j => simp at hj
  cases i with
  | zero => simp at hv hx; subst hv; subst hx; exact hrep
  | succ i => simp at hv
end Go.Proofs.YtfmnaigedgmhoaaDoor
namespace Go.Proofs.YtfmnaigedgmhoaaDoor
open Go.RowKit
set_option linter.unusedSimpArgs false
set_option linter.unusedVariables false
set_option maxRecDepth 100000
abbrev decISh : Sh := .int .i64
theorem decI {x : AV} (h : Mt x decISh) : ∃ n : Int, x = .v (.int .i64 n) := h.i64
abbrev decIntSh : List Sh := [.int .i64]
theorem decInt {xs : List AV} (h : RL Mt xs decIntSh) : ∃ c : Int, xs = iv c := by
  obtain ⟨x0, xs, rfl, h0, h⟩ := h.cons_inv
  obtain rfl := h.nil_inv
  obtain ⟨v0, rfl⟩ := Mt.i64 h0
  exact ⟨v0, rfl⟩
abbrev decIntsSh : Sh := .sl decIntSh
theorem decInts {x : AV} (h : Mt x decIntsSh) : ∃ l : List Int, x = .ro (l.map iv) := by
  obtain ⟨es, rfl⟩ := h.sl_
  obtain ⟨l, rfl⟩ := rows_of fun e he => decInt (h.rows e he)
  exact ⟨l, rfl⟩
abbrev decByteSh : List Sh := [.int .u8]
abbrev decBytesSh : Sh := .sl decByteSh
abbrev decOpSh : List Sh := [.int .i64, .int .i64, .int .i64, .int .i64, .int .i64, .int .i64, .int .i64, .int .i64, .int .i64, .int .i64]
abbrev decReportSh : List Sh := [.int .i64, .bool, .str]
abbrev decEvSh : List Sh := [.int .i64, .int .i64, .str, .int .i64, .int .i64, .int .i64, .int .i64, .int .i64, .bool, .sl decReportSh, .int .i64, .int .i64, .str, .int .i64, .str, .int .i64, .int .i64, .int .i64, .int .i64, .int .i64, .int .i64, .int .i64, .int .i64, .int .i64, .int .i64, .int .i64, .int .i64, .sl decOpSh, .str, .int .i64, .str, .int .i64]
end Go.Proofs.YtfmnaigedgmhoaaDoor
