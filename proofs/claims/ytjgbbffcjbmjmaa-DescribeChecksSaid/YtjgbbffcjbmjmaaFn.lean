import Derived.Test.YtjgbbffcjbmjmaaFm
import Derived.Test.YtjgbbffcjbmjmaaFh
namespace Go.Proofs.Ytjgbbffcjbmjmaa
open Go.RowKit
set_option linter.unusedSimpArgs false
set_option linter.unusedVariables false

def scD (x y : List Desc) (i k : Nat) : Int := scoreF (x.getD i default) (y.getD k default)
theorem range_set {α : Type} {f h : Nat → α} {n i : Nat} {v : α} (hv : v = h i) (hf : ∀ q, q < n → q ≠ i → f q = h q) : ((List.range n).map f).set i v = (List.range n).map h := by
  apply List.ext_getElem?
  intro q
  by_cases hq : q < n
  · rw [List.getElem?_set]
    by_cases hqi : i = q
    · subst hqi
      rw [if_pos rfl, if_pos (by simpa using hq), List.getElem?_map, List.getElem?_range hq, hv]
      rfl
    · rw [if_neg hqi, List.getElem?_map, List.getElem?_map, List.getElem?_range hq]
      simp [hf q hq fun h => hqi h.symm]
  · rw [List.getElem?_eq_none (by simp; omega), List.getElem?_eq_none (by simp; omega)]
theorem range_get {α : Type} {f : Nat → α} {n i : Nat} (h : i < n) : ((List.range n).map f)[i]? = some (f i) := by
  rw [List.getElem?_map, List.getElem?_range h]; rfl
theorem set_get {α : Type} {l : List α} {i : Nat} {v : α} (h : i < l.length) : (l.set i v)[i]? = some v := by
  rw [List.getElem?_set, if_pos rfl, if_pos h]
section
variable (x y : List Desc)
abbrev sqN : Nat := max x.length y.length
abbrev sqW : List (List Int) := sqF x.length y.length (scD x y)
def sqv (i k : Nat) : Int := if i < x.length ∧ k < y.length then scD x y i k else 0
def sqr (i k : Nat) : List Int := (List.range (sqN x y)).map fun q => if q < k then sqv x y i q else 0
def sqo (i : Nat) : List (List AV) := (List.range (sqN x y)).map fun q => if q < i then [.ro (((sqW x y).getD q default).map iv)] else [.v (.slice none 0 0)]
end
section
variable {x y : List Desc} {i k : Nat}
theorem sqo_len : (sqo x y i).length = sqN x y := by simp [sqo]
theorem sqr_len : (sqr x y i k).length = sqN x y := by simp [sqr]
theorem sqo_get (h : i < sqN x y) : (sqo x y i)[i]? = some [.v (.slice none 0 0)] := by
  unfold sqo
  rw [range_get h, if_neg (by omega)]
theorem sqs_get {v : List AV} (h : i < sqN x y) : ((sqo x y i).set i v)[i]? = some v := set_get (by rw [sqo_len]; exact h)
theorem sqo_set (h : i < sqN x y) : (sqo x y i).set i [.ro ((sqr x y i (sqN x y)).map iv)] = sqo x y (i + 1) := by
  unfold sqo
  refine range_set ?_ fun q hq hqi => ?_
  · rw [if_pos (by omega), sqF_row h]
    congr 2
    refine congrArg (List.map iv) ?_
    unfold sqr
    refine List.map_congr_left fun q hq => ?_
    rw [if_pos (List.mem_range.1 hq)]
    rfl
  · by_cases h1 : q < i
    · rw [if_pos h1, if_pos (by omega)]
    · rw [if_neg h1, if_neg (by omega)]
theorem sqr_zero : (sqr x y i 0).map iv = List.replicate (sqN x y) (iv 0) := by
  unfold sqr
  rw [List.map_map]
  apply List.ext_getElem?
  intro q
  by_cases hq : q < sqN x y
  · rw [range_get hq, List.getElem?_replicate, if_pos hq]
    rfl
  · rw [List.getElem?_eq_none (by simp; omega), List.getElem?_eq_none (by simp; omega)]
theorem sqr_get (h : k < sqN x y) : ((sqr x y i k).map iv)[k]? = some (iv 0) := by
  rw [List.getElem?_map, show (sqr x y i k)[k]? = some 0 by unfold sqr; rw [range_get h, if_neg (by omega)]]
  rfl
theorem sqr_set (h : k < sqN x y) {v : Int} (hv : sqv x y i k = v) : ((sqr x y i k).map iv).set k (iv v) = (sqr x y i (k + 1)).map iv := by
  subst hv
  unfold sqr
  rw [List.map_map, List.map_map]
  refine range_set ?_ fun q hq hqi => ?_
  · dsimp only [Function.comp]
    rw [if_pos (by omega)]
  · dsimp only [Function.comp]
    by_cases h1 : q < k
    · rw [if_pos h1, if_pos (by omega)]
    · rw [if_neg h1, if_neg (by omega)]
theorem sqr_skip (hv : sqv x y i k = 0) : sqr x y i k = sqr x y i (k + 1) := by
  unfold sqr
  refine List.map_congr_left fun q hq => ?_
  by_cases h1 : q < k
  · rw [if_pos h1, if_pos (by omega)]
  · rw [if_neg h1]
    by_cases h2 : q = k
    · subst h2
      rw [if_pos (by omega), hv]
    · rw [if_neg (by omega)]
theorem sqo_zero : List.replicate (sqN x y) [AV.v (.slice none 0 0)] = sqo x y 0 := by
  unfold sqo
  apply List.ext_getElem?
  intro q
  by_cases hq : q < sqN x y
  · rw [range_get hq, List.getElem?_replicate, if_pos hq]
    rfl
  · rw [List.getElem?_eq_none (by simp; omega), List.getElem?_eq_none (by simp; omega)]
theorem sqo_full : sqo x y (sqN x y) = (sqW x y).map fun r => [.ro (r.map iv)] := by
  unfold sqo
  apply List.ext_getElem?
  intro q
  by_cases hq : q < sqN x y
  · rw [range_get hq, if_pos hq, get_mapD (by rw [sqF_len]; exact hq)]
  · rw [List.getElem?_eq_none (by simp; omega), List.getElem?_eq_none (by rw [List.length_map, sqF_len]; exact Nat.not_lt.1 hq)]
theorem sqo_flat : ∀ r ∈ sqo x y i, ∀ c ∈ r, flatA c = true := fun r hr c hc => by
  unfold sqo at hr
  obtain ⟨q, _, rfl⟩ := List.mem_map.1 hr
  split at hc <;> · simp at hc; subst hc; rfl
theorem iv_flat (l : List Int) : ∀ r ∈ l.map iv, ∀ c ∈ r, flatA c = true := fun r hr c hc => by
  obtain ⟨p, _, rfl⟩ := List.mem_map.1 hr
  simp at hc; subst hc; rfl
end
theorem getD_mem {x : List Desc} {i : Nat} (h : i < x.length) : x.getD i default ∈ x := by
  rw [List.getD_eq_getElem?_getD, List.getElem?_eq_getElem h]
  exact List.getElem_mem _
theorem C39 {x y : List Desc} (hx : Szs x) (hy : Szs y) (hlx : x.length ≤ 1000) (hly : y.length ≤ 1000) : Fn Try.prog 39 [] [.ro (x.map Desc.av), .ro (y.map Desc.av)] [.ro ((sqW x y).map fun r => [.ro (r.map iv)])] [] := by
  refine Spec.body Try.func39 rfl Try.ntmps39 (by simp) rfl ?_; intro S0 own0 v0 w0
  (refine AW.seq_k ?_; intro K hK)
  refine AW.region ?_
  refine awP (op_assign rfl rfl) ?_
  refine AWL.nil ?_
  (refine hK _ ?_; clear hK K; (try simp only [nA, Nat.reduceBEq, Nat.reduceEqDiff, ↓reduceIte, Nat.reduceAdd, Nat.reduceSub]))
  (refine AW.seq_k ?_; intro K hK)
  refine AW.region ?_
  refine awP (op_move rfl rfl) ?_
  (first | refine awP (op_len_ro rfl rfl Try.underlying22 (by first | exact .inr (.inl ⟨_, rfl, rfl⟩) | exact .inl rfl | exact .inr (.inr (.inl ⟨_, rfl, rfl⟩)) | exact .inr (.inr (.inr ⟨rfl, rfl⟩)))) ?_ | refine awP (op_len_sl rfl rfl rfl Try.underlying22) ?_ | refine awP (op_len_str rfl rfl Try.underlying22) ?_)
  refine awP (op_move rfl rfl) ?_
  (first | refine awP (op_len_ro rfl rfl Try.underlying22 (by first | exact .inr (.inl ⟨_, rfl, rfl⟩) | exact .inl rfl | exact .inr (.inr (.inl ⟨_, rfl, rfl⟩)) | exact .inr (.inr (.inr ⟨rfl, rfl⟩)))) ?_ | refine awP (op_len_sl rfl rfl rfl Try.underlying22) ?_ | refine awP (op_len_str rfl rfl Try.underlying22) ?_)
  refine awP (op_max (r := (((max x.length y.length) : Nat) : Int)) rfl rfl rfl (by simp only [List.length_map]; split <;> omega)) ?_
  refine awP (op_assign rfl rfl) ?_
  refine AWL.nil ?_
  (refine hK _ ?_; clear hK K; (try simp only [nA, Nat.reduceBEq, Nat.reduceEqDiff, ↓reduceIte, Nat.reduceAdd, Nat.reduceSub]))
  (refine AW.seq_k ?_; intro K hK)
  refine AW.region ?_
  refine awP (op_move rfl rfl) ?_
  refine awJ (op_make rfl rfl rfl rfl rfl (Nat.le_refl _) Try.underlying67 ze23 (by omega) (by decide) rfl) ?_; (try simp only [nA, Nat.reduceBEq, Nat.reduceEqDiff, ↓reduceIte, Nat.reduceAdd, Nat.reduceSub])
  refine awP (op_assign rfl rfl) ?_
  refine AWL.nil ?_
  (refine hK _ ?_; clear hK K; (try simp only [nA, Nat.reduceBEq, Nat.reduceEqDiff, ↓reduceIte, Nat.reduceAdd, Nat.reduceSub]))
  (refine AW.seq_k ?_; intro K hK)
  (refine AW.seq_k ?_; intro K hK)
  refine AW.region ?_
  refine awP (op_move rfl rfl) ?_
  (first | refine awP (op_len_ro rfl rfl Try.underlying67 (by first | exact .inr (.inl ⟨_, rfl, rfl⟩) | exact .inl rfl | exact .inr (.inr (.inl ⟨_, rfl, rfl⟩)) | exact .inr (.inr (.inr ⟨rfl, rfl⟩)))) ?_ | refine awP (op_len_sl rfl rfl rfl Try.underlying67) ?_ | refine awP (op_len_str rfl rfl Try.underlying67) ?_)
  refine awP (op_move rfl rfl) ?_
  refine AWL.nil ?_
  (refine hK _ ?_; clear hK K; (try simp only [nA, Nat.reduceBEq, Nat.reduceEqDiff, ↓reduceIte, Nat.reduceAdd, Nat.reduceSub]))
  refine AW.block ?_
  have hN : sqN x y = max x.length y.length := rfl; refine AW.loopI (fun (q : Nat × Nat × Nat) => [(0, .ro (x.map Desc.av)), (1, .ro (y.map Desc.av)), (5, (.v (.int .i64 (((max x.length y.length) : Nat) : Int)))), (6, .sl 0 q.2.1 0 (max x.length y.length)), (17, (.v (.int .i64 (((max x.length y.length) : Nat) : Int)))), (18, .v (.int .i64 (q.1 : Nat)))]) (fun q => ⟨[(q.2.1, .own 23 (sqo x y q.1))], q.2.2⟩) (fun q => q.1 ≤ (max x.length y.length)) (fun q => (max x.length y.length) - q.1) (0, _, _) (by simp) ⟨rfl, rfl, rfl, rfl, rfl, rfl, trivial⟩ (by rw [← sqo_zero]; rfl) ?_; rintro ⟨i, k1, e⟩ ρ hi; simp only at hi; simp only [updL]; (try simp only [nA, Nat.reduceBEq, Nat.reduceEqDiff, ↓reduceIte, Nat.reduceAdd, Nat.reduceSub])
  (refine AW.seq_k ?_; intro K hK)
  refine AW.region ?_
  refine awP (op_lss rfl rfl rfl) ?_
  refine AWL.nil ?_
  (refine hK _ ?_; clear hK K; (try simp only [nA, Nat.reduceBEq, Nat.reduceEqDiff, ↓reduceIte, Nat.reduceAdd, Nat.reduceSub]))
  (refine AW.seq_k ?_; intro K hK)
  refine AW.cond rfl rfl rfl (fun hc => ?_) (fun hc => ?_)
  ·
   (try simp only [hcS] at hc); have hc1 := hc; skip
   refine AW.skip ?_
   (refine hK _ ?_; clear hK K; (try simp only [nA, Nat.reduceBEq, Nat.reduceEqDiff, ↓reduceIte, Nat.reduceAdd, Nat.reduceSub]))
   (refine AW.seq_k ?_; intro K hK)
   refine AW.block ?_
   (refine AW.seq_k ?_; intro K hK)
   refine AW.region ?_
   refine awP (op_move rfl rfl) ?_
   refine awP (op_assign rfl rfl) ?_
   refine AWL.nil ?_
   (refine hK _ ?_; clear hK K; (try simp only [nA, Nat.reduceBEq, Nat.reduceEqDiff, ↓reduceIte, Nat.reduceAdd, Nat.reduceSub]))
   (refine AW.seq_k ?_; intro K hK)
   refine AW.region ?_
   refine awP (op_move rfl rfl) ?_
   refine awP (op_move rfl rfl) ?_
   refine awP (op_move rfl rfl) ?_
   refine awX (OpJ.nmS (op_make rfl rfl rfl rfl rfl (Nat.le_refl _) Try.underlying23 ze3 (by omega) (by decide) rfl) rfl (by simp)) ?_; rintro _ _ ⟨u, hu, rfl, rfl⟩; obtain ⟨g, c, rfl⟩ := hu (by omega); (try simp only [nA, Nat.reduceBEq, Nat.reduceEqDiff, ↓reduceIte, Nat.reduceAdd, Nat.reduceSub])
   refine awP (op_ia_sl i 1 rfl rfl rfl rfl Try.underlying67 rfl (by omega) (by exact sz23) (Nat.zero_add i)) ?_
   refine awJ (op_store rfl rfl rfl rfl (sqo_get (x := x) (y := y) (i := i) (by omega)) rfl sz23 rfl (Nat.le_of_ble_eq_true rfl) (es' := (sqo x y i).set i [.v (slv g (max x.length y.length) c)]) (by rfl)) ?_; (try simp only [nA, Nat.reduceBEq, Nat.reduceEqDiff, ↓reduceIte, Nat.reduceAdd, Nat.reduceSub])
   refine AWL.nil ?_
   (refine hK _ ?_; clear hK K; (try simp only [nA, Nat.reduceBEq, Nat.reduceEqDiff, ↓reduceIte, Nat.reduceAdd, Nat.reduceSub]))
   (refine AW.seq_k ?_; intro K hK)
   refine AW.region ?_
   refine awP (op_move rfl rfl) ?_
   refine awP (op_move rfl rfl) ?_
   refine awP (op_ia_sl i 1 rfl rfl rfl rfl Try.underlying67 rfl (by omega) (by exact sz23) (Nat.zero_add i)) ?_
   (first | refine awR (op_load_ptr1  rfl rfl rfl (sqs_get (x := x) (y := y) (i := i) (by omega)) ag23 rfl rfl) ?_ | refine awR (op_load_rop1 rfl rfl ag23) ?_)
   refine awP (op_len_v rfl rfl Try.underlying23) ?_
   refine awP (op_move rfl rfl) ?_
   refine AWL.nil ?_
   (refine hK _ ?_; clear hK K; (try simp only [nA, Nat.reduceBEq, Nat.reduceEqDiff, ↓reduceIte, Nat.reduceAdd, Nat.reduceSub]))
   refine AW.block ?_
   refine AW.loopI (fun (q : Nat × Nat × Nat) => [(0, .ro (x.map Desc.av)), (1, .ro (y.map Desc.av)), (5, (.v (.int .i64 (((max x.length y.length) : Nat) : Int)))), (6, .sl 0 k1 0 (max x.length y.length)), (17, (.v (.int .i64 (((max x.length y.length) : Nat) : Int)))), (18, .v (.int .i64 (i : Nat))), (7, .v (.int .i64 (i : Nat))), (30, (.v (.int .i64 (((max x.length y.length) : Nat) : Int)))), (31, .v (.int .i64 (q.1 : Nat)))]) (fun q => ⟨[(k1, .own 23 ((sqo x y i).set i [.v (slv g (max x.length y.length) c)])), (q.2.1, .nm (slv g (max x.length y.length) c) 3 ((sqr x y i q.1).map iv))], q.2.2⟩) (fun q => q.1 ≤ (max x.length y.length)) (fun q => (max x.length y.length) - q.1) (0, _, _) (by simp) ⟨rfl, rfl, rfl, rfl, rfl, rfl, rfl, rfl, rfl, trivial⟩ (by rw [sqr_zero]; rfl) ?_; rintro ⟨k, k2, e⟩ ρ hk; simp only at hk; simp only [updL]; (try simp only [nA, Nat.reduceBEq, Nat.reduceEqDiff, ↓reduceIte, Nat.reduceAdd, Nat.reduceSub])
   (refine AW.seq_k ?_; intro K hK)
   refine AW.region ?_
   refine awP (op_lss rfl rfl rfl) ?_
   refine AWL.nil ?_
   (refine hK _ ?_; clear hK K; (try simp only [nA, Nat.reduceBEq, Nat.reduceEqDiff, ↓reduceIte, Nat.reduceAdd, Nat.reduceSub]))
   (refine AW.seq_k ?_; intro K hK)
   refine AW.cond rfl rfl rfl (fun hc => ?_) (fun hc => ?_)
   ·
    (try simp only [hcS] at hc); have hc2 := hc; skip
    refine AW.skip ?_
    (refine hK _ ?_; clear hK K; (try simp only [nA, Nat.reduceBEq, Nat.reduceEqDiff, ↓reduceIte, Nat.reduceAdd, Nat.reduceSub]))
    (refine AW.seq_k ?_; intro K hK)
    refine AW.block ?_
    (refine AW.seq_k ?_; intro K hK)
    refine AW.region ?_
    refine awP (op_move rfl rfl) ?_
    refine awP (op_assign rfl rfl) ?_
    refine AWL.nil ?_
    (refine hK _ ?_; clear hK K; (try simp only [nA, Nat.reduceBEq, Nat.reduceEqDiff, ↓reduceIte, Nat.reduceAdd, Nat.reduceSub]))
    (refine AW.seq_k ?_; intro K hK)
    refine AW.region (AWL.quiet ?_)
    refine aqP (op_move rfl rfl) ?_
    refine aqP (op_move rfl rfl) ?_
    (first | refine aqP (op_len_ro rfl rfl Try.underlying22 (by first | exact .inr (.inl ⟨_, rfl, rfl⟩) | exact .inl rfl | exact .inr (.inr (.inl ⟨_, rfl, rfl⟩)) | exact .inr (.inr (.inr ⟨rfl, rfl⟩)))) ?_ | refine aqP (op_len_sl rfl rfl rfl Try.underlying22) ?_ | refine aqP (op_len_str rfl rfl Try.underlying22) ?_)
    refine aqP (op_lss rfl rfl rfl) ?_
    refine aqP (op_move rfl rfl) ?_
    refine' aqAnd' [_, _, _, _] [39,40,41,42] rfl rfl rfl rfl rfl rfl rfl rfl rfl rfl rfl rfl (fun hb => ?_) ?_; rotate_left
    ·
     (try simp only [hcS] at hb)
     refine aqP (op_move rfl rfl) ?_
     refine aqP (op_move rfl rfl) ?_
     (first | refine aqP (op_len_ro rfl rfl Try.underlying22 (by first | exact .inr (.inl ⟨_, rfl, rfl⟩) | exact .inl rfl | exact .inr (.inr (.inl ⟨_, rfl, rfl⟩)) | exact .inr (.inr (.inr ⟨rfl, rfl⟩)))) ?_ | refine aqP (op_len_sl rfl rfl rfl Try.underlying22) ?_ | refine aqP (op_len_str rfl rfl Try.underlying22) ?_)
     refine aqP (op_lss rfl rfl rfl) ?_
     (refine aqSeg rfl rfl rfl ?_; repeat (first | exact fun _ _ => rfl | refine upd_out rfl ?_ | refine era_out rfl ?_))
    (try simp only [nA, Nat.reduceBEq, Nat.reduceEqDiff, ↓reduceIte, Nat.reduceAdd, Nat.reduceSub])
    refine AQ.nil ?_
    (refine hK _ ?_; clear hK K; (try simp only [nA, Nat.reduceBEq, Nat.reduceEqDiff, ↓reduceIte, Nat.reduceAdd, Nat.reduceSub]))
    refine AW.cond rfl rfl rfl (fun hc => ?_) (fun hc => ?_)
    ·
     (try simp only [hcS] at hc); have hc3 := hc; skip
     refine AW.quiet_tail 15 mix (by kernel_rfl) rfl rfl ?_
     refine aqP (op_move rfl rfl) ?_
     refine aqP (op_move rfl rfl) ?_
     refine aqP (op_ia_sl i 1 rfl rfl rfl rfl Try.underlying67 rfl (by omega) (by exact sz23) (Nat.zero_add i)) ?_
     (first | refine aqR (op_load_ptr1  rfl rfl rfl (sqs_get (x := x) (y := y) (i := i) (by omega)) ag23 rfl rfl) ?_ | refine aqR (op_load_rop1 rfl rfl ag23) ?_)
     refine aqP (op_move rfl rfl) ?_
     refine aqP (op_move rfl rfl) ?_
     refine aqP (op_move rfl rfl) ?_
     (first | refine aqP (op_ia_ro i rfl (.inl rfl) rfl Try.underlying22 rfl (get_mapD (by omega)) (by exact sz30) (Nat.le_of_ble_eq_true rfl)) ?_ | refine aqP (op_ia_sl _ _ rfl rfl rfl rfl Try.underlying22 rfl (by omega) (by exact sz30) rfl) ?_)
     (first | refine aqR (op_load_ptr rfl rfl rfl rfl ag30 sz30 (Nat.le_of_ble_eq_true rfl) rfl) ?_ | refine aqR (op_load_rop rfl rfl ag30 sz30 (Nat.le_of_ble_eq_true rfl) (by decide) rfl) ?_)
     refine aqP (op_move rfl rfl) ?_
     refine aqP (op_move rfl rfl) ?_
     (first | refine aqP (op_ia_ro k rfl (.inl rfl) rfl Try.underlying22 rfl (get_mapD (by omega)) (by exact sz30) (Nat.le_of_ble_eq_true rfl)) ?_ | refine aqP (op_ia_sl _ _ rfl rfl rfl rfl Try.underlying22 rfl (by omega) (by exact sz30) rfl) ?_)
     (first | refine aqR (op_load_ptr rfl rfl rfl rfl ag30 sz30 (Nat.le_of_ble_eq_true rfl) rfl) ?_ | refine aqR (op_load_rop rfl rfl ag30 sz30 (Nat.le_of_ble_eq_true rfl) (by decide) rfl) ?_)
     refine aqQ (op_callQ (b := true) rfl en18 (C18 (a := x.getD i default) (b := y.getD k default) (hx _ (getD_mem (by omega))) (hy _ (getD_mem (by omega)))) (RL.cons (by first | exact View.same rfl | exact View.nil | exact View.rof | exact View.src .ro | exact View.src .rof | exact View.src (.sl rfl rfl) | exact View.ptr rfl rfl rfl) (RL.cons (by first | exact View.same rfl | exact View.nil | exact View.rof | exact View.src .ro | exact View.src .rof | exact View.src (.sl rfl rfl) | exact View.ptr rfl rfl rfl) (RL.nil))) rfl) ?_; (try simp only [nA, Nat.reduceBEq, Nat.reduceEqDiff, ↓reduceIte, Nat.reduceAdd, Nat.reduceSub])
     refine aqP (op_ia_v k 1 rfl rfl rfl Try.underlying23 rfl (by omega) sz3 rfl) ?_
     refine AQ.nil ?_
     refine awJ (op_store_v 1 k2 k 0 rfl rfl rfl rfl (sqr_get (x := x) (y := y) (i := i) (by omega)) rfl sz3 rfl sz3 rfl (Nat.le_of_ble_eq_true rfl) (sqr_set (x := x) (y := y) (i := i) (by omega) (by unfold sqv; rw [if_pos (by omega)]; rfl)) rfl) ?_; (try simp only [nA, Nat.reduceBEq, Nat.reduceEqDiff, ↓reduceIte, Nat.reduceAdd, Nat.reduceSub])
     refine AWL.nil ?_
     (try simp only [thenE, inBlk, Nat.reduceEqDiff, ↓reduceIte])
     (refine hK _ ?_; clear hK K; (try simp only [nA, Nat.reduceBEq, Nat.reduceEqDiff, ↓reduceIte, Nat.reduceAdd, Nat.reduceSub]))
     refine AW.region ?_
     (first | refine awP (op_addi rfl rfl rfl (by omega)) ?_ | refine awP (op_add rfl rfl rfl rfl) ?_)
     refine awP (op_move rfl rfl) ?_
     skip
     refine AWL.nil ?_
     refine ⟨(k + 1, _, _), by dsimp only; omega, by dsimp only; omega, ⟨rfl, rfl, rfl, rfl, rfl, rfl, rfl, rfl, rfl, trivial⟩, rfl, (by first | rfl | trivial)⟩
    ·
     (try simp only [hcS] at hc); have hc3 := hc; skip
     refine AW.skip ?_
     (try simp only [thenE, inBlk, Nat.reduceEqDiff, ↓reduceIte])
     (refine hK _ ?_; clear hK K; (try simp only [nA, Nat.reduceBEq, Nat.reduceEqDiff, ↓reduceIte, Nat.reduceAdd, Nat.reduceSub]))
     refine AW.region ?_
     (first | refine awP (op_addi rfl rfl rfl (by omega)) ?_ | refine awP (op_add rfl rfl rfl rfl) ?_)
     refine awP (op_move rfl rfl) ?_
     refine AWL.nil ?_
     refine ⟨(k + 1, _, _), by dsimp only; omega, by dsimp only; omega, ⟨rfl, rfl, rfl, rfl, rfl, rfl, rfl, rfl, rfl, trivial⟩, (by dsimp only; rw [← sqr_skip (by unfold sqv; rw [if_neg (by omega)])]), (by first | rfl | trivial)⟩
   ·
    (try simp only [hcS] at hc); have hc2 := hc; skip
    refine AW.exit ?_; (try simp only [thenE, inBlk, Nat.reduceEqDiff, ↓reduceIte])
    clear hK K
    (try simp only [thenE, inBlk, Nat.reduceEqDiff, ↓reduceIte])
    (refine hK _ ?_; clear hK K; (try simp only [nA, Nat.reduceBEq, Nat.reduceEqDiff, ↓reduceIte, Nat.reduceAdd, Nat.reduceSub]))
    refine AW.region ?_
    (first | refine awP (op_addi rfl rfl rfl (by omega)) ?_ | refine awP (op_add rfl rfl rfl rfl) ?_)
    refine awP (op_move rfl rfl) ?_
    obtain rfl : k = (max x.length y.length) := (by omega); refine AWL.gh (Gh.nest (r := 0) (q := 1) i 0 rfl (sqs_get (x := x) (y := y) (i := i) (by omega)) rfl rfl (by decide) (es2 := (sqo x y i).set i [.own 3 ((sqr x y i (max x.length y.length)).map iv)]) (by rw [List.set_set]; rfl)) ?_; (try simp only [nA, Nat.reduceBEq, Nat.reduceEqDiff, ↓reduceIte, Nat.reduceAdd, Nat.reduceSub]); refine AWL.gh (Gh.freezeC (r := 0) (e' := 3) (es' := (sqr x y i (max x.length y.length)).map iv) i 0 rfl (sqs_get (x := x) (y := y) (i := i) (v := [.own 3 ((sqr x y i (max x.length y.length)).map iv)]) (by omega)) rfl (iv_flat _) (es2 := sqo x y (i + 1)) (by rw [List.set_set]; exact sqo_set (x := x) (y := y) (i := i) (by omega))) ?_; (try simp only [nA, Nat.reduceBEq, Nat.reduceEqDiff, ↓reduceIte, Nat.reduceAdd, Nat.reduceSub]); refine AWL.gh (Gh.drop 1) ?_; (try simp only [nA, Nat.reduceBEq, Nat.reduceEqDiff, ↓reduceIte, Nat.reduceAdd, Nat.reduceSub])
    refine AWL.nil ?_
    refine ⟨(i + 1, _, _), by dsimp only; omega, by dsimp only; omega, ⟨rfl, rfl, rfl, rfl, rfl, rfl, trivial⟩, rfl, (by first | rfl | trivial)⟩
  ·
   (try simp only [hcS] at hc); have hc1 := hc; skip
   refine AW.exit ?_; (try simp only [thenE, inBlk, Nat.reduceEqDiff, ↓reduceIte])
   clear hK K
   (refine hK _ ?_; clear hK K; (try simp only [nA, Nat.reduceBEq, Nat.reduceEqDiff, ↓reduceIte, Nat.reduceAdd, Nat.reduceSub]))
   (refine AW.seq_k ?_; intro K hK)
   refine AW.region ?_
   refine awP (op_move rfl rfl) ?_
   refine awP (op_assign rfl rfl) ?_
   refine AWL.nil ?_
   (refine hK _ ?_; clear hK K; (try simp only [nA, Nat.reduceBEq, Nat.reduceEqDiff, ↓reduceIte, Nat.reduceAdd, Nat.reduceSub]))
   obtain rfl : i = (max x.length y.length) := (by omega); refine AW.gh (Gh.freeze 4 (Nat.le_of_ble_eq_true rfl) rfl rfl sqo_flat (es' := (sqW x y).map fun r => [.ro (r.map iv)]) (by rw [List.take_of_length_le (by rw [sqo_len]; exact Nat.le_refl _)]; exact sqo_full)) ?_; (try simp only [nA, Nat.reduceBEq, Nat.reduceEqDiff, ↓reduceIte, Nat.reduceAdd, Nat.reduceSub])
   refine AW.ret ?_; (try simp only [thenE, inBlk, Nat.reduceEqDiff, ↓reduceIte]); exact RQ.of0 rfl (.tmp (Nat.le_of_ble_eq_true rfl) rfl rfl .nil)
end Go.Proofs.Ytjgbbffcjbmjmaa
