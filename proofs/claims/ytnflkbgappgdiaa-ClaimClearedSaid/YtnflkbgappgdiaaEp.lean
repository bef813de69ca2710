import Derived.Test.YtnflkbgappgdiaaEo
namespace Go.Proofs.Ytnflkbgappgdiaa
open Go.RowKit
set_option linter.unusedSimpArgs false
set_option linter.unusedVariables false

def z0 : Pr := ⟨⟨#[]⟩, 0⟩
def shS (n W : Int) (xs : List Pr) (i : Nat) : List Pr := baseL n W (xs.take i) ++ List.replicate (xs.length - i) z0
def ordI (m i : Nat) : List (List AV) := (List.range m).map fun j => [.v (.int .i64 ((if j < i then j else 0 : Nat) : Int))]
theorem shS_len (n W : Int) (xs : List Pr) (i : Nat) (h : i ≤ xs.length) : (shS n W xs i).length = xs.length := by simp [shS, baseL]; omega
theorem shS_0 (n W : Int) (xs : List Pr) : (shS n W xs 0).map Pr.av = List.replicate xs.length (Pr.av z0) := by simp [shS, baseL]
theorem shS_end (n W : Int) (xs : List Pr) : shS n W xs xs.length = baseL n W xs := by simp [shS]
theorem shS_get {n W : Int} {xs : List Pr} {i : Nat} (h : i < xs.length) : ((shS n W xs i).map Pr.av)[i]? = some (Pr.av z0) := by
  unfold shS baseL
  rw [List.getElem?_map, List.getElem?_append_right (by simp; omega), List.getElem?_replicate, if_pos (by simp; omega)]
  rfl
theorem shS_got {n W : Int} {xs : List Pr} {i : Nat} {q : Pr} (h : xs[i]? = some q) : ((shS n W xs (i + 1)).map Pr.av)[i]? = some (Pr.av (quoP n W q)) := by
  have hi := (List.getElem?_eq_some_iff.1 h).1
  unfold shS
  rw [List.getElem?_map, base_take h, List.append_assoc, List.getElem?_append_right (by simp [baseL]; omega)]
  simp [baseL, Nat.min_eq_left (Nat.le_of_lt hi)]
theorem shS_set {n W : Int} {xs : List Pr} {i : Nat} {q : Pr} (h : xs[i]? = some q) : ((shS n W xs i).map Pr.av).set i (splice (Pr.av z0) 0 (Pr.av (quoP n W q))) = (shS n W xs (i + 1)).map Pr.av := by
  have hi := (List.getElem?_eq_some_iff.1 h).1
  have hl : (baseL n W (xs.take i)).length = i := by simp [baseL]; omega
  show ((shS n W xs i).map Pr.av).set i (Pr.av (quoP n W q)) = _
  rw [← List.map_set]
  congr 1
  unfold shS
  rw [base_take h, List.append_assoc, List.set_append_right _ _ (by omega), hl, Nat.sub_self, show xs.length - i = (xs.length - (i + 1)) + 1 by omega, List.replicate_succ]
  rfl
theorem ordI_len (m i : Nat) : (ordI m i).length = m := by simp [ordI]
theorem ordI_0 (m : Nat) : ordI m 0 = List.replicate m [.v (.int .i64 0)] := by
  unfold ordI
  apply List.ext_getElem (by simp)
  intro t h1 h2
  simp
theorem ordI_g (m i t : Nat) : (ordI m i)[t]? = if t < m then some [.v (.int .i64 ((if t < i then t else 0 : Nat) : Int))] else none := by
  unfold ordI
  rw [List.getElem?_map]
  by_cases h : t < m
  · rw [List.getElem?_range h, if_pos h]; rfl
  · rw [List.getElem?_eq_none (by simpa using h), if_neg h]; rfl
theorem ordI_get {m i : Nat} (h : i < m) : (ordI m i)[i]? = some [.v (.int .i64 0)] := by
  rw [ordI_g, if_pos h, if_neg (by omega)]
  rfl
theorem ordI_set {m i : Nat} (h : i < m) : (ordI m i).set i (splice [.v (.int .i64 0)] 0 [.v (.int .i64 ((i : Nat) : Int))]) = ordI m (i + 1) := by
  show (ordI m i).set i [.v (.int .i64 ((i : Nat) : Int))] = _
  apply List.ext_getElem?
  intro t
  rw [List.getElem?_set, ordI_g, ordI_g, ordI_len]
  by_cases he : i = t
  · subst he; rw [if_pos rfl, if_pos h, if_pos h, if_pos (by omega)]
  · rw [if_neg he]
    by_cases h3 : t < i
    · rw [if_pos h3, if_pos (by omega : t < i + 1)]
    · rw [if_neg h3, if_neg (by omega : ¬ t < i + 1)]
theorem ordI_end {m k : Nat} (h : m = k + 1) : ordI m m = (finL k).map (rowE encF) := by
  subst h
  apply List.ext_getElem?
  intro t
  rw [ordI_g, List.getElem?_map]
  by_cases ht : t < k + 1
  · rw [if_pos ht, if_pos ht, List.getElem?_eq_getElem (by rw [finL_len]; exact ht)]
    unfold finL
    rw [List.getElem_finRange]
    rfl
  · rw [if_neg ht, List.getElem?_eq_none (by rw [finL_len]; omega)]
    rfl
def psJ (k : Nat) (base : List Pr) (O : List (Fin (k + 1))) (j : Nat) : List Pr := (O.take j).foldl (fun ps x => bumpAt ps x.val) base
theorem psJ_len {k : Nat} (O : List (Fin (k + 1))) : ∀ (base : List Pr), (O.foldl (fun ps x => bumpAt ps x.val) base).length = base.length := by
  induction O with
  | nil => intro base; rfl
  | cons x O ih => intro base; rw [List.foldl_cons, ih, bump_len]
theorem sort_len {k : Nat} (lt : Fin (k + 1) → Fin (k + 1) → Bool) : (sortN lt (finL k)).length = k + 1 := by
  unfold sortN
  split
  · exact finL_len
  · rw [Array.length_toList, size_insSort]; simpa using finL_len (k := k)
theorem psJ_s {k : Nat} {base : List Pr} {O : List (Fin (k + 1))} {j : Nat} {o : Fin (k + 1)} (h : O[j]? = some o) : psJ k base O (j + 1) = bumpAt (psJ k base O j) o.val := by
  unfold psJ
  rw [List.take_add_one, h, List.foldl_append]
  rfl

theorem C14 {n : Int} {xs : List Pr} : Fn Try.prog 14 [] [.v (.int .i64 n), .ro (xs.map Pr.av)] [.ro ((sharesV n xs).1.map Pr.av), .v (.int .i64 (sharesV n xs).2)] [] := by
  refine Spec.small 1 rfl fun hx => ?_
  rw [List.length_map] at hx
  refine Spec.body Try.func14 rfl Try.ntmps14 (by simp) rfl ?_; intro S0 own0 v0 w0
  (refine AW.seq_k ?_; intro K hK)
  refine AW.region ?_
  refine awJ (OpJ.frzP (row := [.v (.int .i64 n)]) (op_box rfl rfl rfl sz3 rfl) (by simp [flatA])) ?_; (try simp only [nA, Nat.reduceBEq, Nat.reduceEqDiff, ↓reduceIte, Nat.reduceAdd, Nat.reduceSub])
  refine awJ (OpJ.frzP (row := [.ro (xs.map Pr.av)]) (op_box rfl rfl rfl sz22 rfl) (by simp [flatA])) ?_; (try simp only [nA, Nat.reduceBEq, Nat.reduceEqDiff, ↓reduceIte, Nat.reduceAdd, Nat.reduceSub])
  refine awP (op_assign rfl rfl) ?_; (try simp only [nA, Nat.reduceBEq, Nat.reduceEqDiff, ↓reduceIte, Nat.reduceAdd, Nat.reduceSub])
  refine awP (op_assign rfl rfl) ?_; (try simp only [nA, Nat.reduceBEq, Nat.reduceEqDiff, ↓reduceIte, Nat.reduceAdd, Nat.reduceSub])
  refine AWL.nil ?_
  (refine hK _ ?_; clear hK K; (try simp only [nA, Nat.reduceBEq, Nat.reduceEqDiff, ↓reduceIte, Nat.reduceAdd, Nat.reduceSub]))
  (refine AW.seq_k ?_; intro K hK)
  (refine AW.seq_k ?_; intro K hK)
  refine AW.region ?_
  (first | refine awR (op_load_ptr1  rfl rfl rfl rfl ag3 rfl rfl) ?_ | refine awR (op_load_rop1 rfl rfl ag3) ?_); (try simp only [nA, Nat.reduceBEq, Nat.reduceEqDiff, ↓reduceIte, Nat.reduceAdd, Nat.reduceSub])
  refine awJ (OpQ.j (op_callQ (b := true) rfl en32 (C32) (RL.cons (by first | exact View.same rfl | exact View.nil | exact View.rof | exact View.src .ro | exact View.src .rof | exact View.src (.sl rfl rfl) | exact View.ptr rfl rfl rfl) (RL.cons (by first | exact View.same rfl | exact View.nil | exact View.rof | exact View.src .ro | exact View.src .rof | exact View.src (.sl rfl rfl) | exact View.ptr rfl rfl rfl) (RL.cons (by first | exact View.same rfl | exact View.nil | exact View.rof | exact View.src .ro | exact View.src .rof | exact View.src (.sl rfl rfl) | exact View.ptr rfl rfl rfl) (RL.nil)))) rfl)) ?_; (try simp only [nA, Nat.reduceBEq, Nat.reduceEqDiff, ↓reduceIte, Nat.reduceAdd, Nat.reduceSub])
  refine awP (op_not rfl rfl rfl) ?_; (try simp only [nA, Nat.reduceBEq, Nat.reduceEqDiff, ↓reduceIte, Nat.reduceAdd, Nat.reduceSub])
  refine AWL.nil ?_
  (refine hK _ ?_; clear hK K; (try simp only [nA, Nat.reduceBEq, Nat.reduceEqDiff, ↓reduceIte, Nat.reduceAdd, Nat.reduceSub]))
  refine AW.cond rfl rfl rfl (fun hc => ?_) (fun hc => ?_)
  ·
   (try simp only [hcS] at hc); have hc1 := hc; skip
   (refine AW.seq_k ?_; intro K hK)
   refine AW.region ?_
   refine awP (op_assign rfl rfl) ?_; (try simp only [nA, Nat.reduceBEq, Nat.reduceEqDiff, ↓reduceIte, Nat.reduceAdd, Nat.reduceSub])
   refine awP (op_assign rfl rfl) ?_; (try simp only [nA, Nat.reduceBEq, Nat.reduceEqDiff, ↓reduceIte, Nat.reduceAdd, Nat.reduceSub])
   refine AWL.nil ?_
   (refine hK _ ?_; clear hK K; (try simp only [nA, Nat.reduceBEq, Nat.reduceEqDiff, ↓reduceIte, Nat.reduceAdd, Nat.reduceSub]))
   refine AW.gh (Gh.nil (e := 43) 4 (Nat.le_of_ble_eq_true rfl) rfl sz43) ?_; (try simp only [nA, Nat.reduceBEq, Nat.reduceEqDiff, ↓reduceIte, Nat.reduceAdd, Nat.reduceSub]); refine AW.gh (Gh.freeze 4 (Nat.le_of_ble_eq_true rfl) rfl rfl (by simp) (es' := ([] : List Pr).map Pr.av) rfl) ?_; (try simp only [nA, Nat.reduceBEq, Nat.reduceEqDiff, ↓reduceIte, Nat.reduceAdd, Nat.reduceSub])
   refine AW.ret ?_; (try simp only [thenE, inBlk, Nat.reduceEqDiff, ↓reduceIte]); rw [show sharesV n xs = ([], 1) by unfold sharesV; rw [if_pos (by simpa using hc1)]]; exact RQ.of0 rfl (.tmp (Nat.le_of_ble_eq_true rfl) rfl rfl (.tmp (Nat.le_of_ble_eq_true rfl) rfl rfl .nil))
  ·
   (try simp only [hcS] at hc); have hc1 := hc; have hnn : 0 ≤ n ∧ n ≤ 1073741824 := inB_iff.1 (by simpa using hc1); have hin : inB n 0 1073741824 = true := inB_iff.2 hnn
   refine AW.skip ?_
   (refine hK _ ?_; clear hK K; (try simp only [nA, Nat.reduceBEq, Nat.reduceEqDiff, ↓reduceIte, Nat.reduceAdd, Nat.reduceSub]))
   (refine AW.seq_k ?_; intro K hK)
   (refine AW.seq_k ?_; intro K hK)
   refine AW.region ?_
   (first | refine awR (op_load_ptr1 rfl rfl rfl rfl ag22 rfl rfl) ?_ | refine awR (op_load_rop1 rfl rfl ag22) ?_); (try simp only [nA, Nat.reduceBEq, Nat.reduceEqDiff, ↓reduceIte, Nat.reduceAdd, Nat.reduceSub])
   refine awJ (OpQ.j (op_callQ (b := true) rfl en33 (C33) (RL.cons (by first | exact View.same rfl | exact View.nil | exact View.rof | exact View.src .ro | exact View.src .rof | exact View.src (.sl rfl rfl) | exact View.ptr rfl rfl rfl) (RL.nil)) rfl)) ?_; (try simp only [nA, Nat.reduceBEq, Nat.reduceEqDiff, ↓reduceIte, Nat.reduceAdd, Nat.reduceSub])
   refine awP (op_assign rfl rfl) ?_; (try simp only [nA, Nat.reduceBEq, Nat.reduceEqDiff, ↓reduceIte, Nat.reduceAdd, Nat.reduceSub])
   refine AWL.nil ?_
   (refine hK _ ?_; clear hK K; (try simp only [nA, Nat.reduceBEq, Nat.reduceEqDiff, ↓reduceIte, Nat.reduceAdd, Nat.reduceSub]))
   (refine AW.seq_k ?_; intro K hK)
   refine AW.region ?_
   refine awP (op_move rfl rfl) ?_; (try simp only [nA, Nat.reduceBEq, Nat.reduceEqDiff, ↓reduceIte, Nat.reduceAdd, Nat.reduceSub])
   (first | refine awP (op_neq rfl rfl rfl) ?_ | refine awP (op_sneq rfl rfl rfl) ?_); (try simp only [nA, Nat.reduceBEq, Nat.reduceEqDiff, ↓reduceIte, Nat.reduceAdd, Nat.reduceSub])
   refine AWL.nil ?_
   (refine hK _ ?_; clear hK K; (try simp only [nA, Nat.reduceBEq, Nat.reduceEqDiff, ↓reduceIte, Nat.reduceAdd, Nat.reduceSub]))
   refine AW.cond rfl rfl rfl (fun hc => ?_) (fun hc => ?_)
   ·
    (try simp only [hcS] at hc); have hc2 := hc; skip
    (refine AW.seq_k ?_; intro K hK)
    refine AW.region ?_
    refine awP (op_move rfl rfl) ?_; (try simp only [nA, Nat.reduceBEq, Nat.reduceEqDiff, ↓reduceIte, Nat.reduceAdd, Nat.reduceSub])
    refine awP (op_assign rfl rfl) ?_; (try simp only [nA, Nat.reduceBEq, Nat.reduceEqDiff, ↓reduceIte, Nat.reduceAdd, Nat.reduceSub])
    refine awP (op_assign rfl rfl) ?_; (try simp only [nA, Nat.reduceBEq, Nat.reduceEqDiff, ↓reduceIte, Nat.reduceAdd, Nat.reduceSub])
    refine AWL.nil ?_
    (refine hK _ ?_; clear hK K; (try simp only [nA, Nat.reduceBEq, Nat.reduceEqDiff, ↓reduceIte, Nat.reduceAdd, Nat.reduceSub]))
    refine AW.gh (Gh.nil (e := 43) 4 (Nat.le_of_ble_eq_true rfl) rfl sz43) ?_; (try simp only [nA, Nat.reduceBEq, Nat.reduceEqDiff, ↓reduceIte, Nat.reduceAdd, Nat.reduceSub]); refine AW.gh (Gh.freeze 4 (Nat.le_of_ble_eq_true rfl) rfl rfl (by simp) (es' := ([] : List Pr).map Pr.av) rfl) ?_; (try simp only [nA, Nat.reduceBEq, Nat.reduceEqDiff, ↓reduceIte, Nat.reduceAdd, Nat.reduceSub])
    refine AW.ret ?_; (try simp only [thenE, inBlk, Nat.reduceEqDiff, ↓reduceIte]); rw [show sharesV n xs = ([], partyE xs) by unfold sharesV; rw [if_neg (by rw [hin]; simp), if_neg (by simpa using hc2)]]; exact RQ.of0 rfl (.tmp (Nat.le_of_ble_eq_true rfl) rfl rfl (.tmp (Nat.le_of_ble_eq_true rfl) rfl rfl .nil))
   ·
    (try simp only [hcS] at hc); have hc2 := hc; have hp : partyE xs = 0 := (by simpa using hc2); have hW := party_sum hp; have h8 := (party_ok hp).1; have hne := party_ne hp; have hxp : ∀ p ∈ xs, 0 ≤ p.amt := (fun p hq => (party_in hp hq).1); have hSV : sharesV n xs = (shareL n xs, 0) := (by unfold sharesV; rw [if_neg (by rw [hin]; simp), if_pos hp]); obtain ⟨k, hk⟩ : ∃ k, xs.length = k + 1 := ⟨xs.length - 1, by omega⟩
    refine AW.skip ?_
    (refine hK _ ?_; clear hK K; (try simp only [nA, Nat.reduceBEq, Nat.reduceEqDiff, ↓reduceIte, Nat.reduceAdd, Nat.reduceSub]))
    (refine AW.seq_k ?_; intro K hK)
    refine AW.region ?_
    refine awJ (op_alloc rfl ze3 rfl) ?_; (try simp only [nA, Nat.reduceBEq, Nat.reduceEqDiff, ↓reduceIte, Nat.reduceAdd, Nat.reduceSub])
    refine awJ (op_store  rfl rfl rfl rfl rfl rfl sz3 rfl (Nat.le_of_ble_eq_true rfl) rfl) ?_; (try simp only [nA, Nat.reduceBEq, Nat.reduceEqDiff, ↓reduceIte, Nat.reduceAdd, Nat.reduceSub])
    refine AWL.nil ?_
    (refine hK _ ?_; clear hK K; (try simp only [nA, Nat.reduceBEq, Nat.reduceEqDiff, ↓reduceIte, Nat.reduceAdd, Nat.reduceSub]))
    (refine AW.seq_k ?_; intro K hK)
    (refine AW.seq_k ?_; intro K hK)
    refine AW.region ?_
    (first | refine awR (op_load_ptr1 rfl rfl rfl rfl ag22 rfl rfl) ?_ | refine awR (op_load_rop1 rfl rfl ag22) ?_); (try simp only [nA, Nat.reduceBEq, Nat.reduceEqDiff, ↓reduceIte, Nat.reduceAdd, Nat.reduceSub])
    (first | refine awP (op_len_ro rfl rfl Try.underlying22 (by first | exact .inr (.inl ⟨_, rfl, rfl⟩) | exact .inl rfl | exact .inr (.inr (.inl ⟨_, rfl, rfl⟩)) | exact .inr (.inr (.inr ⟨rfl, rfl⟩)))) ?_ | refine awP (op_len_sl rfl rfl rfl Try.underlying22) ?_ | refine awP (op_len_str rfl rfl Try.underlying22) ?_); (try simp only [nA, Nat.reduceBEq, Nat.reduceEqDiff, ↓reduceIte, Nat.reduceAdd, Nat.reduceSub])
    refine awP (op_move rfl rfl) ?_; (try simp only [nA, Nat.reduceBEq, Nat.reduceEqDiff, ↓reduceIte, Nat.reduceAdd, Nat.reduceSub])
    refine AWL.nil ?_
    (refine hK _ ?_; clear hK K; (try simp only [nA, Nat.reduceBEq, Nat.reduceEqDiff, ↓reduceIte, Nat.reduceAdd, Nat.reduceSub]))
    refine AW.block ?_
    refine AW.loopI (fun (q : Nat × Nat) => [(2, .rop [.v (.int .i64 n)]), (3, .rop [.ro (xs.map Pr.av)]), (7, .ptr 0 1 0 0), (25, .ro (xs.map Pr.av)), (26, .v (.int .i64 (xs.length : Nat))), (27, .v (.int .i64 (q.1 : Nat)))]) (fun q => ⟨[(1, .own 3 [iv (sumA (xs.take q.1))])], q.2⟩) (fun q => q.1 ≤ xs.length) (fun q => xs.length - q.1) (0, 2) (by simp) ⟨rfl, rfl, rfl, rfl, rfl, rfl, trivial⟩ rfl ?_; rintro ⟨i, e⟩ ρ hI; simp only at hI; simp only [updL]; (try simp only [nA, Nat.reduceBEq, Nat.reduceEqDiff, ↓reduceIte, Nat.reduceAdd, Nat.reduceSub])
    (refine AW.seq_k ?_; intro K hK)
    refine AW.region ?_
    refine awP (op_lss rfl rfl rfl) ?_; (try simp only [nA, Nat.reduceBEq, Nat.reduceEqDiff, ↓reduceIte, Nat.reduceAdd, Nat.reduceSub])
    refine AWL.nil ?_
    (refine hK _ ?_; clear hK K; (try simp only [nA, Nat.reduceBEq, Nat.reduceEqDiff, ↓reduceIte, Nat.reduceAdd, Nat.reduceSub]))
    (refine AW.seq_k ?_; intro K hK)
    refine AW.cond rfl rfl rfl (fun hc => ?_) (fun hc => ?_)
    ·
     (try simp only [hcS] at hc); have hc3 := hc; have hlt : i < xs.length := (by simpa using hc3); obtain ⟨q, hqi⟩ : ∃ q, xs[i]? = some q := ⟨xs[i], List.getElem?_eq_getElem hlt⟩; have hbd := sum_bd hI (fun k hk => (party_ok hp).2.1 k (by omega)); have hqm := party_in hp (List.mem_of_getElem? hqi)
     refine AW.skip ?_
     (refine hK _ ?_; clear hK K; (try simp only [nA, Nat.reduceBEq, Nat.reduceEqDiff, ↓reduceIte, Nat.reduceAdd, Nat.reduceSub]))
     (refine AW.seq_k ?_; intro K hK)
     refine AW.block ?_
     (refine AW.seq_k ?_; intro K hK)
     refine AW.region ?_
     (first | refine awP (op_ia_ro i rfl (.inl rfl) rfl Try.underlying22 rfl (get_of hqi) (by exact sz25) (Nat.le_of_ble_eq_true rfl)) ?_ | refine awP (op_ia_sl _ _ rfl rfl rfl rfl Try.underlying22 rfl (by omega) (by exact sz25) rfl) ?_); (try simp only [nA, Nat.reduceBEq, Nat.reduceEqDiff, ↓reduceIte, Nat.reduceAdd, Nat.reduceSub])
     (first | refine awR (op_load_ptr rfl rfl rfl rfl ag25 sz25 (Nat.le_of_ble_eq_true rfl) rfl) ?_ | refine awR (op_load_rop rfl rfl ag25 sz25 (Nat.le_of_ble_eq_true rfl) (by decide) rfl) ?_); (try simp only [nA, Nat.reduceBEq, Nat.reduceEqDiff, ↓reduceIte, Nat.reduceAdd, Nat.reduceSub])
     refine awJ (op_alloc rfl ze25 rfl) ?_; (try simp only [nA, Nat.reduceBEq, Nat.reduceEqDiff, ↓reduceIte, Nat.reduceAdd, Nat.reduceSub])
     refine awJ (op_store rfl rfl rfl rfl rfl rfl sz25 rfl (Nat.le_of_ble_eq_true rfl) rfl) ?_; (try simp only [nA, Nat.reduceBEq, Nat.reduceEqDiff, ↓reduceIte, Nat.reduceAdd, Nat.reduceSub])
     refine AWL.nil ?_
     (refine hK _ ?_; clear hK K; (try simp only [nA, Nat.reduceBEq, Nat.reduceEqDiff, ↓reduceIte, Nat.reduceAdd, Nat.reduceSub]))
     refine AW.region ?_
     (first | refine awR (op_load_ptr1  rfl rfl rfl rfl ag3 rfl rfl) ?_ | refine awR (op_load_rop1 rfl rfl ag3) ?_); (try simp only [nA, Nat.reduceBEq, Nat.reduceEqDiff, ↓reduceIte, Nat.reduceAdd, Nat.reduceSub])
     (first | refine awP (op_fa_ptr rfl rfl rfl fl25_1 (by exact sz3) (by decide) rfl) ?_ | refine awP (op_fa_rop rfl rfl fl25_1 (by exact sz3) (by decide) (Nat.le_of_ble_eq_true rfl) rfl) ?_); (try simp only [nA, Nat.reduceBEq, Nat.reduceEqDiff, ↓reduceIte, Nat.reduceAdd, Nat.reduceSub])
     (first | refine awR (op_load_ptr1  rfl rfl rfl rfl ag3 rfl rfl) ?_ | refine awR (op_load_rop1 rfl rfl ag3) ?_); (try simp only [nA, Nat.reduceBEq, Nat.reduceEqDiff, ↓reduceIte, Nat.reduceAdd, Nat.reduceSub])
     (first | refine awP (op_addi rfl rfl rfl (by omega)) ?_ | refine awP (op_add rfl rfl rfl rfl) ?_); (try simp only [nA, Nat.reduceBEq, Nat.reduceEqDiff, ↓reduceIte, Nat.reduceAdd, Nat.reduceSub])
     refine awJ (op_store  rfl rfl rfl rfl rfl rfl sz3 rfl (Nat.le_of_ble_eq_true rfl) rfl) ?_; (try simp only [nA, Nat.reduceBEq, Nat.reduceEqDiff, ↓reduceIte, Nat.reduceAdd, Nat.reduceSub])
     refine AWL.nil ?_
     (try simp only [thenE, inBlk, Nat.reduceEqDiff, ↓reduceIte])
     (refine hK _ ?_; clear hK K; (try simp only [nA, Nat.reduceBEq, Nat.reduceEqDiff, ↓reduceIte, Nat.reduceAdd, Nat.reduceSub]))
     refine AW.region ?_
     (first | refine awP (op_addi rfl rfl rfl (by omega)) ?_ | refine awP (op_add rfl rfl rfl rfl) ?_); (try simp only [nA, Nat.reduceBEq, Nat.reduceEqDiff, ↓reduceIte, Nat.reduceAdd, Nat.reduceSub])
     refine awP (op_move rfl rfl) ?_; (try simp only [nA, Nat.reduceBEq, Nat.reduceEqDiff, ↓reduceIte, Nat.reduceAdd, Nat.reduceSub])
     refine AWL.gh (Gh.drop 1) ?_; (try simp only [nA, Nat.reduceBEq, Nat.reduceEqDiff, ↓reduceIte, Nat.reduceAdd, Nat.reduceSub])
     refine AWL.nil ?_
     refine ⟨(i + 1, _), by dsimp only; omega, by dsimp only; omega, ⟨rfl, rfl, rfl, rfl, rfl, rfl, trivial⟩, (by dsimp only; rw [sumA_take hqi] <;> rfl), (by first | rfl | trivial)⟩
    ·
     (try simp only [hcS] at hc); have hc3 := hc; rw [List.take_of_length_le (by simp at hc3; omega)]; refine AW.gh (Gh.freezeP 7 (Nat.le_of_ble_eq_true rfl) rfl rfl (by simp [flatA])) ?_; (try simp only [nA, Nat.reduceBEq, Nat.reduceEqDiff, ↓reduceIte, Nat.reduceAdd, Nat.reduceSub]); refine AW.gh (Gh.drop 0) ?_; (try simp only [nA, Nat.reduceBEq, Nat.reduceEqDiff, ↓reduceIte, Nat.reduceAdd, Nat.reduceSub]); refine AW.gh Gh.reserve ?_; (try simp only [nA, Nat.reduceBEq, Nat.reduceEqDiff, ↓reduceIte, Nat.reduceAdd, Nat.reduceSub]); refine AW.gh Gh.reserve ?_; (try simp only [nA, Nat.reduceBEq, Nat.reduceEqDiff, ↓reduceIte, Nat.reduceAdd, Nat.reduceSub]); refine AW.gh Gh.reserve ?_; (try simp only [nA, Nat.reduceBEq, Nat.reduceEqDiff, ↓reduceIte, Nat.reduceAdd, Nat.reduceSub])
     refine AW.exit ?_; (try simp only [thenE, inBlk, Nat.reduceEqDiff, ↓reduceIte])
     clear hK K
     (refine hK _ ?_; clear hK K; (try simp only [nA, Nat.reduceBEq, Nat.reduceEqDiff, ↓reduceIte, Nat.reduceAdd, Nat.reduceSub]))
     (refine AW.seq_k ?_; intro K hK)
     refine AW.region ?_
     (first | refine awR (op_load_ptr1  rfl rfl rfl rfl ag3 rfl rfl) ?_ | refine awR (op_load_rop1 rfl rfl ag3) ?_); (try simp only [nA, Nat.reduceBEq, Nat.reduceEqDiff, ↓reduceIte, Nat.reduceAdd, Nat.reduceSub])
     refine awP (op_assign rfl rfl) ?_; (try simp only [nA, Nat.reduceBEq, Nat.reduceEqDiff, ↓reduceIte, Nat.reduceAdd, Nat.reduceSub])
     refine AWL.nil ?_
     (refine hK _ ?_; clear hK K; (try simp only [nA, Nat.reduceBEq, Nat.reduceEqDiff, ↓reduceIte, Nat.reduceAdd, Nat.reduceSub]))
     refine AW.join (ι := Nat × Nat × Nat × Nat) (fun _q => [(2, .rop [.v (.int .i64 n)]), (3, .rop [.ro (xs.map Pr.av)]), (7, .rop [.v (.int .i64 (sumA xs))]), (10, .v (.int .i64 n)), (11, .sl 0 _q.1 0 xs.length), (12, .ptr 2 _q.2.2.1 0 0)]) (fun _q => ⟨[(_q.1, .own 43 (List.replicate xs.length (Pr.av z0))), (_q.2.1, .any), (_q.2.2.1, .own 23 [[.own 3 (List.replicate xs.length [.v (.int .i64 0)])]])], _q.2.2.2⟩) (fun _ => True) ?_ ?_
     · refine AW.ad [] mix rfl ?_
       refine adR 0 rfl (fun T' ok => op_load_rop1 rfl rfl ag22) (by first | exact trivial | exact ⟨rfl, trivial⟩ | exact ⟨rfl, rfl, trivial⟩ | exact ⟨rfl, rfl, rfl, trivial⟩) (by kernel_rfl) (by kernel_rfl) ?_; (try simp only [nA, Nat.reduceBEq, Nat.reduceEqDiff, ↓reduceIte, Nat.reduceAdd, Nat.reduceSub])
       refine adP 1 rfl (fun T' ok => op_len_ro rfl rfl Try.underlying22 (by first | exact .inr (.inl ⟨_, rfl, rfl⟩) | exact .inl rfl | exact .inr (.inr (.inl ⟨_, rfl, rfl⟩)) | exact .inr (.inr (.inr ⟨rfl, rfl⟩)))) (by first | exact trivial | exact ⟨rfl, trivial⟩ | exact ⟨rfl, rfl, trivial⟩ | exact ⟨rfl, rfl, rfl, trivial⟩) (by kernel_rfl) (by kernel_rfl) ?_; (try simp only [nA, Nat.reduceBEq, Nat.reduceEqDiff, ↓reduceIte, Nat.reduceAdd, Nat.reduceSub])
       refine adR 3 rfl (fun T' ok => op_load_rop1 rfl rfl ag22) (by first | exact trivial | exact ⟨rfl, trivial⟩ | exact ⟨rfl, rfl, trivial⟩ | exact ⟨rfl, rfl, rfl, trivial⟩) (by kernel_rfl) (by kernel_rfl) ?_; (try simp only [nA, Nat.reduceBEq, Nat.reduceEqDiff, ↓reduceIte, Nat.reduceAdd, Nat.reduceSub])
       refine adP 4 rfl (fun T' ok => op_len_ro rfl rfl Try.underlying22 (by first | exact .inr (.inl ⟨_, rfl, rfl⟩) | exact .inl rfl | exact .inr (.inr (.inl ⟨_, rfl, rfl⟩)) | exact .inr (.inr (.inr ⟨rfl, rfl⟩)))) (by first | exact trivial | exact ⟨rfl, trivial⟩ | exact ⟨rfl, rfl, trivial⟩ | exact ⟨rfl, rfl, rfl, trivial⟩) (by kernel_rfl) (by kernel_rfl) ?_; (try simp only [nA, Nat.reduceBEq, Nat.reduceEqDiff, ↓reduceIte, Nat.reduceAdd, Nat.reduceSub])
       refine adJ3o 2 5 6 rfl rfl rfl (OpJ.at 0 rfl (op_make rfl rfl rfl rfl rfl (Nat.le_refl _) Try.underlying34 ze43 (by omega) (by decide) rfl) rfl) (OpJ.at 1 rfl (op_make rfl rfl rfl rfl rfl (Nat.le_refl _) Try.underlying23 ze3 (by omega) (by decide) rfl) rfl) (OpJ.atP 2 rfl (op_alloc rfl ze23 rfl) rfl) (by kernel_rfl) (by first | exact trivial | exact ⟨rfl, trivial⟩ | exact ⟨rfl, rfl, trivial⟩ | exact ⟨rfl, rfl, rfl, trivial⟩) (by first | exact trivial | exact ⟨rfl, trivial⟩ | exact ⟨rfl, rfl, trivial⟩ | exact ⟨rfl, rfl, rfl, trivial⟩) (by first | exact trivial | exact ⟨rfl, trivial⟩ | exact ⟨rfl, rfl, trivial⟩ | exact ⟨rfl, rfl, rfl, trivial⟩) ?_ ?_ ?_
       · (try simp only [nA, Nat.reduceBEq, Nat.reduceEqDiff, ↓reduceIte, Nat.reduceAdd, Nat.reduceSub])
         refine adJ2o 5 6 rfl rfl (OpJ.at 1 rfl (op_make rfl rfl rfl rfl rfl (Nat.le_refl _) Try.underlying23 ze3 (by omega) (by decide) rfl) rfl) (OpJ.atP 2 rfl (op_alloc rfl ze23 rfl) rfl) (by kernel_rfl) (by first | exact trivial | exact ⟨rfl, trivial⟩ | exact ⟨rfl, rfl, trivial⟩ | exact ⟨rfl, rfl, rfl, trivial⟩) (by first | exact trivial | exact ⟨rfl, trivial⟩ | exact ⟨rfl, rfl, trivial⟩ | exact ⟨rfl, rfl, rfl, trivial⟩) ?_ ?_
         · (try simp only [nA, Nat.reduceBEq, Nat.reduceEqDiff, ↓reduceIte, Nat.reduceAdd, Nat.reduceSub])
           refine adJ 6 rfl (OpJ.atP 2 rfl (op_alloc rfl ze23 rfl) rfl) (by kernel_rfl) (by first | exact trivial | exact ⟨rfl, trivial⟩ | exact ⟨rfl, rfl, trivial⟩ | exact ⟨rfl, rfl, rfl, trivial⟩) ?_; (try simp only [nA, Nat.reduceBEq, Nat.reduceEqDiff, ↓reduceIte, Nat.reduceAdd, Nat.reduceSub])
           refine adP 7 rfl (fun T' ok => op_assign rfl rfl) (by first | exact trivial | exact ⟨rfl, trivial⟩ | exact ⟨rfl, rfl, trivial⟩ | exact ⟨rfl, rfl, rfl, trivial⟩) (by kernel_rfl) (by kernel_rfl) ?_; (try simp only [nA, Nat.reduceBEq, Nat.reduceEqDiff, ↓reduceIte, Nat.reduceAdd, Nat.reduceSub])
           refine adJ 8 rfl (op_store_nest (r := 2) (q := 1) rfl rfl rfl rfl (row := [_]) rfl sz23 rfl (by decide) (by simp) (by simp) (es2 := [[.own 3 (List.replicate xs.length [.v (.int .i64 0)])]]) rfl) (by kernel_rfl) (by first | exact trivial | exact ⟨rfl, trivial⟩ | exact ⟨rfl, rfl, trivial⟩ | exact ⟨rfl, rfl, rfl, trivial⟩) ?_; (try simp only [nA, Nat.reduceBEq, Nat.reduceEqDiff, ↓reduceIte, Nat.reduceAdd, Nat.reduceSub]); refine adDone (by kernel_rfl) ?_; exact ⟨(_, _, _, _), trivial, ⟨rfl, rfl, rfl, rfl, rfl, rfl, trivial⟩, rfl, rfl⟩
         · (try simp only [nA, Nat.reduceBEq, Nat.reduceEqDiff, ↓reduceIte, Nat.reduceAdd, Nat.reduceSub])
           refine adP 7 rfl (fun T' ok => op_assign rfl rfl) (by first | exact trivial | exact ⟨rfl, trivial⟩ | exact ⟨rfl, rfl, trivial⟩ | exact ⟨rfl, rfl, rfl, trivial⟩) (by kernel_rfl) (by kernel_rfl) ?_; (try simp only [nA, Nat.reduceBEq, Nat.reduceEqDiff, ↓reduceIte, Nat.reduceAdd, Nat.reduceSub])
           refine adJ 5 rfl (OpJ.at 1 rfl (op_make rfl rfl rfl rfl rfl (Nat.le_refl _) Try.underlying23 ze3 (by omega) (by decide) rfl) rfl) (by kernel_rfl) (by first | exact trivial | exact ⟨rfl, trivial⟩ | exact ⟨rfl, rfl, trivial⟩ | exact ⟨rfl, rfl, rfl, trivial⟩) ?_; (try simp only [nA, Nat.reduceBEq, Nat.reduceEqDiff, ↓reduceIte, Nat.reduceAdd, Nat.reduceSub])
           refine adJ 8 rfl (op_store_nest (r := 2) (q := 1) rfl rfl rfl rfl (row := [_]) rfl sz23 rfl (by decide) (by simp) (by simp) (es2 := [[.own 3 (List.replicate xs.length [.v (.int .i64 0)])]]) rfl) (by kernel_rfl) (by first | exact trivial | exact ⟨rfl, trivial⟩ | exact ⟨rfl, rfl, trivial⟩ | exact ⟨rfl, rfl, rfl, trivial⟩) ?_; (try simp only [nA, Nat.reduceBEq, Nat.reduceEqDiff, ↓reduceIte, Nat.reduceAdd, Nat.reduceSub]); refine adDone (by kernel_rfl) ?_; exact ⟨(_, _, _, _), trivial, ⟨rfl, rfl, rfl, rfl, rfl, rfl, trivial⟩, rfl, rfl⟩
       · (try simp only [nA, Nat.reduceBEq, Nat.reduceEqDiff, ↓reduceIte, Nat.reduceAdd, Nat.reduceSub])
         refine adJ2o 2 6 rfl rfl (OpJ.at 0 rfl (op_make rfl rfl rfl rfl rfl (Nat.le_refl _) Try.underlying34 ze43 (by omega) (by decide) rfl) rfl) (OpJ.atP 2 rfl (op_alloc rfl ze23 rfl) rfl) (by kernel_rfl) (by first | exact trivial | exact ⟨rfl, trivial⟩ | exact ⟨rfl, rfl, trivial⟩ | exact ⟨rfl, rfl, rfl, trivial⟩) (by first | exact trivial | exact ⟨rfl, trivial⟩ | exact ⟨rfl, rfl, trivial⟩ | exact ⟨rfl, rfl, rfl, trivial⟩) ?_ ?_
         · (try simp only [nA, Nat.reduceBEq, Nat.reduceEqDiff, ↓reduceIte, Nat.reduceAdd, Nat.reduceSub])
           refine adJ 6 rfl (OpJ.atP 2 rfl (op_alloc rfl ze23 rfl) rfl) (by kernel_rfl) (by first | exact trivial | exact ⟨rfl, trivial⟩ | exact ⟨rfl, rfl, trivial⟩ | exact ⟨rfl, rfl, rfl, trivial⟩) ?_; (try simp only [nA, Nat.reduceBEq, Nat.reduceEqDiff, ↓reduceIte, Nat.reduceAdd, Nat.reduceSub])
           refine adP 7 rfl (fun T' ok => op_assign rfl rfl) (by first | exact trivial | exact ⟨rfl, trivial⟩ | exact ⟨rfl, rfl, trivial⟩ | exact ⟨rfl, rfl, rfl, trivial⟩) (by kernel_rfl) (by kernel_rfl) ?_; (try simp only [nA, Nat.reduceBEq, Nat.reduceEqDiff, ↓reduceIte, Nat.reduceAdd, Nat.reduceSub])
           refine adJ 8 rfl (op_store_nest (r := 2) (q := 1) rfl rfl rfl rfl (row := [_]) rfl sz23 rfl (by decide) (by simp) (by simp) (es2 := [[.own 3 (List.replicate xs.length [.v (.int .i64 0)])]]) rfl) (by kernel_rfl) (by first | exact trivial | exact ⟨rfl, trivial⟩ | exact ⟨rfl, rfl, trivial⟩ | exact ⟨rfl, rfl, rfl, trivial⟩) ?_; (try simp only [nA, Nat.reduceBEq, Nat.reduceEqDiff, ↓reduceIte, Nat.reduceAdd, Nat.reduceSub]); refine adDone (by kernel_rfl) ?_; exact ⟨(_, _, _, _), trivial, ⟨rfl, rfl, rfl, rfl, rfl, rfl, trivial⟩, rfl, rfl⟩
         · (try simp only [nA, Nat.reduceBEq, Nat.reduceEqDiff, ↓reduceIte, Nat.reduceAdd, Nat.reduceSub])
           refine adJ 2 rfl (OpJ.at 0 rfl (op_make rfl rfl rfl rfl rfl (Nat.le_refl _) Try.underlying34 ze43 (by omega) (by decide) rfl) rfl) (by kernel_rfl) (by first | exact trivial | exact ⟨rfl, trivial⟩ | exact ⟨rfl, rfl, trivial⟩ | exact ⟨rfl, rfl, rfl, trivial⟩) ?_; (try simp only [nA, Nat.reduceBEq, Nat.reduceEqDiff, ↓reduceIte, Nat.reduceAdd, Nat.reduceSub])
           refine adP 7 rfl (fun T' ok => op_assign rfl rfl) (by first | exact trivial | exact ⟨rfl, trivial⟩ | exact ⟨rfl, rfl, trivial⟩ | exact ⟨rfl, rfl, rfl, trivial⟩) (by kernel_rfl) (by kernel_rfl) ?_; (try simp only [nA, Nat.reduceBEq, Nat.reduceEqDiff, ↓reduceIte, Nat.reduceAdd, Nat.reduceSub])
           refine adJ 8 rfl (op_store_nest (r := 2) (q := 1) rfl rfl rfl rfl (row := [_]) rfl sz23 rfl (by decide) (by simp) (by simp) (es2 := [[.own 3 (List.replicate xs.length [.v (.int .i64 0)])]]) rfl) (by kernel_rfl) (by first | exact trivial | exact ⟨rfl, trivial⟩ | exact ⟨rfl, rfl, trivial⟩ | exact ⟨rfl, rfl, rfl, trivial⟩) ?_; (try simp only [nA, Nat.reduceBEq, Nat.reduceEqDiff, ↓reduceIte, Nat.reduceAdd, Nat.reduceSub]); refine adDone (by kernel_rfl) ?_; exact ⟨(_, _, _, _), trivial, ⟨rfl, rfl, rfl, rfl, rfl, rfl, trivial⟩, rfl, rfl⟩
       · (try simp only [nA, Nat.reduceBEq, Nat.reduceEqDiff, ↓reduceIte, Nat.reduceAdd, Nat.reduceSub])
         refine adJ2o 2 5 rfl rfl (OpJ.at 0 rfl (op_make rfl rfl rfl rfl rfl (Nat.le_refl _) Try.underlying34 ze43 (by omega) (by decide) rfl) rfl) (OpJ.at 1 rfl (op_make rfl rfl rfl rfl rfl (Nat.le_refl _) Try.underlying23 ze3 (by omega) (by decide) rfl) rfl) (by kernel_rfl) (by first | exact trivial | exact ⟨rfl, trivial⟩ | exact ⟨rfl, rfl, trivial⟩ | exact ⟨rfl, rfl, rfl, trivial⟩) (by first | exact trivial | exact ⟨rfl, trivial⟩ | exact ⟨rfl, rfl, trivial⟩ | exact ⟨rfl, rfl, rfl, trivial⟩) ?_ ?_
         · (try simp only [nA, Nat.reduceBEq, Nat.reduceEqDiff, ↓reduceIte, Nat.reduceAdd, Nat.reduceSub])
           refine adP 7 rfl (fun T' ok => op_assign rfl rfl) (by first | exact trivial | exact ⟨rfl, trivial⟩ | exact ⟨rfl, rfl, trivial⟩ | exact ⟨rfl, rfl, rfl, trivial⟩) (by kernel_rfl) (by kernel_rfl) ?_; (try simp only [nA, Nat.reduceBEq, Nat.reduceEqDiff, ↓reduceIte, Nat.reduceAdd, Nat.reduceSub])
           refine adJ 5 rfl (OpJ.at 1 rfl (op_make rfl rfl rfl rfl rfl (Nat.le_refl _) Try.underlying23 ze3 (by omega) (by decide) rfl) rfl) (by kernel_rfl) (by first | exact trivial | exact ⟨rfl, trivial⟩ | exact ⟨rfl, rfl, trivial⟩ | exact ⟨rfl, rfl, rfl, trivial⟩) ?_; (try simp only [nA, Nat.reduceBEq, Nat.reduceEqDiff, ↓reduceIte, Nat.reduceAdd, Nat.reduceSub])
           refine adJ 8 rfl (op_store_nest (r := 2) (q := 1) rfl rfl rfl rfl (row := [_]) rfl sz23 rfl (by decide) (by simp) (by simp) (es2 := [[.own 3 (List.replicate xs.length [.v (.int .i64 0)])]]) rfl) (by kernel_rfl) (by first | exact trivial | exact ⟨rfl, trivial⟩ | exact ⟨rfl, rfl, trivial⟩ | exact ⟨rfl, rfl, rfl, trivial⟩) ?_; (try simp only [nA, Nat.reduceBEq, Nat.reduceEqDiff, ↓reduceIte, Nat.reduceAdd, Nat.reduceSub]); refine adDone (by kernel_rfl) ?_; exact ⟨(_, _, _, _), trivial, ⟨rfl, rfl, rfl, rfl, rfl, rfl, trivial⟩, rfl, rfl⟩
         · (try simp only [nA, Nat.reduceBEq, Nat.reduceEqDiff, ↓reduceIte, Nat.reduceAdd, Nat.reduceSub])
           refine adJ 2 rfl (OpJ.at 0 rfl (op_make rfl rfl rfl rfl rfl (Nat.le_refl _) Try.underlying34 ze43 (by omega) (by decide) rfl) rfl) (by kernel_rfl) (by first | exact trivial | exact ⟨rfl, trivial⟩ | exact ⟨rfl, rfl, trivial⟩ | exact ⟨rfl, rfl, rfl, trivial⟩) ?_; (try simp only [nA, Nat.reduceBEq, Nat.reduceEqDiff, ↓reduceIte, Nat.reduceAdd, Nat.reduceSub])
           refine adP 7 rfl (fun T' ok => op_assign rfl rfl) (by first | exact trivial | exact ⟨rfl, trivial⟩ | exact ⟨rfl, rfl, trivial⟩ | exact ⟨rfl, rfl, rfl, trivial⟩) (by kernel_rfl) (by kernel_rfl) ?_; (try simp only [nA, Nat.reduceBEq, Nat.reduceEqDiff, ↓reduceIte, Nat.reduceAdd, Nat.reduceSub])
           refine adJ 8 rfl (op_store_nest (r := 2) (q := 1) rfl rfl rfl rfl (row := [_]) rfl sz23 rfl (by decide) (by simp) (by simp) (es2 := [[.own 3 (List.replicate xs.length [.v (.int .i64 0)])]]) rfl) (by kernel_rfl) (by first | exact trivial | exact ⟨rfl, trivial⟩ | exact ⟨rfl, rfl, trivial⟩ | exact ⟨rfl, rfl, rfl, trivial⟩) ?_; (try simp only [nA, Nat.reduceBEq, Nat.reduceEqDiff, ↓reduceIte, Nat.reduceAdd, Nat.reduceSub]); refine adDone (by kernel_rfl) ?_; exact ⟨(_, _, _, _), trivial, ⟨rfl, rfl, rfl, rfl, rfl, rfl, trivial⟩, rfl, rfl⟩
     rintro ⟨a, b, c, ep⟩ ρ3 _; simp only [updL]; (try simp only [nA, Nat.reduceBEq, Nat.reduceEqDiff, ↓reduceIte, Nat.reduceAdd, Nat.reduceSub])
     refine AW.ghE (GhE.unnest (r := 2) 0 0 rfl rfl rfl) fun u hu => ?_
     (try simp only [nA, Nat.reduceBEq, Nat.reduceEqDiff, ↓reduceIte, Nat.reduceAdd, Nat.reduceSub])
     refine AW.gh (Gh.freezeP 12 (Nat.le_of_ble_eq_true rfl) rfl rfl (by simp [flatA])) ?_; (try simp only [nA, Nat.reduceBEq, Nat.reduceEqDiff, ↓reduceIte, Nat.reduceAdd, Nat.reduceSub])
     (refine AW.seq_k ?_; intro K hK)
     (refine AW.seq_k ?_; intro K hK)
     refine AW.region ?_
     (first | refine awR (op_load_ptr1 rfl rfl rfl rfl ag22 rfl rfl) ?_ | refine awR (op_load_rop1 rfl rfl ag22) ?_); (try simp only [nA, Nat.reduceBEq, Nat.reduceEqDiff, ↓reduceIte, Nat.reduceAdd, Nat.reduceSub])
     (first | refine awP (op_len_ro rfl rfl Try.underlying22 (by first | exact .inr (.inl ⟨_, rfl, rfl⟩) | exact .inl rfl | exact .inr (.inr (.inl ⟨_, rfl, rfl⟩)) | exact .inr (.inr (.inr ⟨rfl, rfl⟩)))) ?_ | refine awP (op_len_sl rfl rfl rfl Try.underlying22) ?_ | refine awP (op_len_str rfl rfl Try.underlying22) ?_); (try simp only [nA, Nat.reduceBEq, Nat.reduceEqDiff, ↓reduceIte, Nat.reduceAdd, Nat.reduceSub])
     refine awP (op_move rfl rfl) ?_; (try simp only [nA, Nat.reduceBEq, Nat.reduceEqDiff, ↓reduceIte, Nat.reduceAdd, Nat.reduceSub])
     refine AWL.nil ?_
     (refine hK _ ?_; clear hK K; (try simp only [nA, Nat.reduceBEq, Nat.reduceEqDiff, ↓reduceIte, Nat.reduceAdd, Nat.reduceSub]))
     refine AW.block ?_
     refine AW.loopI (fun (q : Nat × Nat × Nat) => [(2, .rop [.v (.int .i64 n)]), (3, .rop [.ro (xs.map Pr.av)]), (7, .rop [.v (.int .i64 (sumA xs))]), (10, .v (.int .i64 (leftI n (sumA xs) xs q.1))), (11, .sl 0 a 0 xs.length), (12, .rop [.v u]), (43, .ro (xs.map Pr.av)), (44, .v (.int .i64 (xs.length : Nat))), (45, .v (.int .i64 (q.1 : Nat)))]) (fun q => ⟨[(a, .own 43 ((shS n (sumA xs) xs q.1).map Pr.av)), (b, .any), (c, .any), (q.2.1, .nm u 3 (ordI xs.length q.1))], q.2.2⟩) (fun q => q.1 ≤ xs.length) (fun q => xs.length - q.1) (0, _, _) (by simp) ⟨rfl, rfl, rfl, (by dsimp only; rw [leftI_0]; rfl), rfl, rfl, rfl, rfl, rfl, trivial⟩ (by dsimp only; rw [shS_0, ordI_0]) ?_; rintro ⟨i, kq, e⟩ ρ hI; simp only at hI; simp only [updL]; (try simp only [nA, Nat.reduceBEq, Nat.reduceEqDiff, ↓reduceIte, Nat.reduceAdd, Nat.reduceSub])
     (refine AW.seq_k ?_; intro K hK)
     refine AW.region ?_
     refine awP (op_lss rfl rfl rfl) ?_; (try simp only [nA, Nat.reduceBEq, Nat.reduceEqDiff, ↓reduceIte, Nat.reduceAdd, Nat.reduceSub])
     refine AWL.nil ?_
     (refine hK _ ?_; clear hK K; (try simp only [nA, Nat.reduceBEq, Nat.reduceEqDiff, ↓reduceIte, Nat.reduceAdd, Nat.reduceSub]))
     (refine AW.seq_k ?_; intro K hK)
     refine AW.cond rfl rfl rfl (fun hc => ?_) (fun hc => ?_)
     ·
      (try simp only [hcS] at hc); have hc4 := hc; have hlt : i < xs.length := (by simpa using hc4); obtain ⟨q, hqi⟩ : ∃ q, xs[i]? = some q := ⟨xs[i], List.getElem?_eq_getElem hlt⟩; have hqm := party_in hp (List.mem_of_getElem? hqi); have hmb := mul_bd hnn hqm; have hl0 := left_nn hnn.1 hp i hI; have hl1 := left_le hnn.1 hp i hI; have hqb := quo_le hnn ⟨hqm.1, amt_le_sum hxp (List.mem_of_getElem? hqi)⟩ hW.1; have hqa : (quoP n (sumA xs) q).amt = n * q.amt / (sumA xs) := rfl
      refine AW.skip ?_
      (refine hK _ ?_; clear hK K; (try simp only [nA, Nat.reduceBEq, Nat.reduceEqDiff, ↓reduceIte, Nat.reduceAdd, Nat.reduceSub]))
      (refine AW.seq_k ?_; intro K hK)
      refine AW.block ?_
      (refine AW.seq_k ?_; intro K hK)
      refine AW.region ?_
      refine awP (op_move rfl rfl) ?_; (try simp only [nA, Nat.reduceBEq, Nat.reduceEqDiff, ↓reduceIte, Nat.reduceAdd, Nat.reduceSub])
      (first | refine awP (op_ia_ro i rfl (.inl rfl) rfl Try.underlying22 rfl (get_of hqi) (by exact sz25) (Nat.le_of_ble_eq_true rfl)) ?_ | refine awP (op_ia_sl _ _ rfl rfl rfl rfl Try.underlying22 rfl (by omega) (by exact sz25) rfl) ?_); (try simp only [nA, Nat.reduceBEq, Nat.reduceEqDiff, ↓reduceIte, Nat.reduceAdd, Nat.reduceSub])
      (first | refine awR (op_load_ptr rfl rfl rfl rfl ag25 sz25 (Nat.le_of_ble_eq_true rfl) rfl) ?_ | refine awR (op_load_rop rfl rfl ag25 sz25 (Nat.le_of_ble_eq_true rfl) (by decide) rfl) ?_); (try simp only [nA, Nat.reduceBEq, Nat.reduceEqDiff, ↓reduceIte, Nat.reduceAdd, Nat.reduceSub])
      refine awJ (op_alloc rfl ze25 rfl) ?_; (try simp only [nA, Nat.reduceBEq, Nat.reduceEqDiff, ↓reduceIte, Nat.reduceAdd, Nat.reduceSub])
      refine awP (op_assign rfl rfl) ?_; (try simp only [nA, Nat.reduceBEq, Nat.reduceEqDiff, ↓reduceIte, Nat.reduceAdd, Nat.reduceSub])
      refine awJ (op_store rfl rfl rfl rfl rfl rfl sz25 rfl (Nat.le_of_ble_eq_true rfl) rfl) ?_; (try simp only [nA, Nat.reduceBEq, Nat.reduceEqDiff, ↓reduceIte, Nat.reduceAdd, Nat.reduceSub])
      refine AWL.nil ?_
      (refine hK _ ?_; clear hK K; (try simp only [nA, Nat.reduceBEq, Nat.reduceEqDiff, ↓reduceIte, Nat.reduceAdd, Nat.reduceSub]))
      (refine AW.seq_k ?_; intro K hK)
      refine AW.quiet_tail 12 mix (by kernel_rfl) rfl rfl ?_
      refine aqP (op_move rfl rfl) ?_; (try simp only [nA, Nat.reduceBEq, Nat.reduceEqDiff, ↓reduceIte, Nat.reduceAdd, Nat.reduceSub])
      refine aqP (op_move rfl rfl) ?_; (try simp only [nA, Nat.reduceBEq, Nat.reduceEqDiff, ↓reduceIte, Nat.reduceAdd, Nat.reduceSub])
      (first | refine aqP (op_fa_ptr rfl rfl rfl fl25_0 (by exact sz9) (by decide) rfl) ?_ | refine aqP (op_fa_rop rfl rfl fl25_0 (by exact sz9) (by decide) (Nat.le_of_ble_eq_true rfl) rfl) ?_); (try simp only [nA, Nat.reduceBEq, Nat.reduceEqDiff, ↓reduceIte, Nat.reduceAdd, Nat.reduceSub])
      (first | refine aqR (op_load_ptr1 rfl rfl rfl rfl ag9 rfl rfl) ?_ | refine aqR (op_load_rop1 rfl rfl ag9) ?_); (try simp only [nA, Nat.reduceBEq, Nat.reduceEqDiff, ↓reduceIte, Nat.reduceAdd, Nat.reduceSub])
      (first | refine aqR (op_load_ptr1  rfl rfl rfl rfl ag3 rfl rfl) ?_ | refine aqR (op_load_rop1 rfl rfl ag3) ?_); (try simp only [nA, Nat.reduceBEq, Nat.reduceEqDiff, ↓reduceIte, Nat.reduceAdd, Nat.reduceSub])
      (first | refine aqP (op_fa_ptr rfl rfl rfl fl25_1 (by exact sz3) (by decide) rfl) ?_ | refine aqP (op_fa_rop rfl rfl fl25_1 (by exact sz3) (by decide) (Nat.le_of_ble_eq_true rfl) rfl) ?_); (try simp only [nA, Nat.reduceBEq, Nat.reduceEqDiff, ↓reduceIte, Nat.reduceAdd, Nat.reduceSub])
      (first | refine aqR (op_load_ptr1  rfl rfl rfl rfl ag3 rfl rfl) ?_ | refine aqR (op_load_rop1 rfl rfl ag3) ?_); (try simp only [nA, Nat.reduceBEq, Nat.reduceEqDiff, ↓reduceIte, Nat.reduceAdd, Nat.reduceSub])
      (first | refine aqP (op_muli rfl rfl rfl (by omega)) ?_ | refine aqP (op_mul rfl rfl rfl rfl) ?_); (try simp only [nA, Nat.reduceBEq, Nat.reduceEqDiff, ↓reduceIte, Nat.reduceAdd, Nat.reduceSub])
      (first | refine aqR (op_load_ptr1  rfl rfl rfl rfl ag3 rfl rfl) ?_ | refine aqR (op_load_rop1 rfl rfl ag3) ?_); (try simp only [nA, Nat.reduceBEq, Nat.reduceEqDiff, ↓reduceIte, Nat.reduceAdd, Nat.reduceSub])
      (first | refine aqP (op_quoi rfl rfl rfl (by omega)) ?_ | refine aqP (op_quo rfl rfl rfl (by omega) rfl) ?_); (try simp only [nA, Nat.reduceBEq, Nat.reduceEqDiff, ↓reduceIte, Nat.reduceAdd, Nat.reduceSub])
      refine aqP (op_build2 (xs := [_, _]) rfl pl43 ze43 [(0, [_]), (1, [_])] rfl rfl rfl) ?_; (try simp only [nA, Nat.reduceBEq, Nat.reduceEqDiff, ↓reduceIte, Nat.reduceAdd, Nat.reduceSub])
      (first | refine aqP (op_ia_ro _ rfl (.inl rfl) rfl Try.underlying34 rfl (get_map (by omega)) (by exact sz43) (Nat.le_of_ble_eq_true rfl)) ?_ | refine aqP (op_ia_sl _ _ rfl rfl rfl rfl Try.underlying34 rfl (by omega) (by exact sz43) rfl) ?_); (try simp only [nA, Nat.reduceBEq, Nat.reduceEqDiff, ↓reduceIte, Nat.reduceAdd, Nat.reduceSub])
      refine AQ.nil ?_
      refine awJ (op_store rfl rfl rfl rfl (shS_get hlt) rfl sz43 rfl (Nat.le_of_ble_eq_true rfl) (shS_set hqi)) ?_; (try simp only [nA, Nat.reduceBEq, Nat.reduceEqDiff, ↓reduceIte, Nat.reduceAdd, Nat.reduceSub])
      refine AWL.nil ?_
      (refine hK _ ?_; clear hK K; (try simp only [nA, Nat.reduceBEq, Nat.reduceEqDiff, ↓reduceIte, Nat.reduceAdd, Nat.reduceSub]))
      (refine AW.seq_k ?_; intro K hK)
      refine AW.region ?_
      refine awP (op_move rfl rfl) ?_; (try simp only [nA, Nat.reduceBEq, Nat.reduceEqDiff, ↓reduceIte, Nat.reduceAdd, Nat.reduceSub])
      refine awP (op_move rfl rfl) ?_; (try simp only [nA, Nat.reduceBEq, Nat.reduceEqDiff, ↓reduceIte, Nat.reduceAdd, Nat.reduceSub])
      refine awP (op_move rfl rfl) ?_; (try simp only [nA, Nat.reduceBEq, Nat.reduceEqDiff, ↓reduceIte, Nat.reduceAdd, Nat.reduceSub])
      (first | refine awP (op_ia_ro _ rfl (.inl rfl) rfl Try.underlying34 rfl (get_map (by omega)) (by exact sz43) (Nat.le_of_ble_eq_true rfl)) ?_ | refine awP (op_ia_sl _ _ rfl rfl rfl rfl Try.underlying34 rfl (by omega) (by exact sz43) rfl) ?_); (try simp only [nA, Nat.reduceBEq, Nat.reduceEqDiff, ↓reduceIte, Nat.reduceAdd, Nat.reduceSub])
      (first | refine awP (op_fa_ptr rfl rfl rfl fl43_1 (by exact sz3) (by decide) rfl) ?_ | refine awP (op_fa_rop rfl rfl fl43_1 (by exact sz3) (by decide) (Nat.le_of_ble_eq_true rfl) rfl) ?_); (try simp only [nA, Nat.reduceBEq, Nat.reduceEqDiff, ↓reduceIte, Nat.reduceAdd, Nat.reduceSub])
      (first | refine awR (op_load_ptr1  rfl rfl rfl (shS_got hqi) ag3 rfl rfl) ?_ | refine awR (op_load_rop1 rfl rfl ag3) ?_); (try simp only [nA, Nat.reduceBEq, Nat.reduceEqDiff, ↓reduceIte, Nat.reduceAdd, Nat.reduceSub])
      (first | refine awP (op_subi rfl rfl rfl (by omega)) ?_ | refine awP (op_sub rfl rfl rfl rfl) ?_); (try simp only [nA, Nat.reduceBEq, Nat.reduceEqDiff, ↓reduceIte, Nat.reduceAdd, Nat.reduceSub])
      refine awP (op_assign rfl rfl) ?_; (try simp only [nA, Nat.reduceBEq, Nat.reduceEqDiff, ↓reduceIte, Nat.reduceAdd, Nat.reduceSub])
      refine AWL.nil ?_
      (refine hK _ ?_; clear hK K; (try simp only [nA, Nat.reduceBEq, Nat.reduceEqDiff, ↓reduceIte, Nat.reduceAdd, Nat.reduceSub]))
      refine AW.region ?_
      (first | refine awR (op_load_ptr1 rfl rfl rfl rfl ag23 rfl rfl) ?_ | refine awR (op_load_rop1 rfl rfl ag23) ?_); (try simp only [nA, Nat.reduceBEq, Nat.reduceEqDiff, ↓reduceIte, Nat.reduceAdd, Nat.reduceSub])
      refine awP (op_move rfl rfl) ?_; (try simp only [nA, Nat.reduceBEq, Nat.reduceEqDiff, ↓reduceIte, Nat.reduceAdd, Nat.reduceSub])
      refine awP (op_move rfl rfl) ?_; (try simp only [nA, Nat.reduceBEq, Nat.reduceEqDiff, ↓reduceIte, Nat.reduceAdd, Nat.reduceSub])
      refine AWL.ia_store_nm (r := 3) (ty := 69) (d := 72) rfl rfl (Nat.le_of_ble_eq_true rfl) (op_ia_sl i 1 rfl rfl rfl rfl Try.underlying23 rfl (by rw [ordI_len]; exact hlt) sz3 (Nat.zero_add _)) rfl (by decide) (op_store rfl rfl rfl rfl (ordI_get hlt) rfl sz3 rfl (Nat.le_of_ble_eq_true rfl) (ordI_set hlt)) rfl rfl (by simp [ordI_len]) rfl ?_; (try simp only [nA, Nat.reduceBEq, Nat.reduceEqDiff, ↓reduceIte, Nat.reduceAdd, Nat.reduceSub])
      refine AWL.nil ?_
      (try simp only [thenE, inBlk, Nat.reduceEqDiff, ↓reduceIte])
      (refine hK _ ?_; clear hK K; (try simp only [nA, Nat.reduceBEq, Nat.reduceEqDiff, ↓reduceIte, Nat.reduceAdd, Nat.reduceSub]))
      refine AW.region ?_
      (first | refine awP (op_addi rfl rfl rfl (by omega)) ?_ | refine awP (op_add rfl rfl rfl rfl) ?_); (try simp only [nA, Nat.reduceBEq, Nat.reduceEqDiff, ↓reduceIte, Nat.reduceAdd, Nat.reduceSub])
      refine awP (op_move rfl rfl) ?_; (try simp only [nA, Nat.reduceBEq, Nat.reduceEqDiff, ↓reduceIte, Nat.reduceAdd, Nat.reduceSub])
      refine AWL.gh (Gh.drop 4) ?_; (try simp only [nA, Nat.reduceBEq, Nat.reduceEqDiff, ↓reduceIte, Nat.reduceAdd, Nat.reduceSub])
      refine AWL.nil ?_
      refine ⟨(i + 1, _, _), by dsimp only; omega, by dsimp only; omega, ⟨rfl, rfl, rfl, (by dsimp only; rw [leftI_s hqi]; rfl), rfl, rfl, rfl, rfl, rfl, trivial⟩, (by first | rfl | trivial), (by first | rfl | trivial)⟩
     ·
      (try simp only [hcS] at hc); have hc4 := hc; obtain rfl : i = xs.length := (by simp at hc4; omega); rw [shS_end, ordI_end hk]; have hl0 := left_nn hnn.1 hp xs.length (Nat.le_refl _); have hl1 := left_le hnn.1 hp xs.length (Nat.le_refl _); have hl2 := left_lt hnn.1 hp; have hbb := base_bd hnn hp; have hlaw := share_law hnn hp hk; have hOl : (sortN (ltR n (sumA xs) xs) (finL k)).length = xs.length := (by rw [sort_len]; exact hk.symm); obtain ⟨L, hLn⟩ := Int.eq_ofNat_of_zero_le hl0; rw [hLn] at hl1 hl2 hbb hlaw ⊢; rw [Int.toNat_natCast] at hbb hlaw
      refine AW.exit ?_; (try simp only [thenE, inBlk, Nat.reduceEqDiff, ↓reduceIte])
      clear hK K
      (refine hK _ ?_; clear hK K; (try simp only [nA, Nat.reduceBEq, Nat.reduceEqDiff, ↓reduceIte, Nat.reduceAdd, Nat.reduceSub]))
      (refine AW.seq_k ?_; intro K hK)
      refine AW.region ?_
      (first | refine awR (op_load_ptr1 rfl rfl rfl rfl ag23 rfl rfl) ?_ | refine awR (op_load_rop1 rfl rfl ag23) ?_); (try simp only [nA, Nat.reduceBEq, Nat.reduceEqDiff, ↓reduceIte, Nat.reduceAdd, Nat.reduceSub])
      refine awP (op_mkiface rfl rfl (by kernel_rfl)) ?_; (try simp only [nA, Nat.reduceBEq, Nat.reduceEqDiff, ↓reduceIte, Nat.reduceAdd, Nat.reduceSub])
      refine awP (op_makeFunc rfl rfl rfl) ?_; (try simp only [nA, Nat.reduceBEq, Nat.reduceEqDiff, ↓reduceIte, Nat.reduceAdd, Nat.reduceSub])
      refine awJ (op_sort14 (r := 3) (ds := finL k) (n := n) (xs := xs) rfl rfl rfl rfl hnn hp hk (by rw [finL_len]; omega) rfl) ?_; (try simp only [nA, Nat.reduceBEq, Nat.reduceEqDiff, ↓reduceIte, Nat.reduceAdd, Nat.reduceSub])
      refine AWL.nil ?_
      (refine hK _ ?_; clear hK K; (try simp only [nA, Nat.reduceBEq, Nat.reduceEqDiff, ↓reduceIte, Nat.reduceAdd, Nat.reduceSub]))
      (refine AW.seq_k ?_; intro K hK)
      (refine AW.seq_k ?_; intro K hK)
      refine AW.region ?_
      (first | refine awR (op_load_ptr1 rfl rfl rfl rfl ag23 rfl rfl) ?_ | refine awR (op_load_rop1 rfl rfl ag23) ?_); (try simp only [nA, Nat.reduceBEq, Nat.reduceEqDiff, ↓reduceIte, Nat.reduceAdd, Nat.reduceSub])
      refine awP (op_move rfl rfl) ?_; (try simp only [nA, Nat.reduceBEq, Nat.reduceEqDiff, ↓reduceIte, Nat.reduceAdd, Nat.reduceSub])
      refine AWL.gh (Gh.openN (r := 3) 78 (Nat.le_of_ble_eq_true rfl) rfl rfl) ?_; (try simp only [nA, Nat.reduceBEq, Nat.reduceEqDiff, ↓reduceIte, Nat.reduceAdd, Nat.reduceSub]); rw [hOl]; refine awP (op_slice_sl 0 L rfl rfl rfl (by exact rfl) (by exact ⟨_, rfl⟩) (Nat.zero_le _) (by omega) Try.underlying23 (Nat.zero_add _) (Nat.sub_zero _)) ?_; (try simp only [nA, Nat.reduceBEq, Nat.reduceEqDiff, ↓reduceIte, Nat.reduceAdd, Nat.reduceSub])
      (first | refine awP (op_len_ro rfl rfl Try.underlying23 (by first | exact .inr (.inl ⟨_, rfl, rfl⟩) | exact .inl rfl | exact .inr (.inr (.inl ⟨_, rfl, rfl⟩)) | exact .inr (.inr (.inr ⟨rfl, rfl⟩)))) ?_ | refine awP (op_len_sl rfl rfl rfl Try.underlying23) ?_ | refine awP (op_len_str rfl rfl Try.underlying23) ?_); (try simp only [nA, Nat.reduceBEq, Nat.reduceEqDiff, ↓reduceIte, Nat.reduceAdd, Nat.reduceSub])
      refine awP (op_move rfl rfl) ?_; (try simp only [nA, Nat.reduceBEq, Nat.reduceEqDiff, ↓reduceIte, Nat.reduceAdd, Nat.reduceSub])
      refine AWL.nil ?_
      (refine hK _ ?_; clear hK K; (try simp only [nA, Nat.reduceBEq, Nat.reduceEqDiff, ↓reduceIte, Nat.reduceAdd, Nat.reduceSub]))
      refine AW.block ?_
      refine AW.loopI (fun (j : Nat) => [(11, .sl 0 a 0 xs.length), (80, .sl 3 (e + 1) 0 L), (81, .v (.int .i64 (L : Nat))), (82, .v (.int .i64 (j : Nat)))]) (fun j => ⟨[(a, .own 43 ((psJ k (baseL n (sumA xs) xs) (sortN (ltR n (sumA xs) xs) (finL k)) j).map Pr.av)), (b, .any), (c, .any), (e + 1, .own 3 ((sortN (ltR n (sumA xs) xs) (finL k)).map (rowE encF)))], e + 1 + 1⟩) (fun j => j ≤ L ∧ ∀ p ∈ psJ k (baseL n (sumA xs) xs) (sortN (ltR n (sumA xs) xs) (finL k)) j, 0 ≤ p.amt ∧ p.amt + ((L - j : Nat) : Int) ≤ 4294967296) (fun j => L - j) 0 ⟨by omega, hbb⟩ ⟨rfl, rfl, rfl, rfl, trivial⟩ rfl ?_; intro j ρ hJ; simp only [updL]; (try simp only [nA, Nat.reduceBEq, Nat.reduceEqDiff, ↓reduceIte, Nat.reduceAdd, Nat.reduceSub])
      (refine AW.seq_k ?_; intro K hK)
      refine AW.region ?_
      refine awP (op_lss rfl rfl rfl) ?_; (try simp only [nA, Nat.reduceBEq, Nat.reduceEqDiff, ↓reduceIte, Nat.reduceAdd, Nat.reduceSub])
      refine AWL.nil ?_
      (refine hK _ ?_; clear hK K; (try simp only [nA, Nat.reduceBEq, Nat.reduceEqDiff, ↓reduceIte, Nat.reduceAdd, Nat.reduceSub]))
      (refine AW.seq_k ?_; intro K hK)
      refine AW.cond rfl rfl rfl (fun hc => ?_) (fun hc => ?_)
      ·
       (try simp only [hcS] at hc); have hc5 := hc; have hjl : j < L := (by omega); obtain ⟨o, hoj⟩ : ∃ o, (sortN (ltR n (sumA xs) xs) (finL k))[j]? = some o := ⟨(sortN (ltR n (sumA xs) xs) (finL k))[j]'(by omega), List.getElem?_eq_getElem (by omega)⟩; have hpl : (psJ k (baseL n (sumA xs) xs) (sortN (ltR n (sumA xs) xs) (finL k)) j).length = xs.length := (by unfold psJ; rw [psJ_len]; simp [baseL]); have hox : o.val < xs.length := (by rw [hk]; exact o.isLt); have hpm := hJ.2 _ (getD_mem (ps := psJ k (baseL n (sumA xs) xs) (sortN (ltR n (sumA xs) xs) (finL k)) j) (b := o.val) (by omega))
       refine AW.skip ?_
       (refine hK _ ?_; clear hK K; (try simp only [nA, Nat.reduceBEq, Nat.reduceEqDiff, ↓reduceIte, Nat.reduceAdd, Nat.reduceSub]))
       (refine AW.seq_k ?_; intro K hK)
       refine AW.block ?_
       (refine AW.seq_k ?_; intro K hK)
       refine AW.region ?_
       (first | refine awP (op_ia_ro _ rfl (.inl rfl) rfl Try.underlying23 rfl (get_map (by omega)) (by exact sz3) (Nat.le_of_ble_eq_true rfl)) ?_ | refine awP (op_ia_sl _ _ rfl rfl rfl rfl Try.underlying23 rfl (by omega) (by exact sz3) rfl) ?_); (try simp only [nA, Nat.reduceBEq, Nat.reduceEqDiff, ↓reduceIte, Nat.reduceAdd, Nat.reduceSub])
       (first | refine awR (op_load_ptr1  rfl rfl rfl (get_of hoj) ag3 rfl rfl) ?_ | refine awR (op_load_rop1 rfl rfl ag3) ?_); (try simp only [nA, Nat.reduceBEq, Nat.reduceEqDiff, ↓reduceIte, Nat.reduceAdd, Nat.reduceSub])
       refine awP (op_assign rfl rfl) ?_; (try simp only [nA, Nat.reduceBEq, Nat.reduceEqDiff, ↓reduceIte, Nat.reduceAdd, Nat.reduceSub])
       refine AWL.nil ?_
       (refine hK _ ?_; clear hK K; (try simp only [nA, Nat.reduceBEq, Nat.reduceEqDiff, ↓reduceIte, Nat.reduceAdd, Nat.reduceSub]))
       refine AW.region ?_
       refine awP (op_move rfl rfl) ?_; (try simp only [nA, Nat.reduceBEq, Nat.reduceEqDiff, ↓reduceIte, Nat.reduceAdd, Nat.reduceSub])
       refine awP (op_move rfl rfl) ?_; (try simp only [nA, Nat.reduceBEq, Nat.reduceEqDiff, ↓reduceIte, Nat.reduceAdd, Nat.reduceSub])
       (first | refine awP (op_ia_ro _ rfl (.inl rfl) rfl Try.underlying34 rfl (get_map (by omega)) (by exact sz43) (Nat.le_of_ble_eq_true rfl)) ?_ | refine awP (op_ia_sl _ _ rfl rfl rfl rfl Try.underlying34 rfl (by omega) (by exact sz43) rfl) ?_); (try simp only [nA, Nat.reduceBEq, Nat.reduceEqDiff, ↓reduceIte, Nat.reduceAdd, Nat.reduceSub])
       (first | refine awP (op_fa_ptr rfl rfl rfl fl43_1 (by exact sz3) (by decide) rfl) ?_ | refine awP (op_fa_rop rfl rfl fl43_1 (by exact sz3) (by decide) (Nat.le_of_ble_eq_true rfl) rfl) ?_); (try simp only [nA, Nat.reduceBEq, Nat.reduceEqDiff, ↓reduceIte, Nat.reduceAdd, Nat.reduceSub])
       (first | refine awR (op_load_ptr1  rfl rfl rfl (get_mapD (by omega)) ag3 rfl rfl) ?_ | refine awR (op_load_rop1 rfl rfl ag3) ?_); (try simp only [nA, Nat.reduceBEq, Nat.reduceEqDiff, ↓reduceIte, Nat.reduceAdd, Nat.reduceSub])
       (first | refine awP (op_addi rfl rfl rfl (by omega)) ?_ | refine awP (op_add rfl rfl rfl rfl) ?_); (try simp only [nA, Nat.reduceBEq, Nat.reduceEqDiff, ↓reduceIte, Nat.reduceAdd, Nat.reduceSub])
       (first | refine awP (op_ia_ro _ rfl (.inl rfl) rfl Try.underlying34 rfl (get_map (by omega)) (by exact sz43) (Nat.le_of_ble_eq_true rfl)) ?_ | refine awP (op_ia_sl _ _ rfl rfl rfl rfl Try.underlying34 rfl (by omega) (by exact sz43) rfl) ?_); (try simp only [nA, Nat.reduceBEq, Nat.reduceEqDiff, ↓reduceIte, Nat.reduceAdd, Nat.reduceSub])
       (first | refine awP (op_fa_ptr rfl rfl rfl fl43_1 (by exact sz3) (by decide) rfl) ?_ | refine awP (op_fa_rop rfl rfl fl43_1 (by exact sz3) (by decide) (Nat.le_of_ble_eq_true rfl) rfl) ?_); (try simp only [nA, Nat.reduceBEq, Nat.reduceEqDiff, ↓reduceIte, Nat.reduceAdd, Nat.reduceSub])
       refine awJ (op_store rfl rfl rfl rfl (get_mapD (by omega)) rfl sz3 rfl (Nat.le_of_ble_eq_true rfl) (set_av (psJ k (baseL n (sumA xs) xs) (sortN (ltR n (sumA xs) xs) (finL k)) j) _ _ _)) ?_; (try simp only [nA, Nat.reduceBEq, Nat.reduceEqDiff, ↓reduceIte, Nat.reduceAdd, Nat.reduceSub])
       refine AWL.nil ?_
       (try simp only [thenE, inBlk, Nat.reduceEqDiff, ↓reduceIte])
       (refine hK _ ?_; clear hK K; (try simp only [nA, Nat.reduceBEq, Nat.reduceEqDiff, ↓reduceIte, Nat.reduceAdd, Nat.reduceSub]))
       refine AW.region ?_
       (first | refine awP (op_addi rfl rfl rfl (by omega)) ?_ | refine awP (op_add rfl rfl rfl rfl) ?_); (try simp only [nA, Nat.reduceBEq, Nat.reduceEqDiff, ↓reduceIte, Nat.reduceAdd, Nat.reduceSub])
       refine awP (op_move rfl rfl) ?_; (try simp only [nA, Nat.reduceBEq, Nat.reduceEqDiff, ↓reduceIte, Nat.reduceAdd, Nat.reduceSub])
       skip
       refine AWL.nil ?_
       refine ⟨j + 1, ⟨by omega, by rw [psJ_s hoj]; exact bump_bd (f := L - (j + 1)) (by rw [show L - (j + 1) + 1 = L - j by omega]; exact hJ.2) (by omega)⟩, by omega, ⟨rfl, rfl, rfl, rfl, trivial⟩, (by dsimp only; rw [psJ_s hoj]; rfl), (by first | rfl | trivial)⟩
      ·
       (try simp only [hcS] at hc); have hc5 := hc; obtain rfl : j = L := (by omega)
       refine AW.exit ?_; (try simp only [thenE, inBlk, Nat.reduceEqDiff, ↓reduceIte])
       clear hK K
       (refine hK _ ?_; clear hK K; (try simp only [nA, Nat.reduceBEq, Nat.reduceEqDiff, ↓reduceIte, Nat.reduceAdd, Nat.reduceSub]))
       (refine AW.seq_k ?_; intro K hK)
       refine AW.region ?_
       refine awP (op_move rfl rfl) ?_; (try simp only [nA, Nat.reduceBEq, Nat.reduceEqDiff, ↓reduceIte, Nat.reduceAdd, Nat.reduceSub])
       refine awP (op_assign rfl rfl) ?_; (try simp only [nA, Nat.reduceBEq, Nat.reduceEqDiff, ↓reduceIte, Nat.reduceAdd, Nat.reduceSub])
       refine awP (op_assign rfl rfl) ?_; (try simp only [nA, Nat.reduceBEq, Nat.reduceEqDiff, ↓reduceIte, Nat.reduceAdd, Nat.reduceSub])
       refine AWL.nil ?_
       (refine hK _ ?_; clear hK K; (try simp only [nA, Nat.reduceBEq, Nat.reduceEqDiff, ↓reduceIte, Nat.reduceAdd, Nat.reduceSub]))
       refine AW.gh (Gh.freeze 4 (Nat.le_of_ble_eq_true rfl) rfl rfl (Pr.flat _) (es' := (psJ k (baseL n (sumA xs) xs) (sortN (ltR n (sumA xs) xs) (finL k)) j).map Pr.av) (by rw [List.take_of_length_le (by rw [List.length_map]; unfold psJ; rw [psJ_len]; simp [baseL])])) ?_; (try simp only [nA, Nat.reduceBEq, Nat.reduceEqDiff, ↓reduceIte, Nat.reduceAdd, Nat.reduceSub])
       refine AW.ret ?_; (try simp only [thenE, inBlk, Nat.reduceEqDiff, ↓reduceIte]); rw [hSV, ← hlaw]; exact RQ.of0 rfl (.tmp (Nat.le_of_ble_eq_true rfl) rfl rfl (.tmp (Nat.le_of_ble_eq_true rfl) rfl rfl .nil))
end Go.Proofs.Ytnflkbgappgdiaa
