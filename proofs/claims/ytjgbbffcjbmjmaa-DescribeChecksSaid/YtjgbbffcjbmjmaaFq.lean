import Derived.Test.YtjgbbffcjbmjmaaFp
namespace Go.Proofs.Ytjgbbffcjbmjmaa
open Go.RowKit
set_option linter.unusedSimpArgs false
set_option linter.unusedVariables false

def tkB (p : List Int) (j k : Nat) : Bool := (List.range j).any fun i => decide (gI p i = (k : Int))
def tkL (p : List Int) (F j : Nat) : List Bool := (List.range F).map (tkB p j)
abbrev noDup (p : List Int) (n : Nat) : Prop := ∀ i, i < n → ∀ k, k < i → ¬ (0 ≤ gI p i ∧ gI p i = gI p k)
def misB (sc : Nat → Nat → Int) (p : List Int) (j : Nat) : Bool := (List.range j).any fun i => decide (0 ≤ gI p i) && decide (sc i (gI p i).toNat = 0)
theorem tkB_succ {p : List Int} {j k : Nat} : tkB p (j + 1) k = (tkB p j k || decide (gI p j = (k : Int))) := by
  unfold tkB
  rw [List.range_succ, List.any_append]
  simp
theorem misB_succ {sc : Nat → Nat → Int} {p : List Int} {j : Nat} : misB sc p (j + 1) = (misB sc p j || (decide (0 ≤ gI p j) && decide (sc j (gI p j).toNat = 0))) := by
  unfold misB
  rw [List.range_succ, List.any_append]
  simp
section
variable {p : List Int} {F j : Nat}
theorem tkL_len : (tkL p F j).length = F := by simp [tkL]
theorem tkL_get {k : Nat} (h : k < F) : ((tkL p F j).map bv)[k]? = some (bv (tkB p j k)) := by
  unfold tkL
  rw [List.map_map, range_get h]
  rfl
theorem tkL_zero : (tkL p F 0).map bv = List.replicate F (bv false) := by
  unfold tkL
  rw [List.map_map]
  apply List.ext_getElem?
  intro q
  by_cases hq : q < F
  · rw [range_get hq, List.getElem?_replicate, if_pos hq]
    rfl
  · rw [List.getElem?_eq_none (by simp; omega), List.getElem?_eq_none (by simp; omega)]
theorem tkL_set {k : Nat} (hk : gI p j = (k : Int)) : ((tkL p F j).map bv).set k (bv true) = (tkL p F (j + 1)).map bv := by
  unfold tkL
  rw [List.map_map, List.map_map]
  refine range_set ?_ fun q hq hqi => ?_
  · dsimp only [Function.comp]
    rw [tkB_succ, decide_eq_true hk, Bool.or_true]
  · dsimp only [Function.comp]
    rw [tkB_succ, decide_eq_false (by rw [hk]; omega), Bool.or_false]
theorem tkL_skip (hk : gI p j < 0) : tkL p F j = tkL p F (j + 1) := by
  unfold tkL
  refine List.map_congr_left fun q hq => ?_
  rw [tkB_succ, decide_eq_false (by omega), Bool.or_false]
theorem tkB_yes {k : Nat} (h : tkB p j k = true) : ∃ i, i < j ∧ gI p i = (k : Int) := by
  unfold tkB at h
  obtain ⟨i, hi, he⟩ := List.any_eq_true.1 h
  exact ⟨i, List.mem_range.1 hi, of_decide_eq_true he⟩
theorem tkB_no {k : Nat} (h : tkB p j k = false) : ∀ i, i < j → gI p i ≠ (k : Int) := fun i hi he => by
  unfold tkB at h
  rw [List.any_eq_false] at h
  exact h i (List.mem_range.2 hi) (decide_eq_true he)
theorem noDup_neg (h : noDup p j) (hk : gI p j < 0) : noDup p (j + 1) := fun i hi k hki => by
  rcases Nat.lt_succ_iff_lt_or_eq.1 hi with h1 | rfl
  · exact h i h1 k hki
  · rintro ⟨h2, -⟩; omega
theorem noDup_pos {v : Nat} (h : noDup p j) (hk : gI p j = (v : Int)) (hn : tkB p j v = false) : noDup p (j + 1) := fun i hi k hki => by
  rcases Nat.lt_succ_iff_lt_or_eq.1 hi with h1 | rfl
  · exact h i h1 k hki
  · rintro ⟨h2, h3⟩
    exact tkB_no hn k hki (by rw [← h3, hk])
theorem dup_yes {v n : Nat} (hj : j < n) (hk : gI p j = (v : Int)) (hn : tkB p j v = true) : ¬ noDup p n := fun h => by
  obtain ⟨i, hi, he⟩ := tkB_yes hn
  exact h j hj i hi ⟨by omega, by omega⟩
end
def pairF (x y : List Desc) (m : Mat) : Int :=
  if noDup m.pairs m.pairs.length then if misB (scD x y) m.pairs m.pairs.length = true then 6 else if sumN m.pairs.length (term (scD x y) (gI m.pairs)) = m.total then 0 else 7 else 5
theorem term_bd {sc : Nat → Nat → Int} {p : Nat → Int} {i : Nat} {B : Int} (h : ∀ i k, 0 ≤ sc i k ∧ sc i k ≤ B) : 0 ≤ term sc p i ∧ term sc p i ≤ B := by
  have := h i (p i).toNat
  unfold term
  split <;> omega
theorem C44 {x y : List Desc} {m : Mat} (hx : Szs x) (hy : Szs y) (hl : x.length ≤ 8 ∧ y.length ≤ 8) (hm : m.pairs.length = x.length) (hp : ∀ i, i < x.length → -1 ≤ gI m.pairs i ∧ gI m.pairs i < y.length) : Fn Try.prog 44 [] [.ro (x.map Desc.av), .ro (y.map Desc.av), .agg m.av] [.v (.int .i64 (pairF x y m))] [] := by
  refine Spec.body Try.func44 rfl Try.ntmps44 (by simp) rfl ?_; intro S0 own0 v0 w0
  (refine AW.seq_k ?_; intro K hK)
  refine AW.region ?_
  refine awJ (OpJ.frzP (row := m.av) (op_box rfl rfl rfl sz42 rfl) m.flat) ?_; (try simp only [nA, Nat.reduceBEq, Nat.reduceEqDiff, ↓reduceIte, Nat.reduceAdd, Nat.reduceSub])
  refine awP (op_assign rfl rfl) ?_
  refine AWL.nil ?_
  (refine hK _ ?_; clear hK K; (try simp only [nA, Nat.reduceBEq, Nat.reduceEqDiff, ↓reduceIte, Nat.reduceAdd, Nat.reduceSub]))
  (refine AW.seq_k ?_; intro K hK)
  refine AW.region ?_
  refine awP (op_move rfl rfl) ?_
  (first | refine awP (op_len_ro rfl rfl Try.underlying22 (by first | exact .inr (.inl ⟨_, rfl, rfl⟩) | exact .inl rfl | exact .inr (.inr (.inl ⟨_, rfl, rfl⟩)) | exact .inr (.inr (.inr ⟨rfl, rfl⟩)))) ?_ | refine awP (op_len_sl rfl rfl rfl Try.underlying22) ?_ | refine awP (op_len_str rfl rfl Try.underlying22) ?_)
  (try simp only [nA, Nat.reduceBEq, Nat.reduceEqDiff, ↓reduceIte, Nat.reduceAdd, Nat.reduceSub]); refine awJ (op_make rfl rfl rfl rfl rfl (Nat.le_refl _) Try.underlying80 ze4 (by omega) (by decide) rfl) ?_; (try simp only [nA, Nat.reduceBEq, Nat.reduceEqDiff, ↓reduceIte, Nat.reduceAdd, Nat.reduceSub])
  refine awP (op_assign rfl rfl) ?_
  refine AWL.nil ?_
  (refine hK _ ?_; clear hK K; (try simp only [nA, Nat.reduceBEq, Nat.reduceEqDiff, ↓reduceIte, Nat.reduceAdd, Nat.reduceSub]))
  (refine AW.seq_k ?_; intro K hK)
  (refine AW.seq_k ?_; intro K hK)
  refine AW.region ?_
  (first | refine awP (op_fa_ptr rfl rfl rfl fl42_0 (by exact sz23) (by decide) rfl) ?_ | refine awP (op_fa_rop rfl rfl fl42_0 (by exact sz23) (by decide) (Nat.le_of_ble_eq_true rfl) rfl) ?_)
  (first | refine awR (op_load_ptr1 rfl rfl rfl rfl ag23 rfl rfl) ?_ | refine awR (op_load_rop1 rfl rfl ag23) ?_)
  (first | refine awP (op_len_ro rfl rfl Try.underlying23 (by first | exact .inr (.inl ⟨_, rfl, rfl⟩) | exact .inl rfl | exact .inr (.inr (.inl ⟨_, rfl, rfl⟩)) | exact .inr (.inr (.inr ⟨rfl, rfl⟩)))) ?_ | refine awP (op_len_sl rfl rfl rfl Try.underlying23) ?_ | refine awP (op_len_str rfl rfl Try.underlying23) ?_)
  refine awP (op_move rfl rfl) ?_
  refine AWL.nil ?_
  (refine hK _ ?_; clear hK K; (try simp only [nA, Nat.reduceBEq, Nat.reduceEqDiff, ↓reduceIte, Nat.reduceAdd, Nat.reduceSub]))
  refine AW.block ?_
  refine AW.loopI (fun (q : Nat × Nat) => [(0, .ro (x.map Desc.av)), (1, .ro (y.map Desc.av)), (5, .rop m.av), (7, .sl 0 q.2 0 y.length), (19, .ro (m.pairs.map iv)), (20, .v (.int .i64 (m.pairs.length : Nat))), (21, .v (.int .i64 (q.1 : Nat)))]) (fun q => ⟨[(q.2, .own 4 ((tkL m.pairs y.length q.1).map bv))], 2⟩) (fun q => q.1 ≤ m.pairs.length ∧ noDup m.pairs q.1) (fun q => m.pairs.length - q.1) (0, _) ⟨Nat.zero_le _, fun i hi => absurd hi (Nat.not_lt_zero i)⟩ ⟨rfl, rfl, rfl, rfl, rfl, rfl, rfl, trivial⟩ (by rw [tkL_zero]; rfl) ?_; rintro ⟨i, k1⟩ ρ hi; simp only at hi; simp only [updL]; (try simp only [nA, Nat.reduceBEq, Nat.reduceEqDiff, ↓reduceIte, Nat.reduceAdd, Nat.reduceSub])
  (refine AW.seq_k ?_; intro K hK)
  refine AW.region ?_
  refine awP (op_lss rfl rfl rfl) ?_
  refine AWL.nil ?_
  (refine hK _ ?_; clear hK K; (try simp only [nA, Nat.reduceBEq, Nat.reduceEqDiff, ↓reduceIte, Nat.reduceAdd, Nat.reduceSub]))
  (refine AW.seq_k ?_; intro K hK)
  refine AW.cond rfl rfl rfl (fun hc => ?_) (fun hc => ?_)
  ·
   (try simp only [hcS] at hc); have hc1 := hc; have hi2 : i < m.pairs.length := (by omega); have hpr := hp i (by omega); obtain ⟨v, hv⟩ : ∃ v, gI m.pairs i = v := ⟨_, rfl⟩; rw [hv] at hpr
   refine AW.skip ?_
   (refine hK _ ?_; clear hK K; (try simp only [nA, Nat.reduceBEq, Nat.reduceEqDiff, ↓reduceIte, Nat.reduceAdd, Nat.reduceSub]))
   (refine AW.seq_k ?_; intro K hK)
   refine AW.block ?_
   (refine AW.seq_k ?_; intro K hK)
   refine AW.region ?_
   (first | refine awP (op_ia_ro i rfl (.inl rfl) rfl Try.underlying23 rfl (row := iv v) (by rw [gI_mapD (by omega), hv]) (by exact sz3) (Nat.le_of_ble_eq_true rfl)) ?_ | refine awP (op_ia_sl _ _ rfl rfl rfl rfl Try.underlying23 rfl (by omega) (by exact sz3) rfl) ?_)
   (first | refine awR (op_load_ptr1 rfl rfl rfl rfl ag3 rfl rfl) ?_ | refine awR (op_load_rop1 rfl rfl ag3) ?_)
   refine awP (op_assign rfl rfl) ?_
   refine AWL.nil ?_
   (refine hK _ ?_; clear hK K; (try simp only [nA, Nat.reduceBEq, Nat.reduceEqDiff, ↓reduceIte, Nat.reduceAdd, Nat.reduceSub]))
   (refine AW.seq_k ?_; intro K hK)
   (refine AW.seq_k ?_; intro K hK)
   refine AW.region ?_
   refine awP (op_move rfl rfl) ?_
   refine awP (op_lss rfl rfl rfl) ?_
   refine AWL.nil ?_
   (refine hK _ ?_; clear hK K; (try simp only [nA, Nat.reduceBEq, Nat.reduceEqDiff, ↓reduceIte, Nat.reduceAdd, Nat.reduceSub]))
   refine AW.cond rfl rfl rfl (fun hc => ?_) (fun hc => ?_)
   ·
    (try simp only [hcS] at hc); have hc2 := hc; skip
    refine AW.exit ?_; (try simp only [thenE, inBlk, Nat.reduceEqDiff, ↓reduceIte])
    clear hK K
    (refine hK _ ?_; clear hK K; (try simp only [nA, Nat.reduceBEq, Nat.reduceEqDiff, ↓reduceIte, Nat.reduceAdd, Nat.reduceSub]))
    refine AW.region ?_
    (first | refine awP (op_addi rfl rfl rfl (by omega)) ?_ | refine awP (op_add rfl rfl rfl rfl) ?_)
    refine awP (op_move rfl rfl) ?_
    skip
    refine AWL.nil ?_
    refine ⟨(i + 1, k1), ⟨by dsimp only; omega, noDup_neg hi.2 (by omega)⟩, by dsimp only; omega, ⟨rfl, rfl, rfl, rfl, rfl, rfl, rfl, trivial⟩, (by dsimp only; rw [← tkL_skip (by omega)]), (by first | rfl | trivial)⟩
   ·
    (try simp only [hcS] at hc); have hc2 := hc; skip
    refine AW.skip ?_
    (refine hK _ ?_; clear hK K; (try simp only [nA, Nat.reduceBEq, Nat.reduceEqDiff, ↓reduceIte, Nat.reduceAdd, Nat.reduceSub]))
    (refine AW.seq_k ?_; intro K hK)
    (refine AW.seq_k ?_; intro K hK)
    refine AW.region ?_
    refine awP (op_move rfl rfl) ?_
    refine awP (op_move rfl rfl) ?_
    refine awP (op_ia_sl v.toNat 1 rfl rfl rfl rfl Try.underlying80 (by omega) (by omega) (by exact sz4) (Nat.zero_add _)) ?_
    (first | refine awR (op_load_ptr1  rfl rfl rfl (tkL_get (p := m.pairs) (F := y.length) (j := i) (k := v.toNat) (by omega)) ag4 rfl rfl) ?_ | refine awR (op_load_rop1 rfl rfl ag4) ?_)
    refine AWL.nil ?_
    (refine hK _ ?_; clear hK K; (try simp only [nA, Nat.reduceBEq, Nat.reduceEqDiff, ↓reduceIte, Nat.reduceAdd, Nat.reduceSub]))
    refine AW.cond rfl rfl rfl (fun hc => ?_) (fun hc => ?_)
    ·
     (try simp only [hcS] at hc); have hc3 := hc; have hdup := dup_yes (n := m.pairs.length) (v := v.toNat) hi2 (by omega) hc3
     (refine AW.seq_k ?_; intro K hK)
     refine AW.region ?_
     refine awP (op_assign rfl rfl) ?_
     refine AWL.nil ?_
     (refine hK _ ?_; clear hK K; (try simp only [nA, Nat.reduceBEq, Nat.reduceEqDiff, ↓reduceIte, Nat.reduceAdd, Nat.reduceSub]))
     skip
     refine AW.ret ?_; (try simp only [thenE, inBlk, Nat.reduceEqDiff, ↓reduceIte]); rw [show pairF x y m = 5 by unfold pairF; rw [if_neg hdup]]; exact RQ.of0 rfl (.tmp (Nat.le_of_ble_eq_true rfl) rfl rfl .nil)
    ·
     (try simp only [hcS] at hc); have hc3 := hc; skip
     refine AW.skip ?_
     (refine hK _ ?_; clear hK K; (try simp only [nA, Nat.reduceBEq, Nat.reduceEqDiff, ↓reduceIte, Nat.reduceAdd, Nat.reduceSub]))
     refine AW.region ?_
     refine awP (op_move rfl rfl) ?_
     refine awP (op_move rfl rfl) ?_
     refine awP (op_ia_sl v.toNat 1 rfl rfl rfl rfl Try.underlying80 (by omega) (by omega) (by exact sz4) (Nat.zero_add _)) ?_
     refine awJ (op_store rfl rfl rfl rfl (tkL_get (p := m.pairs) (F := y.length) (j := i) (k := v.toNat) (by omega)) rfl sz4 rfl (Nat.le_of_ble_eq_true rfl) (es' := (tkL m.pairs y.length (i + 1)).map bv) (by rw [← tkL_set (k := v.toNat) (by omega)]; rfl)) ?_; (try simp only [nA, Nat.reduceBEq, Nat.reduceEqDiff, ↓reduceIte, Nat.reduceAdd, Nat.reduceSub])
     refine AWL.nil ?_
     (try simp only [thenE, inBlk, Nat.reduceEqDiff, ↓reduceIte])
     (refine hK _ ?_; clear hK K; (try simp only [nA, Nat.reduceBEq, Nat.reduceEqDiff, ↓reduceIte, Nat.reduceAdd, Nat.reduceSub]))
     refine AW.region ?_
     (first | refine awP (op_addi rfl rfl rfl (by omega)) ?_ | refine awP (op_add rfl rfl rfl rfl) ?_)
     refine awP (op_move rfl rfl) ?_
     refine AWL.nil ?_
     refine ⟨(i + 1, k1), ⟨by dsimp only; omega, noDup_pos (v := v.toNat) hi.2 (by omega) hc3⟩, by dsimp only; omega, ⟨rfl, rfl, rfl, rfl, rfl, rfl, rfl, trivial⟩, rfl, (by first | rfl | trivial)⟩
  ·
   (try simp only [hcS] at hc); have hc1 := hc; have hnd : noDup m.pairs m.pairs.length := (by have h1 := hi.2; rwa [show i = m.pairs.length by omega] at h1); refine AW.gh (Gh.drop 0) ?_; (try simp only [nA, Nat.reduceBEq, Nat.reduceEqDiff, ↓reduceIte, Nat.reduceAdd, Nat.reduceSub])
   refine AW.exit ?_; (try simp only [thenE, inBlk, Nat.reduceEqDiff, ↓reduceIte])
   clear hK K
   (refine hK _ ?_; clear hK K; (try simp only [nA, Nat.reduceBEq, Nat.reduceEqDiff, ↓reduceIte, Nat.reduceAdd, Nat.reduceSub]))
   (refine AW.seq_k ?_; intro K hK)
   refine AW.region ?_
   refine awP (op_assign rfl rfl) ?_
   refine awP (op_assign rfl rfl) ?_
   refine AWL.nil ?_
   (refine hK _ ?_; clear hK K; (try simp only [nA, Nat.reduceBEq, Nat.reduceEqDiff, ↓reduceIte, Nat.reduceAdd, Nat.reduceSub]))
   (refine AW.seq_k ?_; intro K hK)
   (refine AW.seq_k ?_; intro K hK)
   refine AW.region ?_
   (first | refine awP (op_fa_ptr rfl rfl rfl fl42_0 (by exact sz23) (by decide) rfl) ?_ | refine awP (op_fa_rop rfl rfl fl42_0 (by exact sz23) (by decide) (Nat.le_of_ble_eq_true rfl) rfl) ?_)
   (first | refine awR (op_load_ptr1 rfl rfl rfl rfl ag23 rfl rfl) ?_ | refine awR (op_load_rop1 rfl rfl ag23) ?_)
   (first | refine awP (op_len_ro rfl rfl Try.underlying23 (by first | exact .inr (.inl ⟨_, rfl, rfl⟩) | exact .inl rfl | exact .inr (.inr (.inl ⟨_, rfl, rfl⟩)) | exact .inr (.inr (.inr ⟨rfl, rfl⟩)))) ?_ | refine awP (op_len_sl rfl rfl rfl Try.underlying23) ?_ | refine awP (op_len_str rfl rfl Try.underlying23) ?_)
   refine awP (op_move rfl rfl) ?_
   refine AWL.nil ?_
   (refine hK _ ?_; clear hK K; (try simp only [nA, Nat.reduceBEq, Nat.reduceEqDiff, ↓reduceIte, Nat.reduceAdd, Nat.reduceSub]))
   refine AW.block ?_
   refine AW.loopI (fun (j : Nat) => [(0, .ro (x.map Desc.av)), (1, .ro (y.map Desc.av)), (5, .rop m.av), (10, .v (.int .i64 (sumN j (term (scD x y) (gI m.pairs))))), (11, .v (.bool (misB (scD x y) m.pairs j))), (36, .ro (m.pairs.map iv)), (37, .v (.int .i64 (m.pairs.length : Nat))), (38, .v (.int .i64 (j : Nat)))]) (fun _ => ⟨[], 2⟩) (fun j => j ≤ m.pairs.length) (fun j => m.pairs.length - j) 0 (by simp) ⟨rfl, rfl, rfl, rfl, rfl, rfl, rfl, rfl, trivial⟩ rfl ?_; intro j ρ hj; simp only [updL]; (try simp only [nA, Nat.reduceBEq, Nat.reduceEqDiff, ↓reduceIte, Nat.reduceAdd, Nat.reduceSub])
   (refine AW.seq_k ?_; intro K hK)
   refine AW.region ?_
   refine awP (op_lss rfl rfl rfl) ?_
   refine AWL.nil ?_
   (refine hK _ ?_; clear hK K; (try simp only [nA, Nat.reduceBEq, Nat.reduceEqDiff, ↓reduceIte, Nat.reduceAdd, Nat.reduceSub]))
   (refine AW.seq_k ?_; intro K hK)
   refine AW.cond rfl rfl rfl (fun hc => ?_) (fun hc => ?_)
   ·
    (try simp only [hcS] at hc); have hc4 := hc; have hj2 : j < m.pairs.length := (by omega); have hsb := sumN_bd (n := j) (g := term (scD x y) (gI m.pairs)) (B := 890) (fun q _ => term_bd scD_bd); have hpr := hp j (by omega); obtain ⟨v, hv⟩ : ∃ v, gI m.pairs j = v := ⟨_, rfl⟩; rw [hv] at hpr; have htm : term (scD x y) (gI m.pairs) j = if 0 ≤ v then scD x y j v.toNat else 0 := (by unfold term; rw [hv]); have hms := misB_succ (sc := scD x y) (p := m.pairs) (j := j); rw [hv] at hms; have hsd := scD_bd (x := x) (y := y) j v.toNat
    refine AW.skip ?_
    (refine hK _ ?_; clear hK K; (try simp only [nA, Nat.reduceBEq, Nat.reduceEqDiff, ↓reduceIte, Nat.reduceAdd, Nat.reduceSub]))
    (refine AW.seq_k ?_; intro K hK)
    refine AW.block ?_
    (refine AW.seq_k ?_; intro K hK)
    refine AW.region ?_
    refine awP (op_move rfl rfl) ?_
    (first | refine awP (op_ia_ro j rfl (.inl rfl) rfl Try.underlying23 rfl (row := iv v) (by rw [gI_mapD (by omega), hv]) (by exact sz3) (Nat.le_of_ble_eq_true rfl)) ?_ | refine awP (op_ia_sl _ _ rfl rfl rfl rfl Try.underlying23 rfl (by omega) (by exact sz3) rfl) ?_)
    (first | refine awR (op_load_ptr1 rfl rfl rfl rfl ag3 rfl rfl) ?_ | refine awR (op_load_rop1 rfl rfl ag3) ?_)
    refine awP (op_assign rfl rfl) ?_
    refine awP (op_assign rfl rfl) ?_
    refine AWL.nil ?_
    (refine hK _ ?_; clear hK K; (try simp only [nA, Nat.reduceBEq, Nat.reduceEqDiff, ↓reduceIte, Nat.reduceAdd, Nat.reduceSub]))
    (refine AW.seq_k ?_; intro K hK)
    refine AW.region ?_
    refine awP (op_move rfl rfl) ?_
    refine awP (op_geq rfl rfl rfl) ?_
    refine AWL.nil ?_
    (refine hK _ ?_; clear hK K; (try simp only [nA, Nat.reduceBEq, Nat.reduceEqDiff, ↓reduceIte, Nat.reduceAdd, Nat.reduceSub]))
    refine AW.cond rfl rfl rfl (fun hc => ?_) (fun hc => ?_)
    ·
     (try simp only [hcS] at hc); have hc5 := hc; skip
     (refine AW.seq_k ?_; intro K hK)
     refine AW.quiet mix (by kernel_rfl) ?_
     refine aqP (op_move rfl rfl) ?_
     refine aqP (op_move rfl rfl) ?_
     (first | refine aqP (op_ia_ro j rfl (.inl rfl) rfl Try.underlying22 rfl (get_mapD (by omega)) (by exact sz30) (Nat.le_of_ble_eq_true rfl)) ?_ | refine aqP (op_ia_sl _ _ rfl rfl rfl rfl Try.underlying22 rfl (by omega) (by exact sz30) rfl) ?_)
     (first | refine aqR (op_load_ptr rfl rfl rfl rfl ag30 sz30 (Nat.le_of_ble_eq_true rfl) rfl) ?_ | refine aqR (op_load_rop rfl rfl ag30 sz30 (Nat.le_of_ble_eq_true rfl) (by decide) rfl) ?_)
     refine aqP (op_move rfl rfl) ?_
     refine aqP (op_move rfl rfl) ?_
     (first | refine aqP (op_ia_ro v.toNat rfl (.inl rfl) rfl Try.underlying22 (by omega) (get_mapD (by omega)) (by exact sz30) (Nat.le_of_ble_eq_true rfl)) ?_ | refine aqP (op_ia_sl _ _ rfl rfl rfl rfl Try.underlying22 rfl (by omega) (by exact sz30) rfl) ?_)
     (first | refine aqR (op_load_ptr rfl rfl rfl rfl ag30 sz30 (Nat.le_of_ble_eq_true rfl) rfl) ?_ | refine aqR (op_load_rop rfl rfl ag30 sz30 (Nat.le_of_ble_eq_true rfl) (by decide) rfl) ?_)
     refine aqQ (op_callQ (b := true) rfl en18 (C18 (a := x.getD j default) (b := y.getD v.toNat default) (hx _ (getD_mem (by omega))) (hy _ (getD_mem (by omega)))) (RL.cons (by first | exact View.same rfl | exact View.nil | exact View.rof | exact View.src .ro | exact View.src .rof | exact View.src (.sl rfl rfl) | exact View.ptr rfl rfl rfl) (RL.cons (by first | exact View.same rfl | exact View.nil | exact View.rof | exact View.src .ro | exact View.src .rof | exact View.src (.sl rfl rfl) | exact View.ptr rfl rfl rfl) (RL.nil))) rfl) ?_; (try simp only [nA, Nat.reduceBEq, Nat.reduceEqDiff, ↓reduceIte, Nat.reduceAdd, Nat.reduceSub])
     refine aqP (op_assign (x := .v (.int .i64 (scD x y j v.toNat))) rfl rfl) ?_
     refine AQ.nil ?_
     (refine hK _ ?_; clear hK K; (try simp only [nA, Nat.reduceBEq, Nat.reduceEqDiff, ↓reduceIte, Nat.reduceAdd, Nat.reduceSub]))
     (refine AW.seq_k ?_; intro K hK)
     refine AW.region ?_
     refine awP (op_move rfl rfl) ?_
     refine awP (op_move rfl rfl) ?_
     (first | refine awP (op_addi rfl rfl rfl (by omega)) ?_ | refine awP (op_add rfl rfl rfl rfl) ?_)
     refine awP (op_assign rfl rfl) ?_
     refine AWL.nil ?_
     (refine hK _ ?_; clear hK K; (try simp only [nA, Nat.reduceBEq, Nat.reduceEqDiff, ↓reduceIte, Nat.reduceAdd, Nat.reduceSub]))
     refine AW.region (AWL.quiet ?_)
     refine aqP (op_move rfl rfl) ?_
     refine aqP (op_move rfl rfl) ?_
     refine' aqOr' [_, _] [59,60] rfl rfl rfl rfl rfl rfl rfl rfl rfl rfl rfl rfl (fun hb => ?_) ?_; rotate_left
     ·
      (try simp only [hcS] at hb)
      refine aqP (op_move rfl rfl) ?_
      (first | refine aqP (op_eql rfl rfl rfl) ?_ | refine aqP (op_seql rfl rfl rfl) ?_)
      (refine aqSeg rfl rfl rfl ?_; repeat (first | exact fun _ _ => rfl | refine upd_out rfl ?_ | refine era_out rfl ?_))
     (try simp only [nA, Nat.reduceBEq, Nat.reduceEqDiff, ↓reduceIte, Nat.reduceAdd, Nat.reduceSub])
     refine aqP (op_assign rfl rfl) ?_
     refine AQ.nil ?_
     (try simp only [thenE, inBlk, Nat.reduceEqDiff, ↓reduceIte])
     (refine hK _ ?_; clear hK K; (try simp only [nA, Nat.reduceBEq, Nat.reduceEqDiff, ↓reduceIte, Nat.reduceAdd, Nat.reduceSub]))
     refine AW.region ?_
     (first | refine awP (op_addi rfl rfl rfl (by omega)) ?_ | refine awP (op_add rfl rfl rfl rfl) ?_)
     refine awP (op_move rfl rfl) ?_
     skip
     refine AWL.nil ?_
     refine ⟨j + 1, by omega, by omega, ⟨rfl, rfl, rfl, (by rw [sumN_succ, htm, if_pos (by omega)]; rfl), (by rw [hms, decide_eq_true (by omega : 0 ≤ v), Bool.true_and]; rfl), rfl, rfl, rfl, trivial⟩, (by first | rfl | trivial), (by first | rfl | trivial)⟩
    ·
     (try simp only [hcS] at hc); have hc5 := hc; skip
     refine AW.skip ?_
     (try simp only [thenE, inBlk, Nat.reduceEqDiff, ↓reduceIte])
     (refine hK _ ?_; clear hK K; (try simp only [nA, Nat.reduceBEq, Nat.reduceEqDiff, ↓reduceIte, Nat.reduceAdd, Nat.reduceSub]))
     refine AW.region ?_
     (first | refine awP (op_addi rfl rfl rfl (by omega)) ?_ | refine awP (op_add rfl rfl rfl rfl) ?_)
     refine awP (op_move rfl rfl) ?_
     refine AWL.nil ?_
     refine ⟨j + 1, by omega, by omega, ⟨rfl, rfl, rfl, (by rw [sumN_succ, htm, if_neg (by omega), Int.add_zero]; rfl), (by rw [hms, decide_eq_false (by omega : ¬ 0 ≤ v), Bool.false_and, Bool.or_false]; rfl), rfl, rfl, rfl, trivial⟩, (by first | rfl | trivial), (by first | rfl | trivial)⟩
   ·
    (try simp only [hcS] at hc); have hc4 := hc; obtain rfl : j = m.pairs.length := (by omega)
    refine AW.exit ?_; (try simp only [thenE, inBlk, Nat.reduceEqDiff, ↓reduceIte])
    clear hK K
    (refine hK _ ?_; clear hK K; (try simp only [nA, Nat.reduceBEq, Nat.reduceEqDiff, ↓reduceIte, Nat.reduceAdd, Nat.reduceSub]))
    (refine AW.seq_k ?_; intro K hK)
    (refine AW.seq_k ?_; intro K hK)
    refine AW.region ?_
    refine awP (op_move rfl rfl) ?_
    refine AWL.nil ?_
    (refine hK _ ?_; clear hK K; (try simp only [nA, Nat.reduceBEq, Nat.reduceEqDiff, ↓reduceIte, Nat.reduceAdd, Nat.reduceSub]))
    refine AW.cond rfl rfl rfl (fun hc => ?_) (fun hc => ?_)
    ·
     (try simp only [hcS] at hc); have hc6 := hc; skip
     (refine AW.seq_k ?_; intro K hK)
     refine AW.region ?_
     refine awP (op_assign rfl rfl) ?_
     refine AWL.nil ?_
     (refine hK _ ?_; clear hK K; (try simp only [nA, Nat.reduceBEq, Nat.reduceEqDiff, ↓reduceIte, Nat.reduceAdd, Nat.reduceSub]))
     skip
     refine AW.ret ?_; (try simp only [thenE, inBlk, Nat.reduceEqDiff, ↓reduceIte]); rw [show pairF x y m = 6 by unfold pairF; rw [if_pos hnd, if_pos hc6]]; exact RQ.of0 rfl (.tmp (Nat.le_of_ble_eq_true rfl) rfl rfl .nil)
    ·
     (try simp only [hcS] at hc); have hc6 := hc; skip
     refine AW.skip ?_
     (refine hK _ ?_; clear hK K; (try simp only [nA, Nat.reduceBEq, Nat.reduceEqDiff, ↓reduceIte, Nat.reduceAdd, Nat.reduceSub]))
     (refine AW.seq_k ?_; intro K hK)
     (refine AW.seq_k ?_; intro K hK)
     refine AW.region ?_
     refine awP (op_move rfl rfl) ?_
     (first | refine awP (op_fa_ptr rfl rfl rfl fl42_3 (by exact sz3) (by decide) rfl) ?_ | refine awP (op_fa_rop rfl rfl fl42_3 (by exact sz3) (by decide) (Nat.le_of_ble_eq_true rfl) rfl) ?_)
     (first | refine awR (op_load_ptr1 rfl rfl rfl rfl ag3 rfl rfl) ?_ | refine awR (op_load_rop1 rfl rfl ag3) ?_)
     (first | refine awP (op_neq rfl rfl rfl) ?_ | refine awP (op_sneq rfl rfl rfl) ?_)
     refine AWL.nil ?_
     (refine hK _ ?_; clear hK K; (try simp only [nA, Nat.reduceBEq, Nat.reduceEqDiff, ↓reduceIte, Nat.reduceAdd, Nat.reduceSub]))
     refine AW.cond rfl rfl rfl (fun hc => ?_) (fun hc => ?_)
     ·
      (try simp only [hcS] at hc); have hc7 := hc; skip
      (refine AW.seq_k ?_; intro K hK)
      refine AW.region ?_
      refine awP (op_assign rfl rfl) ?_
      refine AWL.nil ?_
      (refine hK _ ?_; clear hK K; (try simp only [nA, Nat.reduceBEq, Nat.reduceEqDiff, ↓reduceIte, Nat.reduceAdd, Nat.reduceSub]))
      skip
      refine AW.ret ?_; (try simp only [thenE, inBlk, Nat.reduceEqDiff, ↓reduceIte]); rw [show pairF x y m = 7 by unfold pairF; rw [if_pos hnd, if_neg (by rw [hc6]; simp), if_neg (by omega)]]; exact RQ.of0 rfl (.tmp (Nat.le_of_ble_eq_true rfl) rfl rfl .nil)
     ·
      (try simp only [hcS] at hc); have hc7 := hc; skip
      refine AW.skip ?_
      (refine hK _ ?_; clear hK K; (try simp only [nA, Nat.reduceBEq, Nat.reduceEqDiff, ↓reduceIte, Nat.reduceAdd, Nat.reduceSub]))
      (refine AW.seq_k ?_; intro K hK)
      refine AW.region ?_
      refine awP (op_assign rfl rfl) ?_
      refine AWL.nil ?_
      (refine hK _ ?_; clear hK K; (try simp only [nA, Nat.reduceBEq, Nat.reduceEqDiff, ↓reduceIte, Nat.reduceAdd, Nat.reduceSub]))
      skip
      refine AW.ret ?_; (try simp only [thenE, inBlk, Nat.reduceEqDiff, ↓reduceIte]); rw [show pairF x y m = 0 by unfold pairF; rw [if_pos hnd, if_neg (by rw [hc6]; simp), if_pos (by omega)]]; exact RQ.of0 rfl (.tmp (Nat.le_of_ble_eq_true rfl) rfl rfl .nil)
end Go.Proofs.Ytjgbbffcjbmjmaa
