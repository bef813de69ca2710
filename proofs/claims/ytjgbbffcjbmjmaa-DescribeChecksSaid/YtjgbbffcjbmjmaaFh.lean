import Derived.Test.YtjgbbffcjbmjmaaFg
namespace Go.Proofs.Ytjgbbffcjbmjmaa
open Go.RowKit
set_option linter.unusedSimpArgs false
set_option linter.unusedVariables false

theorem sumN_tail {g : Nat → Int} {m n : Nat} (hm : m ≤ n) (h : ∀ i, m ≤ i → i < n → g i = 0) : sumN n g = sumN m g := by
  obtain ⟨d, rfl⟩ := Nat.exists_eq_add_of_le hm
  clear hm
  induction d with
  | zero => rfl
  | succ d ih =>
    rw [show m + (d + 1) = (m + d) + 1 from rfl, sumN_succ, ih fun i h1 h2 => h i h1 (by omega), h (m + d) (by omega) (by omega)]
    omega
section
variable {R F : Nat} {B : Int} {sc : Nat → Nat → Int} {to rows cols : List Int}
structure PI (R F : Nat) (sc : Nat → Nat → Int) (to : List Int) (j : Nat) (s : List Int × Int) : Prop where
  pl : s.1.length = R
  ge : ∀ i, i < R → -1 ≤ gI s.1 i
  at' : ∀ i, i < R → 0 ≤ gI s.1 i → (gI s.1 i).toNat < j ∧ gI to (gI s.1 i).toNat = i ∧ 0 < sc i (gI s.1 i).toNat
  tot : s.2 = sumN R (term sc (gI s.1))
  sum : s.2 = sumN j (fun k => gI ((sqF R F sc).getD (gI to k).toNat default) k)
theorem pi_zero : PI R F sc to 0 (List.replicate R (-1), 0) := by
  have h1 : ∀ i, i < R → gI (List.replicate R (-1)) i = -1 := fun i hi => gI_rep hi
  refine ⟨by simp, fun i hi => by rw [h1 i hi]; omega, fun i hi h0 => by rw [h1 i hi] at h0; omega, ?_, rfl⟩
  rw [sumN_congr (g' := fun _ => 0) fun i hi => by unfold term; rw [h1 i hi, if_neg (by omega)]]
  rw [sumN_tail (m := 0) (by omega) fun _ _ _ => rfl]
  rfl
theorem pi_step {j : Nat} {s : List Int × Int} (hP : PInv (max R F) B (sqF R F sc) (max R F) to rows cols) (h0 : ∀ i k, 0 ≤ sc i k) (hj : j < F) (h : PI R F sc to j s) : PI R F sc to (j + 1) (pstep R (sqF R F sc) to s j) := by
  have hjn : j < max R F := by omega
  have hf := hP.full j hjn
  have hrg := (hP.rg j hjn).2
  have hit : (gI to j).toNat < max R F := by omega
  have hw := sqF_at (R := R) (F := F) (sc := sc) hit hjn
  unfold pstep
  by_cases hc : gI to j < R ∧ 0 < gI ((sqF R F sc).getD (gI to j).toNat default) j
  · rw [if_pos hc]
    have hiR : (gI to j).toNat < R := by omega
    rw [if_pos ⟨hiR, hj⟩] at hw
    have hnew : ∀ i, gI (s.1.set (gI to j).toNat j) i = if (gI to j).toNat = i then (j : Int) else gI s.1 i := fun i => gI_set (by rw [h.pl]; exact hiR)
    have hold : gI s.1 (gI to j).toNat = -1 := by
      refine Classical.byContradiction fun hno => ?_
      have h1 := h.ge _ hiR
      have h2 := h.at' _ hiR (by omega)
      have h3 := hP.inj (gI s.1 (gI to j).toNat).toNat j (by omega) hjn (by rw [h2.2.1]; omega) (by rw [h2.2.1]; omega)
      omega
    refine ⟨by simp [h.pl], fun i hi => ?_, fun i hi hi0 => ?_, ?_, ?_⟩
    · rw [hnew]
      split
      · omega
      · exact h.ge i hi
    · rw [hnew] at hi0 ⊢
      split
      · rename_i he
        subst he
        refine ⟨by omega, by rw [show ((j : Int)).toNat = j by omega]; omega, ?_⟩
        rw [show ((j : Int)).toNat = j by omega, ← hw]
        exact hc.2
      · rename_i he
        rw [if_neg he] at hi0
        have h1 := h.at' i hi hi0
        exact ⟨by omega, h1.2⟩
    · show s.2 + _ = _
      rw [sumN_congr (g' := fun i => if i = (gI to j).toNat then sc (gI to j).toNat j else term sc (gI s.1) i) fun i hi => by
        unfold term
        rw [hnew]
        by_cases he : (gI to j).toNat = i
        · rw [if_pos he, if_pos (by omega), if_pos he.symm, he]
          rw [show ((j : Int)).toNat = j by omega]
        · have he2 : ¬ i = (gI to j).toNat := fun h' => he h'.symm
          rw [if_neg he, if_neg he2]]
      rw [sumN_upd hiR, ← h.tot, hw]
      unfold term
      rw [hold, if_neg (by omega)]
      omega
    · show s.2 + _ = _
      rw [sumN_succ, ← h.sum]
  · rw [if_neg hc]
    have hz : gI ((sqF R F sc).getD (gI to j).toNat default) j = 0 := by
      by_cases hR : gI to j < R
      · have h1 := h0 (gI to j).toNat j
        have h2 : ¬ 0 < gI ((sqF R F sc).getD (gI to j).toNat default) j := fun h' => hc ⟨hR, h'⟩
        rw [hw] at h2 ⊢
        split at h2 <;> rename_i h3
        · rw [if_pos h3]; omega
        · rw [if_neg h3]
      · rw [hw, if_neg (by omega)]
    exact ⟨h.pl, h.ge, fun i hi h1 => ⟨by have := (h.at' i hi h1).1; omega, (h.at' i hi h1).2⟩, h.tot, by rw [sumN_succ, hz, ← h.sum]; omega⟩
theorem pi_all (hP : PInv (max R F) B (sqF R F sc) (max R F) to rows cols) (h0 : ∀ i k, 0 ≤ sc i k) : ∀ j, j ≤ F → PI R F sc to j ((List.range j).foldl (pstep R (sqF R F sc) to) (List.replicate R (-1), 0))
  | 0, _ => pi_zero
  | j + 1, hj => by
    rw [List.range_succ, List.foldl_append]
    exact pi_step hP h0 (by omega) (pi_all hP h0 j (by omega))
theorem matchM_good (hB : 0 ≤ B) (h : ∀ i k, 0 ≤ sc i k ∧ sc i k ≤ B) : Good R F B sc (matchM R F sc) := by
  have hW := sqF_ok (R := R) (F := F) hB h
  have hP := asgF_inv hW hB
  have hcB := hP.cB hW (Nat.le_refl _) hB
  rw [sqF_len] at hP hcB
  unfold matchM pairsF
  generalize asgF (sqF R F sc) = q at hP hcB ⊢
  obtain ⟨to, rows, cols⟩ := q
  replace hP : PInv (max R F) B (sqF R F sc) (max R F) to rows cols := hP
  replace hcB : ∀ k, k < max R F → gI cols k ≤ B := hcB
  dsimp only
  have hp := pi_all hP (fun i k => (h i k).1) F (Nat.le_refl _)
  generalize (List.range F).foldl (pstep R (sqF R F sc) to) (List.replicate R (-1), 0) = s at hp
  have hn1 : R ≤ max R F := Nat.le_max_left _ _
  have hn2 : F ≤ max R F := Nat.le_max_right _ _
  have hrz : ∀ i, R ≤ i → i < max R F → gI rows i = 0 := fun i h1 h2 => by
    obtain ⟨k, hk, he⟩ := hP.al i h2
    have ht := hP.tg k hk (by omega)
    rw [he, show ((i : Int)).toNat = i by omega] at ht
    unfold Tg at ht
    rw [sqF_at h2 hk, if_neg (by omega)] at ht
    have h3 := (hP.r0 i h2).1
    have h4 := hP.c0 k hk
    omega
  have hcz : ∀ k, F ≤ k → k < max R F → gI cols k = 0 := fun k h1 h2 => by
    have hf := hP.full k h2
    have ht := hP.tg k h2 hf
    have h5 := (hP.rg k h2).2
    unfold Tg at ht
    rw [sqF_at (by omega) h2, if_neg (by omega)] at ht
    have h3 := (hP.r0 (gI to k).toNat (by omega)).1
    have h4 := hP.c0 k h2
    omega
  have htot : s.2 = sumN R (gI rows) + sumN F (gI cols) := by
    have e1 := hp.sum
    rw [← sumN_tail hn2 fun k h1 h2 => by
      have h5 := (hP.rg k h2).2
      rw [sqF_at (by omega) h2, if_neg (by omega)]] at e1
    rw [sumN_congr (g' := fun k => gI rows (gI to k).toNat + gI cols k) fun k hk => by
      have ht := hP.tg k hk (hP.full k hk)
      unfold Tg at ht
      omega, sumN_add, hP.perm (gI rows) fun i hi => (hP.r0 i hi).1, sumN_tail hn1 hrz, sumN_tail hn2 hcz] at e1
    exact e1
  refine ⟨hp.pl, by show (rows.take R).length = R; rw [List.length_take, hP.rl]; omega, by show (cols.take F).length = F; rw [List.length_take, hP.cl]; omega, ⟨fun i hi => ⟨hp.ge i hi, ?_⟩, fun i j hi hj h0 he => ?_⟩, fun i hi h0 => (hp.at' i hi h0).2.2, hp.tot, fun i hi => ?_, fun k hk => ?_, fun i k hi hk => ?_, ?_⟩
  · show gI s.1 i < F
    by_cases h0 : 0 ≤ gI s.1 i
    · have := (hp.at' i hi h0).1; omega
    · omega
  · have he' : gI s.1 i = gI s.1 j := he
    have h1 := (hp.at' i hi h0).2.1
    have h2 := (hp.at' j hj (by rw [← he']; exact h0)).2.1
    rw [he'] at h1
    omega
  · show 0 ≤ gI (rows.take R) i ∧ _
    rw [gI_take hi]
    exact hP.r0 i (by omega)
  · show 0 ≤ gI (cols.take F) k ∧ _
    rw [gI_take hk]
    exact ⟨hP.c0 k (by omega), hcB k (by omega)⟩
  · show _ ≤ gI (rows.take R) i + gI (cols.take F) k
    rw [gI_take hi, gI_take hk]
    have := hP.fe i k (by omega) (by omega)
    rw [sqF_at (by omega) (by omega), if_pos ⟨hi, hk⟩] at this
    exact this
  · show sumN R (gI (rows.take R)) + sumN F (gI (cols.take F)) = s.2
    rw [htot, sumN_congr (g' := gI rows) fun i hi => gI_take hi, sumN_congr (g' := gI cols) fun i hi => gI_take hi]
end
end Go.Proofs.Ytjgbbffcjbmjmaa
