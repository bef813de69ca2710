import Derived.Test.YtjgbbffcjbmjmaaFv
namespace Go.Proofs.Ytjgbbffcjbmjmaa
open Go.RowKit
set_option linter.unusedSimpArgs false
set_option linter.unusedVariables false

/-! ### Any choice of pairs -/
def nxt (ch : List Int) (F : Nat) (l : List Int) (i : Nat) : Int := if F = 0 ∨ ch.length ≤ i then -1 else if gmod (gI ch i) (F : Nat) ∈ l then -1 else gmod (gI ch i) (F : Nat)
def chL (ch : List Int) (F : Nat) : Nat → List Int
  | 0 => []
  | n + 1 => chL ch F n ++ [nxt ch F (chL ch F n) n]
section
variable {ch : List Int} {F : Nat}
theorem chL_len : ∀ n, (chL ch F n).length = n
  | 0 => rfl
  | n + 1 => by show (_ ++ [_]).length = _; rw [List.length_append, chL_len n]; rfl
theorem chL_get : ∀ (n i : Nat), i < n → gI (chL ch F n) i = nxt ch F (chL ch F i) i
  | 0, i, h => by omega
  | n + 1, i, h => by
    show (_ ++ [_]).getD i default = _
    rw [List.getD_eq_getElem?_getD]
    by_cases hi : i < n
    · rw [List.getElem?_append_left (by rw [chL_len]; exact hi), ← List.getD_eq_getElem?_getD]
      exact chL_get n i hi
    · obtain rfl : i = n := by omega
      rw [List.getElem?_append_right (by rw [chL_len]; exact Nat.le_refl _), chL_len, Nat.sub_self]
      rfl
theorem chL_mem {n : Nat} {v : Int} : v ∈ chL ch F n ↔ ∃ i, i < n ∧ gI (chL ch F n) i = v := by
  constructor
  · intro h
    obtain ⟨i, hi, he⟩ := List.getElem_of_mem h
    rw [chL_len] at hi
    refine ⟨i, hi, ?_⟩
    show List.getD _ _ _ = _
    rw [List.getD_eq_getElem?_getD, List.getElem?_eq_getElem (by rw [chL_len]; exact hi)]
    exact he
  · rintro ⟨i, hi, rfl⟩
    show List.getD _ _ _ ∈ _
    rw [List.getD_eq_getElem?_getD, List.getElem?_eq_getElem (by rw [chL_len]; exact hi)]
    exact List.getElem_mem _
theorem nxt_rg {l : List Int} {i : Nat} : -1 ≤ nxt ch F l i ∧ nxt ch F l i < F := by
  unfold nxt
  split
  · omega
  · have := gmod_bd (x := gI ch i) (n := (F : Nat)) (by omega)
    split <;> omega
theorem chL_sub {n i : Nat} (h : i ≤ n) {q : Nat} (hq : q < i) : gI (chL ch F n) q = gI (chL ch F i) q := by rw [chL_get n q (by omega), chL_get i q hq]
theorem chL_prg (R : Nat) : Prg R F (gI (chL ch F R)) := by
  refine ⟨fun i hi => by rw [chL_get R i hi]; exact nxt_rg, ?_⟩
  have key : ∀ i j, i < j → j < R → 0 ≤ gI (chL ch F R) i → gI (chL ch F R) i ≠ gI (chL ch F R) j := fun i j hij hj h0 he => by
    have hm : gI (chL ch F R) i ∈ chL ch F j := chL_mem.2 ⟨i, hij, (chL_sub (by omega) hij).symm⟩
    have h2 := chL_get (ch := ch) (F := F) R j hj
    rw [he] at hm h0
    rw [h2] at hm h0
    unfold nxt at hm h0
    split at hm
    · rename_i h; rw [if_pos h] at h0; omega
    · rename_i h
      rw [if_neg h] at h0
      split at hm
      · rename_i h3; rw [if_pos h3] at h0; omega
      · rename_i h3; exact h3 hm
  intro i j hi hj h0 he
  rcases Nat.lt_trichotomy i j with h | h | h
  · exact absurd he (key i j h hj h0)
  · exact h
  · exact absurd he.symm (key j i h hi (by rw [← he]; exact h0))
theorem chL_tk {R i k : Nat} (hi : i ≤ R) : tkB (chL ch F R) i k = true ↔ ((k : Nat) : Int) ∈ chL ch F i := by
  constructor
  · intro h
    obtain ⟨q, hq, he⟩ := tkB_yes h
    exact chL_mem.2 ⟨q, hq, by rw [← chL_sub hi hq]; exact he⟩
  · intro h
    obtain ⟨q, hq, he⟩ := chL_mem.1 h
    cases hb : tkB (chL ch F R) i k with
    | true => rfl
    | false => exact absurd (by rw [chL_sub hi hq]; exact he) (tkB_no hb q hq)
theorem chL_stop {R i : Nat} (h : F = 0 ∨ ch.length ≤ i) (hi : i < R) : gI (chL ch F R) i = -1 := by
  rw [chL_get R i hi]
  unfold nxt
  rw [if_pos h]
theorem chL_used {R i k : Nat} (h1 : ¬ (F = 0 ∨ ch.length ≤ i)) (hi : i < R) (hk : gmod (gI ch i) (F : Nat) = (k : Nat)) (hu : tkB (chL ch F R) i k = true) : gI (chL ch F R) i = -1 := by
  rw [chL_get R i hi]
  unfold nxt
  rw [if_neg h1, if_pos (by rw [hk]; exact (chL_tk (by omega)).1 hu)]
theorem chL_new {R i k : Nat} (h1 : ¬ (F = 0 ∨ ch.length ≤ i)) (hi : i < R) (hk : gmod (gI ch i) (F : Nat) = (k : Nat)) (hu : tkB (chL ch F R) i k = false) : gI (chL ch F R) i = k := by
  rw [chL_get R i hi]
  unfold nxt
  rw [if_neg h1, if_neg, hk]
  rw [hk]
  intro h
  rw [(chL_tk (R := R) (by omega)).2 h] at hu
  cases hu
theorem chL_rest {R i : Nat} {sc : Nat → Nat → Int} (h : F = 0 ∨ ch.length ≤ i) (hi : i ≤ R) : sumN R (term sc (gI (chL ch F R))) = sumN i (term sc (gI (chL ch F R))) :=
  sumN_tail hi fun q h1 h2 => by
    unfold term
    rw [chL_stop (R := R) (i := q) (h.imp id fun h => by omega) h2, if_neg (by omega)]
theorem chL_law {R : Nat} {B : Int} {sc : Nat → Nat → Int} {m : Mat} (h : Good R F B sc m) : sumN R (term sc (gI (chL ch F R))) ≤ sumN R (term (fun i k => gI m.rows i + gI m.cols k) (gI (chL ch F R))) ∧ sumN R (term sc (gI (chL ch F R))) ≤ m.total := by
  have hp := chL_prg (ch := ch) (F := F) R
  refine ⟨sumN_le fun i hi => ?_, h.best hp⟩
  unfold term
  by_cases h1 : 0 ≤ gI (chL ch F R) i
  · rw [if_pos h1, if_pos h1]
    exact h.fe i _ hi (by have := hp.rg i hi; omega)
  · rw [if_neg h1, if_neg h1]; omega
end
end Go.Proofs.Ytjgbbffcjbmjmaa
