import Derived.Test.YtnflkbgappgdiaaSf
namespace Go.Proofs.Ytnflkbgappgdiaa
open Go.RowKit
set_option linter.unusedSimpArgs false
set_option linter.unusedVariables false

/-! ### Shares where no two remainders are alike: the order is of no account -/
def above (n W : Int) (zs : List Pr) (p : Pr) : Nat := zs.countP fun q => decide (remP n W p < remP n W q)
def shareG (n : Int) (zs : List Pr) (p : Pr) : Pr := ⟨p.name, n * p.amt / sumA zs + (if above n (sumA zs) zs p < (leftI n (sumA zs) zs zs.length).toNat then 1 else 0)⟩
def RemNe (n : Int) (zs : List Pr) : Prop := ∀ i j, i < zs.length → j < i → remP n (sumA zs) (zs.getD i default) ≠ remP n (sumA zs) (zs.getD j default)
theorem share_map {n : Int} {xs : List Pr} (hn : 0 ≤ n ∧ n ≤ 1073741824) (hp : partyE xs = 0) (hr : RemNe n xs) : shareL n xs = xs.map (shareG n xs) := by
  obtain ⟨k, hk⟩ : ∃ k, xs.length = k + 1 := ⟨xs.length - 1, by have := party_ne hp; omega⟩
  have hrg : ∀ i : Fin (k + 1), (remL n (sumA xs) xs).getD i.val 0 = remP n (sumA xs) (xs.getD i.val default) := fun i => by
    have hi : i.val < xs.length := by rw [hk]; exact i.isLt
    unfold remL
    rw [List.getD_eq_getElem?_getD, List.getD_eq_getElem?_getD, List.getElem?_map, List.getElem?_eq_getElem hi]
    rfl
  have hlaw := share_law hn hp hk
  have hlt : ltR n (sumA xs) xs = ltA (k := k) (remL n (sumA xs) xs) := by
    funext x y
    unfold ltR ltA
    rw [hrg, hrg]
  rw [hlt, sort_same] at hlaw
  have hperm := sort_perm (k := k) (remL n (sumA xs) xs)
  have hpair := sort_pair (k := k) (remL n (sumA xs) xs)
  have hnd : (sortN (ltB (remL n (sumA xs) xs)) (finL k)).Nodup := hperm.nodup_iff.2 (List.nodup_finRange _)
  generalize hO : sortN (ltB (remL n (sumA xs) xs)) (finL k) = O at *
  have hOl : O.length = k + 1 := by rw [hperm.length_eq, finL_len]
  have hbl : (baseL n (sumA xs) xs).length = k + 1 := by simp [baseL, hk]
  have hne : ∀ i j : Fin (k + 1), i ≠ j → remP n (sumA xs) (xs.getD i.val default) ≠ remP n (sumA xs) (xs.getD j.val default) := fun i j hij => by
    have hv : i.val ≠ j.val := fun e => hij (Fin.ext e)
    rcases Nat.lt_or_ge j.val i.val with h | h
    · exact hr i.val j.val (by rw [hk]; exact i.isLt) h
    · exact (hr j.val i.val (by rw [hk]; exact j.isLt) (by omega)).symm
  -- how many are above
  have hcount : ∀ i : Fin (k + 1), above n (sumA xs) xs (xs.getD i.val default) = O.countP fun j => decide (remP n (sumA xs) (xs.getD i.val default) < remP n (sumA xs) (xs.getD j.val default)) := fun i => by
    unfold above
    rw [hperm.countP_eq]
    have hx : xs = (finL k).map fun j => xs.getD j.val default := by
      apply List.ext_getElem?
      intro t
      unfold finL
      rw [List.getElem?_map]
      by_cases ht : t < k + 1
      · rw [List.getElem?_eq_getElem (by omega), List.getElem?_eq_getElem (by simpa using ht)]
        simp only [List.getElem_finRange, Option.map_some]
        rw [List.getD_eq_getElem?_getD]
        simp only [Fin.cast_mk]
        rw [List.getElem?_eq_getElem (by omega)]
        rfl
      · rw [List.getElem?_eq_none (by omega), List.getElem?_eq_none (by simpa using ht)]
        rfl
    conv => lhs; arg 2; rw [hx]
    rw [List.countP_map]
    rfl
  have hat : ∀ t (ht : t < O.length), (O.countP fun j => decide (remP n (sumA xs) (xs.getD O[t].val default) < remP n (sumA xs) (xs.getD j.val default))) = t := fun t ht => by
    have hs : O = O.take t ++ O.drop t := (List.take_append_drop t O).symm
    have hd : O.drop t = O[t] :: O.drop (t + 1) := List.drop_eq_getElem_cons ht
    have hpw := List.pairwise_append.1 (show (O.take t ++ O.drop t).Pairwise fun x y => ltB (remL n (sumA xs) xs) x y = true by rw [← hs]; exact hpair)
    have e1 : (O.take t).countP (fun j => decide (remP n (sumA xs) (xs.getD O[t].val default) < remP n (sumA xs) (xs.getD j.val default))) = t := by
      rw [List.countP_eq_length.2, List.length_take, Nat.min_eq_left (by omega)]
      intro j hj
      have h1 := hpw.2.2 j hj O[t] (hd ▸ List.mem_cons_self)
      unfold ltB at h1
      rw [decide_eq_true_eq, hrg, hrg] at h1
      have h2 : j ≠ O[t] := fun e => by
        have h3 : (O.take t ++ O.drop t).Nodup := by rw [← hs]; exact hnd
        rw [List.nodup_append] at h3
        exact h3.2.2 j hj O[t] (hd ▸ List.mem_cons_self) e
      have := hne j O[t] h2
      rw [decide_eq_true_eq]
      omega
    have e2 : (O.drop t).countP (fun j => decide (remP n (sumA xs) (xs.getD O[t].val default) < remP n (sumA xs) (xs.getD j.val default))) = 0 := by
      rw [List.countP_eq_zero]
      intro j hj
      rw [hd, List.mem_cons] at hj
      rw [decide_eq_true_eq]
      rcases hj with rfl | hj
      · omega
      · have h1 := hpw.2.1
        rw [hd, List.pairwise_cons] at h1
        have h2 := h1.1 j hj
        unfold ltB at h2
        rw [decide_eq_true_eq, hrg, hrg] at h2
        omega
    conv => lhs; arg 2; rw [hs]
    rw [List.countP_append, e1, e2]
    rfl
  have hmem : ∀ (i : Fin (k + 1)) (L : Nat), i ∈ O.take L ↔ above n (sumA xs) xs (xs.getD i.val default) < L := fun i L => by
    obtain ⟨t, ht, he⟩ := List.getElem_of_mem (hperm.mem_iff.2 (List.mem_finRange i))
    rw [hcount i, ← he, hat t ht]
    constructor
    · intro hm
      obtain ⟨s, hs, h2⟩ := List.getElem_of_mem hm
      rw [List.length_take] at hs
      rw [List.getElem_take] at h2
      have hp := List.pairwise_iff_getElem.1 (show O.Pairwise (· ≠ ·) from hnd)
      have : s = t := by
        rcases Nat.lt_trichotomy s t with h3 | h3 | h3
        · exact absurd h2 (hp s t (by omega) ht h3)
        · exact h3
        · exact absurd h2.symm (hp t s ht (by omega) h3)
      omega
    · intro h
      exact List.mem_of_getElem? (i := t) (by rw [List.getElem?_take_of_lt h]; exact List.getElem?_eq_getElem ht)
  apply List.ext_getElem?
  intro t
  rw [List.getElem?_map]
  have hll : (shareL n xs).length = k + 1 := by rw [← hlaw, fold_lenP, hbl]
  by_cases ht : t < k + 1
  · have h1 := fold_getD (O.take (leftI n (sumA xs) xs xs.length).toNat) (baseL n (sumA xs) xs) hbl (hnd.sublist (List.take_sublist _ _)) ⟨t, ht⟩
    rw [hlaw] at h1
    have h2 : (baseL n (sumA xs) xs).getD t default = quoP n (sumA xs) (xs.getD t default) := by
      unfold baseL
      rw [List.getD_eq_getElem?_getD, List.getD_eq_getElem?_getD, List.getElem?_map, List.getElem?_eq_getElem (by omega)]
      rfl
    have h3 : (shareL n xs)[t]? = some ((shareL n xs).getD t default) := by rw [List.getD_eq_getElem?_getD, List.getElem?_eq_getElem (by omega)]; rfl
    have h4 : xs[t]? = some (xs.getD t default) := by rw [List.getD_eq_getElem?_getD, List.getElem?_eq_getElem (by omega)]; rfl
    rw [h3, h4, Option.map_some, h1, h2]
    congr 1
    unfold shareG quoP
    simp only [hmem ⟨t, ht⟩]
  · rw [List.getElem?_eq_none (by omega), List.getElem?_eq_none (by omega)]
    rfl
theorem above_perm {n W : Int} {xs ys : List Pr} (h : xs.Perm ys) (p : Pr) : above n W xs p = above n W ys p := h.countP_eq _
theorem sumA_perm {xs ys : List Pr} (h : xs.Perm ys) : sumA xs = sumA ys := perm_sum (h.map _)
theorem leftI_perm {n W : Int} {xs ys : List Pr} (h : xs.Perm ys) : leftI n W xs xs.length = leftI n W ys ys.length := by
  unfold leftI
  rw [List.take_length, List.take_length, perm_sum (h.map fun p => n * p.amt / W)]
theorem shareG_perm {n : Int} {xs ys : List Pr} (h : xs.Perm ys) : shareG n xs = shareG n ys := by
  funext p
  unfold shareG
  rw [← sumA_perm h, above_perm h, leftI_perm h]
theorem remNe_nodup {n : Int} {xs : List Pr} (h : RemNe n xs) : (xs.map (remP n (sumA xs))).Nodup := by
  rw [List.Nodup, List.pairwise_iff_getElem]
  intro i j hi hj hij
  simp only [List.getElem_map]
  have hi' : i < xs.length := by simpa using hi
  have hj' : j < xs.length := by simpa using hj
  have := h j i hj' hij
  rw [List.getD_eq_getElem?_getD, List.getElem?_eq_getElem hj', List.getD_eq_getElem?_getD, List.getElem?_eq_getElem hi'] at this
  exact this.symm
theorem nodup_remNe {n : Int} {xs : List Pr} (h : (xs.map (remP n (sumA xs))).Nodup) : RemNe n xs := by
  rw [List.Nodup, List.pairwise_iff_getElem] at h
  intro i j hi hj
  have := h j i (by simp; omega) (by simpa using hi) hj
  simp only [List.getElem_map] at this
  rw [List.getD_eq_getElem?_getD, List.getElem?_eq_getElem hi, List.getD_eq_getElem?_getD, List.getElem?_eq_getElem (show j < xs.length by omega)]
  exact this.symm
theorem remNe_perm {n : Int} {xs ys : List Pr} (h : xs.Perm ys) (hr : RemNe n xs) : RemNe n ys := by
  refine nodup_remNe ?_
  rw [← sumA_perm h]
  exact (h.map _).nodup_iff.1 (remNe_nodup hr)
/-- Each share of the one list is a share of the other. -/
theorem share_perm {n : Int} {xs ys : List Pr} (hn : 0 ≤ n ∧ n ≤ 1073741824) (hx : partyE xs = 0) (hy : partyE ys = 0) (h : xs.Perm ys) (hr : RemNe n xs) : ∀ p ∈ shareL n xs, p ∈ shareL n ys := by
  intro p hp
  rw [share_map hn hx hr] at hp
  rw [share_map hn hy (remNe_perm h hr), ← shareG_perm h]
  obtain ⟨q, hq, rfl⟩ := List.mem_map.1 hp
  exact List.mem_map.2 ⟨q, h.mem_iff.1 hq, rfl⟩
end Go.Proofs.Ytnflkbgappgdiaa
