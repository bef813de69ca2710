import Derived.Test.YtnflkbgappgdiaaEo
import Derived.Test.YtnflkbgappgdiaaEy
namespace Go.Proofs.Ytnflkbgappgdiaa
open Go.RowKit
set_option linter.unusedSimpArgs false
set_option linter.unusedVariables false

/-! ### What shares add up to -/
section
variable {k : Nat}
theorem fold_getD : ∀ (O : List (Fin (k + 1))) (base : List Pr), base.length = k + 1 → O.Nodup → ∀ i : Fin (k + 1), (O.foldl (fun ps x => bumpAt ps x.val) base).getD i.val default = ⟨(base.getD i.val default).name, (base.getD i.val default).amt + (if i ∈ O then 1 else 0)⟩
  | [], base, _, _, i => by simp
  | o :: O, base, hb, hn, i => by
    rw [List.nodup_cons] at hn
    rw [List.foldl_cons, fold_getD O (bumpAt base o.val) (by rw [bump_len]; exact hb) hn.2 i]
    have hil : i.val < base.length := by rw [hb]; exact i.isLt
    have e : (bumpAt base o.val).getD i.val default = if o = i then ⟨(base.getD i.val default).name, (base.getD i.val default).amt + 1⟩ else base.getD i.val default := by
      unfold bumpAt
      rw [List.getD_eq_getElem?_getD, List.getElem?_set]
      by_cases h : o = i
      · subst h; rw [if_pos rfl, if_pos rfl, if_pos hil]; rfl
      · rw [if_neg h, if_neg (fun h2 => h (Fin.ext h2)), ← List.getD_eq_getElem?_getD]
    rw [e]
    by_cases h : o = i
    · subst h
      rw [if_pos rfl, if_neg hn.1, if_pos (by simp)]
      simp
    · rw [if_neg h]
      have : (i ∈ o :: O) ↔ i ∈ O := by simp [Ne.symm h]
      simp only [this]
end
theorem perm_sum {l1 l2 : List Int} (h : l1.Perm l2) : l1.sum = l2.sum := by
  induction h with
  | nil => rfl
  | cons x _ ih => simp [ih]
  | swap x y l => simp; omega
  | trans _ _ h1 h2 => exact h1.trans h2
theorem fold_lenP {k : Nat} : ∀ (O : List (Fin (k + 1))) (base : List Pr), (O.foldl (fun ps x => bumpAt ps x.val) base).length = base.length
  | [], base => rfl
  | o :: O, base => by rw [List.foldl_cons, fold_lenP O, bump_len]
theorem sum_set : ∀ (ps : List Pr) (b : Nat) (x : Pr), b < ps.length → sumA (ps.set b x) = sumA ps - (ps.getD b default).amt + x.amt
  | p :: ps, 0, x, _ => by simp [sumA]; omega
  | p :: ps, b + 1, x, h => by
    have := sum_set ps b x (by simpa using h)
    unfold sumA at *
    simp only [List.set_cons_succ, List.map_cons, List.sum_cons, List.getD_cons_succ]
    omega
theorem sum_bump (ps : List Pr) (b : Nat) (h : b < ps.length) : sumA (bumpAt ps b) = sumA ps + 1 := by
  unfold bumpAt
  rw [sum_set _ _ _ h]
  dsimp only
  omega
theorem sum_fold {k : Nat} : ∀ (O : List (Fin (k + 1))) (base : List Pr), base.length = k + 1 → sumA (O.foldl (fun ps x => bumpAt ps x.val) base) = sumA base + O.length
  | [], base, _ => by simp
  | o :: O, base, hb => by
    rw [List.foldl_cons, sum_fold O _ (by rw [bump_len]; exact hb), sum_bump _ _ (by rw [hb]; exact o.isLt)]
    simp
    omega
/-- What there is to know of a share. -/
structure ShareLaw (n : Int) (xs ys : List Pr) : Prop where
  len : ys.length = xs.length
  name : ∀ i, i < xs.length → (ys.getD i default).name = (xs.getD i default).name
  nn : ∀ i, i < xs.length → 0 ≤ (ys.getD i default).amt ∧ (ys.getD i default).amt ≤ n
  near : ∀ i, i < xs.length → -(sumA xs) < (ys.getD i default).amt * sumA xs - n * (xs.getD i default).amt ∧ (ys.getD i default).amt * sumA xs - n * (xs.getD i default).amt < sumA xs
  zero : ∀ i, i < xs.length → (xs.getD i default).amt = 0 → (ys.getD i default).amt = 0
  mono : ∀ i j, i < xs.length → j < xs.length → (xs.getD j default).amt < (xs.getD i default).amt → (ys.getD j default).amt ≤ (ys.getD i default).amt
  sum : sumA ys = n
theorem getD_in {xs : List Pr} {i : Nat} (h : i < xs.length) : xs.getD i default ∈ xs := by
  rw [List.getD_eq_getElem?_getD, List.getElem?_eq_getElem h]
  exact List.getElem_mem _
theorem share_ok {n : Int} {xs : List Pr} (hn : 0 ≤ n ∧ n ≤ 1073741824) (hp : partyE xs = 0) : ShareLaw n xs (shareL n xs) := by
  obtain ⟨k, hk⟩ : ∃ k, xs.length = k + 1 := ⟨xs.length - 1, by have := party_ne hp; omega⟩
  have hW := party_sum hp
  have hx : ∀ p ∈ xs, 0 ≤ p.amt := fun p hq => (party_in hp hq).1
  have hrl : (remL n (sumA xs) xs).length = k + 1 := by simp [remL, hk]
  have hrg : ∀ i : Fin (k + 1), (remL n (sumA xs) xs).getD i.val 0 = remP n (sumA xs) (xs.getD i.val default) := fun i => by
    have hi : i.val < xs.length := by rw [hk]; exact i.isLt
    unfold remL
    rw [List.getD_eq_getElem?_getD, List.getD_eq_getElem?_getD, List.getElem?_map, List.getElem?_eq_getElem hi]
    rfl
  have hq : ∀ i : Fin (k + 1), 0 ≤ n * (xs.getD i.val default).amt / sumA xs ∧ n * (xs.getD i.val default).amt / sumA xs * sumA xs ≤ n * (xs.getD i.val default).amt ∧ remP n (sumA xs) (xs.getD i.val default) = n * (xs.getD i.val default).amt - n * (xs.getD i.val default).amt / sumA xs * sumA xs ∧ 0 ≤ remP n (sumA xs) (xs.getD i.val default) ∧ remP n (sumA xs) (xs.getD i.val default) < sumA xs := fun i =>
    quo_bd (Int.mul_nonneg hn.1 (hx _ (getD_in (by rw [hk]; exact i.isLt)))) hW.1
  have h0 := left_nn hn.1 hp xs.length (Nat.le_refl _)
  have h1 := left_lt hn.1 hp
  have hl := left_law hn.1 hW.1 hx xs.length (Nat.le_refl _)
  rw [List.take_length, Int.sub_self, Int.zero_add] at hl
  have hlaw := share_law hn hp hk
  have hlt : ltR n (sumA xs) xs = ltA (k := k) (remL n (sumA xs) xs) := by
    funext x y
    unfold ltR ltA
    rw [hrg, hrg]
  rw [hlt, sort_same] at hlaw
  obtain ⟨L, hL⟩ := Int.eq_ofNat_of_zero_le h0
  rw [hL] at hlaw h1 hl
  rw [Int.toNat_natCast] at hlaw
  have hperm := sort_perm (k := k) (remL n (sumA xs) xs)
  have hpair := sort_pair (k := k) (remL n (sumA xs) xs)
  have hnd : (sortN (ltB (remL n (sumA xs) xs)) (finL k)).Nodup := hperm.nodup_iff.2 (List.nodup_finRange _)
  have hOl : (sortN (ltB (remL n (sumA xs) xs)) (finL k)).length = k + 1 := by rw [hperm.length_eq, finL_len]
  generalize hO : sortN (ltB (remL n (sumA xs) xs)) (finL k) = O at *
  have hbl : (baseL n (sumA xs) xs).length = k + 1 := by simp [baseL, hk]
  have hnc : (O.take L).Nodup := hnd.sublist (List.take_sublist _ _)
  have hbg : ∀ i : Fin (k + 1), (baseL n (sumA xs) xs).getD i.val default = quoP n (sumA xs) (xs.getD i.val default) := fun i => by
    have hi : i.val < xs.length := by rw [hk]; exact i.isLt
    unfold baseL
    rw [List.getD_eq_getElem?_getD, List.getD_eq_getElem?_getD, List.getElem?_map, List.getElem?_eq_getElem hi]
    rfl
  have hsg : ∀ i : Fin (k + 1), (shareL n xs).getD i.val default = ⟨(xs.getD i.val default).name, n * (xs.getD i.val default).amt / sumA xs + (if i ∈ O.take L then 1 else 0)⟩ := fun i => by
    rw [← hlaw, fold_getD _ _ hbl hnc i, hbg]
    rfl
  -- the sum of the remainders, in their order
  have hsum : (O.map fun i => remP n (sumA xs) (xs.getD i.val default)).sum = (L : Int) * sumA xs := by
    rw [hl]
    have e1 : (O.map fun i => remP n (sumA xs) (xs.getD i.val default)).sum = ((finL k).map fun i => remP n (sumA xs) (xs.getD i.val default)).sum := perm_sum (hperm.map _)
    rw [e1]
    congr 1
    unfold finL
    apply List.ext_getElem?
    intro t
    rw [List.getElem?_map, List.getElem?_map]
    by_cases ht : t < k + 1
    · rw [List.getElem?_eq_getElem (by simpa using ht), List.getElem?_eq_getElem (by omega)]
      simp only [List.getElem_finRange, Option.map_some]
      rw [List.getD_eq_getElem?_getD]
      simp only [Fin.cast_mk]
      rw [List.getElem?_eq_getElem (by omega)]
      rfl
    · rw [List.getElem?_eq_none (by simpa using ht), List.getElem?_eq_none (by omega)]
      rfl
  have hpos : ∀ i ∈ O.take L, 0 < remP n (sumA xs) (xs.getD i.val default) := fun i hi => by
    obtain ⟨j, hj, he⟩ := List.getElem_of_mem hi
    rw [List.length_take] at hj
    have hjL : j < L := by omega
    have hjO : j < O.length := by omega
    rw [List.getElem_take] at he
    refine Decidable.byContradiction fun hneg => ?_
    have hz : remP n (sumA xs) (xs.getD i.val default) = 0 := by have := (hq i).2.2.2.1; omega
    have hlow : ∀ y ∈ O.drop j, remP n (sumA xs) (xs.getD y.val default) ≤ 0 := fun y hy => by
      have hd : O.drop j = O[j] :: O.drop (j + 1) := List.drop_eq_getElem_cons hjO
      rw [hd, List.mem_cons] at hy
      rcases hy with rfl | hy
      · rw [he]; omega
      · have h3 : (O.drop j).Pairwise fun x y => ltB (remL n (sumA xs) xs) x y = true := hpair.sublist (List.drop_sublist _ _)
        rw [hd, List.pairwise_cons] at h3
        have h4 := h3.1 y hy
        rw [he] at h4
        unfold ltB at h4
        rw [decide_eq_true_eq, hrg, hrg] at h4
        omega
    have hup : ∀ l : List (Fin (k + 1)), (l.map fun i => remP n (sumA xs) (xs.getD i.val default)).sum ≤ (l.length : Int) * (sumA xs - 1) := by
      intro l
      induction l with
      | nil => simp
      | cons a l ih =>
        have := (hq a).2.2.2.2
        rw [List.map_cons, List.sum_cons, List.length_cons, Int.natCast_succ, Int.add_mul, Int.one_mul]
        omega
    have hdn : ∀ l : List (Fin (k + 1)), (∀ y ∈ l, remP n (sumA xs) (xs.getD y.val default) ≤ 0) → (l.map fun i => remP n (sumA xs) (xs.getD i.val default)).sum ≤ 0 := by
      intro l
      induction l with
      | nil => intro _; simp
      | cons a l ih =>
        intro h
        have := h a (by simp)
        have := ih fun y hy => h y (by simp [hy])
        rw [List.map_cons, List.sum_cons]
        omega
    have h5 := hup (O.take j)
    have h6 := hdn (O.drop j) hlow
    have h7 : (O.map fun i => remP n (sumA xs) (xs.getD i.val default)).sum = ((O.take j).map fun i => remP n (sumA xs) (xs.getD i.val default)).sum + ((O.drop j).map fun i => remP n (sumA xs) (xs.getD i.val default)).sum := by
      rw [← List.sum_append, ← List.map_append, List.take_append_drop]
    rw [hsum] at h7
    rw [List.length_take, Nat.min_eq_left (by omega)] at h5
    have h8 : (j : Int) * (sumA xs - 1) ≤ (j : Int) * sumA xs := Int.mul_le_mul_of_nonneg_left (by omega) (by omega)
    have h9 : ((j : Int) + 1) * sumA xs ≤ (L : Int) * sumA xs := Int.mul_le_mul_of_nonneg_right (by omega) (by omega)
    rw [Int.add_mul, Int.one_mul] at h9
    omega
  have hnear : ∀ i : Fin (k + 1), -(sumA xs) < ((shareL n xs).getD i.val default).amt * sumA xs - n * (xs.getD i.val default).amt ∧ ((shareL n xs).getD i.val default).amt * sumA xs - n * (xs.getD i.val default).amt < sumA xs := fun i => by
    rw [hsg i]
    obtain ⟨a1, a2, a3, a4, a5⟩ := hq i
    dsimp only
    split
    · rename_i hi
      have := hpos i hi
      rw [Int.add_mul, Int.one_mul]
      omega
    · rw [Int.add_zero]
      omega
  have hval : ∀ i, i < xs.length → ∃ j : Fin (k + 1), i = j.val := fun i hi => ⟨⟨i, by omega⟩, rfl⟩
  refine ⟨?_, fun i hi => ?_, fun i hi => ?_, fun i hi => ?_, fun i hi h => ?_, fun i j hi hj h => ?_, ?_⟩
  · rw [← hlaw, fold_lenP, hbl, hk]
  · obtain ⟨j, rfl⟩ := hval i hi
    rw [hsg j]
  · obtain ⟨j, rfl⟩ := hval i hi
    have h2 := hnear j
    obtain ⟨a1, a2, a3, a4, a5⟩ := hq j
    refine ⟨?_, ?_⟩
    · rw [hsg j]
      dsimp only
      split <;> omega
    · have h3 : n * (xs.getD j.val default).amt ≤ n * sumA xs := Int.mul_le_mul_of_nonneg_left (amt_le_sum hx (getD_in hi)) hn.1
      have h4 : ((shareL n xs).getD j.val default).amt * sumA xs < (n + 1) * sumA xs := by rw [Int.add_mul, Int.one_mul]; omega
      have := Int.lt_of_mul_lt_mul_right h4 (by omega)
      omega
  · obtain ⟨j, rfl⟩ := hval i hi
    exact hnear j
  · obtain ⟨j, rfl⟩ := hval i hi
    rw [hsg j]
    dsimp only
    have hz : remP n (sumA xs) (xs.getD j.val default) = 0 := by unfold remP; rw [h, Int.mul_zero, Int.zero_emod]
    rw [if_neg fun hm => by have := hpos j hm; omega, h, Int.mul_zero, Int.zero_ediv]
    rfl
  · obtain ⟨i, rfl⟩ := hval i hi
    obtain ⟨j, rfl⟩ := hval j hj
    have h2 : n * (xs.getD j.val default).amt ≤ n * (xs.getD i.val default).amt := Int.mul_le_mul_of_nonneg_left (by omega) hn.1
    have h3 := Int.ediv_le_ediv hW.1 h2
    rw [hsg i, hsg j]
    dsimp only
    by_cases hji : j ∈ O.take L
    · by_cases hii : i ∈ O.take L
      · rw [if_pos hji, if_pos hii]; omega
      · rw [if_pos hji, if_neg hii]
        rcases Int.lt_or_eq_of_le h3 with h4 | h4
        · omega
        · exfalso
          obtain ⟨a1, a2, a3, a4, a5⟩ := hq i
          obtain ⟨b1, b2, b3, b4, b5⟩ := hq j
          have hn0 : 0 < n := by
            rcases Int.lt_or_eq_of_le hn.1 with h5 | h5
            · exact h5
            · have hr := hpos j hji
              unfold remP at hr
              rw [← h5, Int.zero_mul, Int.zero_emod] at hr
              omega
          have h5 : n * (xs.getD j.val default).amt < n * (xs.getD i.val default).amt := Int.mul_lt_mul_of_pos_left h hn0
          rw [h4] at b3
          have h6 : remP n (sumA xs) (xs.getD j.val default) < remP n (sumA xs) (xs.getD i.val default) := by omega
          -- i comes before j
          have hiO : i ∈ O.drop L := by
            have : i ∈ O := hperm.mem_iff.2 (List.mem_finRange i)
            rw [← List.take_append_drop L O, List.mem_append] at this
            exact this.resolve_left hii
          have h7 := List.pairwise_append.1 (show (O.take L ++ O.drop L).Pairwise fun x y => ltB (remL n (sumA xs) xs) x y = true by rw [List.take_append_drop]; exact hpair)
          have h8 := h7.2.2 j hji i hiO
          unfold ltB at h8
          rw [decide_eq_true_eq, hrg, hrg] at h8
          omega
    · rw [if_neg hji]
      split <;> omega
  · rw [← hlaw, sum_fold _ _ hbl, List.length_take, Nat.min_eq_left (by omega)]
    have : sumA (baseL n (sumA xs) xs) = n - (L : Int) := by
      have h2 : leftI n (sumA xs) xs xs.length = n - sumA (baseL n (sumA xs) xs) := by
        unfold leftI sumA baseL
        rw [List.take_length, List.map_map]
        rfl
      omega
    omega
end Go.Proofs.Ytnflkbgappgdiaa
