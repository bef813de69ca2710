import Derived.Test.YtnflkbgappgdiaaEm
namespace Go.Proofs.Ytnflkbgappgdiaa
open Go.RowKit Go.Sort

/-! ### The order of the remainders -/
section
variable {k : Nat} (r : List Int)
def ltA (x y : Fin (k + 1)) : Bool := decide (r.getD x.val 0 > r.getD y.val 0)
def ltB (x y : Fin (k + 1)) : Bool := decide (r.getD x.val 0 > r.getD y.val 0 ∨ (r.getD x.val 0 = r.getD y.val 0 ∧ x.val < y.val))
theorem ltAB {x y : Fin (k + 1)} (h : y.val < x.val) : ltA r x y = ltB r x y := by
  unfold ltA ltB
  rw [Bool.eq_iff_iff, decide_eq_true_eq, decide_eq_true_eq]
  omega
theorem swoB : SWO (ltB (k := k) r) := by
  refine ⟨fun x => ?_, fun x y z h1 h2 => ?_, fun x y z h1 h2 => ?_⟩
  · simp [ltB]
  · unfold ltB at *
    rw [decide_eq_true_eq] at *
    omega
  · unfold ltB at *
    rw [decide_eq_false_iff_not] at *
    omega
/-- Moving down the greatest: both orders say the same. -/
theorem ins_same : ∀ (j : Nat) (d : Array (Fin (k + 1))), j < d.size → (∀ t, t < j → d[t]!.val < d[j]!.val) → insInner (ltA r) 0 j d = insInner (ltB r) 0 j d
  | 0, d, _, _ => by unfold insInner; rfl
  | j + 1, d, hj, h => by
    unfold insInner
    rw [ltAB r (h j (by omega))]
    split
    · refine ins_same j _ (by rw [size_swp]; omega) fun t ht => ?_
      rw [swp_right d (j + 1) j (by omega), swp_other d _ _ t (by omega) (by omega)]
      exact h t (by omega)
    · rfl
theorem ins_keep (lt : Fin (k + 1) → Fin (k + 1) → Bool) : ∀ (j : Nat) (d : Array (Fin (k + 1))) (b : Nat), j < d.size → (∀ t, t ≤ j → d[t]!.val < b) → (∀ t, t ≤ j → (insInner lt 0 j d)[t]!.val < b) ∧ ∀ t, j < t → (insInner lt 0 j d)[t]! = d[t]!
  | 0, d, b, _, h => by unfold insInner; exact ⟨h, fun _ _ => rfl⟩
  | j + 1, d, b, hj, h => by
    unfold insInner
    split
    · have hl := swp_left d (j + 1) j (by omega) (by omega)
      have hr := swp_right d (j + 1) j (by omega)
      have ho := fun t => swp_other d (j + 1) j t
      obtain ⟨h1, h2⟩ := ins_keep lt j (swp d (j + 1) j) b (by rw [size_swp]; omega) (fun t ht => by
        by_cases he : t = j
        · subst he; rw [hr]; exact h _ (by omega)
        · rw [ho t (by omega) he]; exact h t (by omega))
      refine ⟨fun t ht => ?_, fun t ht => ?_⟩
      · by_cases he : t = j + 1
        · subst he; rw [h2 _ (by omega), hl]; exact h j (by omega)
        · exact h1 t (by omega)
      · rw [h2 t (by omega), ho t (by omega) (by omega)]
    · exact ⟨h, fun _ _ => rfl⟩
theorem outer_same : ∀ (n i : Nat) (d : Array (Fin (k + 1))), d.size - i = n → (∀ t, t < i → d[t]!.val < i) → (∀ t, i ≤ t → t < d.size → d[t]!.val = t) → insOuter (ltA r) 0 d.size i d = insOuter (ltB r) 0 d.size i d
  | 0, i, d, hn, _, _ => by unfold insOuter; rw [if_neg (by omega), if_neg (by omega)]
  | n + 1, i, d, hn, h1, h2 => by
    have hi : i < d.size := by omega
    have e1 : insInner (ltA r) 0 i d = insInner (ltB r) 0 i d := ins_same r i d hi fun t ht => by rw [h2 i (Nat.le_refl _) hi]; exact h1 t ht
    obtain ⟨k1, k2⟩ := ins_keep (ltB r) i d (i + 1) hi fun t ht => by
      rcases Nat.lt_or_ge t i with h | h
      · have := h1 t h; omega
      · obtain rfl : t = i := by omega
        rw [h2 t (Nat.le_refl _) hi]; omega
    unfold insOuter
    rw [if_pos hi, if_pos hi, e1]
    have hs : (insInner (ltB r) 0 i d).size = d.size := size_insInner _ _ _ _
    have := outer_same n (i + 1) (insInner (ltB r) 0 i d) (by rw [hs]; omega) (fun t ht => k1 t (by omega)) (fun t ht htd => by rw [k2 t (by omega)]; exact h2 t (by omega) (by omega))
    rw [hs] at this
    exact this
def finL (k : Nat) : List (Fin (k + 1)) := List.finRange (k + 1)
theorem finL_len : (finL k).length = k + 1 := by simp [finL]
theorem finL_get (t : Nat) (h : t < k + 1) : (finL k).toArray[t]! = ⟨t, h⟩ := by
  rw [getElem!_pos _ _ (by simp [finL]; omega)]
  simp [finL]
theorem sort_same : sortN (ltA r) (finL k) = sortN (ltB r) (finL k) := by
  unfold sortN
  split
  · rfl
  · unfold insertionSort
    rw [outer_same r _ 1 (finL k).toArray rfl (fun t ht => by rw [finL_get t (by omega)]; exact ht) (fun t _ ht => by
      have : t < k + 1 := by simpa [finL] using ht
      rw [finL_get t this])]
/-- The sorted places: all of them, each before those that follow. -/
theorem sort_perm : (sortN (ltB r) (finL k)).Perm (finL k) := by
  unfold sortN
  split
  · exact List.Perm.refl _
  · have h := (insertionSort_holds (swoB (k := k) r) (finL k).toArray 0 (finL k).toArray.size (Nat.zero_le _) (Nat.le_refl _)).1
    have h2 := h.2.2
    rw [show (insertionSort (ltB r) (finL k).toArray 0 (finL k).toArray.size).extract 0 (finL k).toArray.size = insertionSort (ltB r) (finL k).toArray 0 (finL k).toArray.size by
      conv => lhs; arg 3; rw [← h.1]
      simp] at h2
    simpa using h2
theorem sort_pair : (sortN (ltB r) (finL k)).Pairwise fun x y => ltB r x y = true := by
  have hp := sort_perm (k := k) r
  have hnd : (sortN (ltB r) (finL k)).Nodup := hp.nodup_iff.2 (List.nodup_finRange _)
  have hs : (sortN (ltB r) (finL k)).Pairwise fun x y => ltB r y x = false := by
    unfold sortN
    split
    · rename_i h
      match hf : finL k, h with
      | [], _ => exact List.Pairwise.nil
      | [x], _ => exact List.pairwise_singleton _ _
    · have h := (insertionSort_holds (swoB (k := k) r) (finL k).toArray 0 (finL k).toArray.size (Nat.zero_le _) (Nat.le_refl _)).2
      have hsz := size_insSort (ltB r) (finL k).toArray 0 (finL k).toArray.size
      rw [List.pairwise_iff_getElem]
      intro i j hi hj hij
      have := h i j (Nat.zero_le _) hij (by rw [Array.length_toList] at hj; omega)
      rw [getElem!_pos _ _ (by simpa using hj), getElem!_pos _ _ (by simpa using hi)] at this
      simpa using this
  refine (List.Pairwise.and hs hnd).imp ?_
  rintro x y ⟨h1, h2⟩
  unfold ltB at *
  rw [decide_eq_false_iff_not] at h1
  rw [decide_eq_true_eq]
  have : x.val ≠ y.val := fun e => h2 (Fin.ext e)
  omega
end
theorem bestN_law (rs : List Int) : ∀ i, 0 < i → (∀ t, t < i → rs.getD t 0 ≤ rs.getD (bestN rs i) 0) ∧ ∀ t, t < bestN rs i → rs.getD t 0 < rs.getD (bestN rs i) 0 := by
  intro i
  induction i with
  | zero => intro h; omega
  | succ i ih =>
    intro _
    unfold bestN
    rcases Nat.eq_zero_or_pos i with rfl | h0
    · simp [bestN]
    · obtain ⟨h1, h2⟩ := ih h0
      split
      · rename_i hc
        refine ⟨fun t ht => ?_, fun t ht => ?_⟩
        · rcases Nat.lt_or_ge t i with h | h
          · have := h1 t h; omega
          · obtain rfl : t = i := by omega
            omega
        · have := h1 t ht; omega
      · rename_i hc
        refine ⟨fun t ht => ?_, h2⟩
        rcases Nat.lt_or_ge t i with h | h
        · exact h1 t h
        · obtain rfl : t = i := by omega
          omega
theorem best_of {rs : List Int} {b : Nat} (hb : b < rs.length) (h1 : ∀ i, i < b → rs.getD i 0 < rs.getD b 0) (h2 : ∀ i, i < rs.length → rs.getD i 0 ≤ rs.getD b 0) : best rs = b := by
  obtain ⟨g1, g2⟩ := bestN_law rs rs.length (by omega)
  have hl := bestN_lt rs rs.length (by omega)
  have a1 := g1 b hb
  have a2 := h2 _ hl
  show bestN rs rs.length = b
  rcases Nat.lt_trichotomy (bestN rs rs.length) b with h | h | h
  · have := h1 _ h; omega
  · exact h
  · have := g2 _ h; omega
section
variable {k : Nat}
def markO (r : List Int) (l : List (Fin (k + 1))) : List Int := l.foldl (fun rs x => rs.set x.val (-1)) r
theorem mark_len (l : List (Fin (k + 1))) : ∀ r : List Int, (markO r l).length = r.length := by
  unfold markO
  induction l with
  | nil => intro r; rfl
  | cons x l ih => intro r; rw [List.foldl_cons, ih]; simp
theorem mark_get (l : List (Fin (k + 1))) : ∀ (r : List Int), r.length = k + 1 → ∀ x : Fin (k + 1), (markO r l).getD x.val 0 = if x ∈ l then -1 else r.getD x.val 0 := by
  unfold markO
  induction l with
  | nil => intro r _ x; simp
  | cons y l ih =>
    intro r hr x
    rw [List.foldl_cons, ih _ (by simpa using hr)]
    by_cases hx : x ∈ l
    · rw [if_pos hx, if_pos (by simp [hx])]
    · rw [if_neg hx]
      by_cases hxy : x = y
      · subst hxy
        rw [if_pos (by simp), List.getD_eq_getElem?_getD, List.getElem?_set_self (by rw [hr]; exact x.isLt)]
        rfl
      · rw [if_neg (by simp [hx, hxy]), List.getD_eq_getElem?_getD, List.getElem?_set_ne (fun e => hxy (Fin.ext e.symm)), List.getD_eq_getElem?_getD]
theorem bump_sort {r : List Int} (hr : r.length = k + 1) (hnn : ∀ x ∈ r, 0 ≤ x) : ∀ (f j : Nat) (ps : List Pr), j + f ≤ k + 1 →
    bumpF f (markO r ((sortN (ltB r) (finL k)).take j)) ps = (((sortN (ltB r) (finL k)).drop j).take f).foldl (fun ps x => bumpAt ps x.val) ps := by
  have hp := sort_perm (k := k) r
  have hlen : (sortN (ltB r) (finL k)).length = k + 1 := by rw [hp.length_eq, finL_len]
  have hnd : (sortN (ltB r) (finL k)).Nodup := hp.nodup_iff.2 (List.nodup_finRange _)
  have hpw := sort_pair (k := k) r
  generalize hO : sortN (ltB r) (finL k) = O at *
  have hr0 : ∀ x : Fin (k + 1), 0 ≤ r.getD x.val 0 := fun x => by
    rw [List.getD_eq_getElem?_getD, List.getElem?_eq_getElem (by rw [hr]; exact x.isLt)]
    exact hnn _ (List.getElem_mem _)
  intro f
  induction f with
  | zero => intro j ps _; simp [bumpF]
  | succ f ih =>
    intro j ps hj
    have hjl : j < O.length := by omega
    have hd : O.drop j = O[j] :: O.drop (j + 1) := List.drop_eq_getElem_cons hjl
    rw [hd, List.take_succ_cons, List.foldl_cons, ← ih (j + 1) _ (by omega)]
    have hsplit : O.take (j + 1) = O.take j ++ [O[j]] := by rw [List.take_add_one, List.getElem?_eq_getElem hjl]; rfl
    have hnot : O[j] ∉ O.take j := fun hm => by
      have h1 : (O.take j ++ [O[j]]).Nodup := by rw [← hsplit]; exact List.Nodup.sublist (List.take_sublist _ _) hnd
      rw [List.nodup_append] at h1
      exact h1.2.2 _ hm _ (by simp) rfl
    have hgb : (markO r (O.take j)).getD O[j].val 0 = r.getD O[j].val 0 := by rw [mark_get _ _ hr, if_neg hnot]
    have hml := mark_len (O.take j) r
    have hrest : ∀ x : Fin (k + 1), x ∉ O.take j → x = O[j] ∨ ltB r O[j] x = true := fun x hx => by
      have hxO : x ∈ O := hp.mem_iff.2 (List.mem_finRange x)
      rw [← List.take_append_drop j O, List.mem_append, hd, List.mem_cons] at hxO
      rcases hxO with h | h | h
      · exact absurd h hx
      · exact .inl h
      · have h1 : (O.drop j).Pairwise fun x y => ltB r x y = true := hpw.sublist (List.drop_sublist _ _)
        rw [hd, List.pairwise_cons] at h1
        exact .inr (h1.1 x h)
    have hbest : best (markO r (O.take j)) = O[j].val := by
      refine best_of (by rw [hml, hr]; exact O[j].isLt) (fun i hi => ?_) (fun i hi => ?_)
      · have hik : i < k + 1 := by have := O[j].isLt; omega
        have := mark_get (O.take j) r hr ⟨i, hik⟩
        rw [this, hgb]
        split
        · have := hr0 O[j]; omega
        · rename_i hn
          rcases hrest ⟨i, hik⟩ hn with h | h
          · rw [← h] at hi; simp at hi
          · unfold ltB at h; rw [decide_eq_true_eq] at h; have h : (r.getD O[j].val 0 > r.getD i 0 ∨ (r.getD O[j].val 0 = r.getD i 0 ∧ O[j].val < i)) := h; show r.getD i 0 < _; omega
      · have hik : i < k + 1 := by rw [hml, hr] at hi; exact hi
        have := mark_get (O.take j) r hr ⟨i, hik⟩
        rw [this, hgb]
        split
        · have := hr0 O[j]; omega
        · rename_i hn
          rcases hrest ⟨i, hik⟩ hn with h | h
          · rw [← h]; exact Int.le_refl _
          · unfold ltB at h; rw [decide_eq_true_eq] at h; have h : (r.getD O[j].val 0 > r.getD i 0 ∨ (r.getD O[j].val 0 = r.getD i 0 ∧ O[j].val < i)) := h; show r.getD i 0 ≤ _; omega
    show bumpF f ((markO r (O.take j)).set (best (markO r (O.take j))) (-1)) (bumpAt ps (best (markO r (O.take j)))) = _
    rw [hbest]
    congr 1
    rw [hsplit]
    unfold markO
    rw [List.foldl_append]
    rfl
end
/-- What the sorted order gives is what the document's rounds give. -/
theorem share_law {n : Int} {xs : List Pr} {k : Nat} (hn : 0 ≤ n ∧ n ≤ 1073741824) (hp : partyE xs = 0) (hk : xs.length = k + 1) :
    (((sortN (ltR n (sumA xs) xs) (finL k)).take (leftI n (sumA xs) xs xs.length).toNat).foldl (fun ps x => bumpAt ps x.val) (baseL n (sumA xs) xs)) = shareL n xs := by
  have hrl : (remL n (sumA xs) xs).length = k + 1 := by simp [remL, hk]
  have hlt : ltR n (sumA xs) xs = ltA (k := k) (remL n (sumA xs) xs) := by
    funext x y
    unfold ltR ltA remL
    have hg : ∀ z : Fin (k + 1), (xs.map (remP n (sumA xs))).getD z.val 0 = remP n (sumA xs) (xs.getD z.val default) := fun z => by
      have hz : z.val < xs.length := by rw [hk]; exact z.isLt
      rw [List.getD_eq_getElem?_getD, List.getD_eq_getElem?_getD, List.getElem?_map, List.getElem?_eq_getElem hz]
      rfl
    rw [hg, hg]
  have hnn : ∀ x ∈ remL n (sumA xs) xs, 0 ≤ x := fun x hx => by
    obtain ⟨p, hpm, rfl⟩ := List.mem_map.1 hx
    exact (quo_bd (Int.mul_nonneg hn.1 (party_in hp hpm).1) (party_sum hp).1).2.2.2.1
  have h0 := left_nn hn.1 hp xs.length (Nat.le_refl _)
  have h1 := left_lt hn.1 hp
  rw [hlt, sort_same]
  have := bump_sort hrl hnn (leftI n (sumA xs) xs xs.length).toNat 0 (baseL n (sumA xs) xs) (by omega)
  rw [List.drop_zero, List.take_zero] at this
  exact this.symm
end Go.Proofs.Ytnflkbgappgdiaa
