import Derived.Test.YtjgbbffcjbmjmaaFe
namespace Go.Proofs.Ytjgbbffcjbmjmaa
open Go.RowKit
set_option linter.unusedSimpArgs false
set_option linter.unusedVariables false

/-! ### Sums -/
def sumN (n : Nat) (g : Nat → Int) : Int := ((List.range n).map g).sum
theorem sumN_zero {g : Nat → Int} : sumN 0 g = 0 := rfl
theorem sumN_succ {n : Nat} {g : Nat → Int} : sumN (n + 1) g = sumN n g + g n := by
  unfold sumN
  rw [List.range_succ, List.map_append, List.sum_append]
  simp
theorem sumN_le {g g' : Nat → Int} : ∀ {n : Nat}, (∀ i, i < n → g i ≤ g' i) → sumN n g ≤ sumN n g'
  | 0, _ => Int.le_refl _
  | n + 1, h => by
    rw [sumN_succ, sumN_succ]
    have h1 := sumN_le (n := n) fun i hi => h i (by omega)
    have h2 := h n (by omega)
    omega
theorem sumN_congr {g g' : Nat → Int} {n : Nat} (h : ∀ i, i < n → g i = g' i) : sumN n g = sumN n g' := by
  have h1 := sumN_le (n := n) (g := g) (g' := g') fun i hi => by rw [h i hi]; exact Int.le_refl _
  have h2 := sumN_le (n := n) (g := g') (g' := g) fun i hi => by rw [h i hi]; exact Int.le_refl _
  omega
theorem sumN_add {g g' : Nat → Int} : ∀ {n : Nat}, sumN n (fun i => g i + g' i) = sumN n g + sumN n g'
  | 0 => rfl
  | n + 1 => by
    rw [sumN_succ, sumN_succ, sumN_succ, sumN_add (n := n)]
    omega
theorem sumN_nonneg {g : Nat → Int} : ∀ {n : Nat}, (∀ i, i < n → 0 ≤ g i) → 0 ≤ sumN n g
  | 0, _ => Int.le_refl _
  | n + 1, h => by
    rw [sumN_succ]
    have h1 := sumN_nonneg (n := n) fun i hi => h i (by omega)
    have h2 := h n (by omega)
    omega
theorem sumN_mono {g : Nat → Int} {m : Nat} : ∀ {d : Nat}, (∀ i, m ≤ i → i < m + d → 0 ≤ g i) → sumN m g ≤ sumN (m + d) g
  | 0, _ => Int.le_refl _
  | d + 1, h => by
    rw [show m + (d + 1) = (m + d) + 1 from rfl, sumN_succ]
    have h1 := sumN_mono (g := g) (m := m) (d := d) fun i hi hi' => h i hi (by omega)
    have h2 := h (m + d) (by omega) (by omega)
    omega
theorem sumN_upd {g : Nat → Int} {j : Nat} {x : Int} : ∀ {n : Nat}, j < n → sumN n (fun i => if i = j then x else g i) = sumN n g - g j + x
  | 0, h => by omega
  | n + 1, h => by
    rw [sumN_succ, sumN_succ]
    by_cases hj : j = n
    · subst hj
      rw [if_pos rfl, sumN_congr (g' := g) fun i hi => if_neg (by omega)]
      omega
    · rw [sumN_upd (n := n) (by omega), if_neg (fun h => hj h.symm)]
      omega
theorem sum_getD : ∀ {l : List Int}, l.sum = sumN l.length (gI l)
  | [] => rfl
  | x :: l => by
    have h1 : ∀ (n : Nat) (g : Nat → Int), sumN (n + 1) g = g 0 + sumN n (fun i => g (i + 1)) := fun n g => by
      unfold sumN
      rw [List.range_succ_eq_map]
      simp only [List.map_cons, List.sum_cons, List.map_map]
      rfl
    rw [List.sum_cons, List.length_cons, h1, sum_getD]
    have h2 : ∀ i, gI (x :: l) (i + 1) = gI l i := fun i => rfl
    simp only [h2]
    rfl
theorem perm_sum {l1 l2 : List Int} (h : l1.Perm l2) : l1.sum = l2.sum := by
  induction h with
  | nil => rfl
  | cons x _ ih => rw [List.sum_cons, List.sum_cons, ih]
  | swap x y l => rw [List.sum_cons, List.sum_cons, List.sum_cons, List.sum_cons]; omega
  | trans _ _ h1 h2 => rw [h1, h2]
theorem sub_sum {g : Nat → Int} : ∀ {l1 l2 : List Nat}, l1.Nodup → (∀ x ∈ l1, x ∈ l2) → (∀ x ∈ l2, 0 ≤ g x) → (l1.map g).sum ≤ (l2.map g).sum
  | [], l2, _, _, h => by
    show 0 ≤ _
    induction l2 with
    | nil => exact Int.le_refl _
    | cons y l2 ih =>
      rw [List.map_cons, List.sum_cons]
      have h1 := h y (by simp)
      have h2 := ih (fun x hx => absurd hx (by simp)) fun x hx => h x (by simp [hx])
      omega
  | x :: l1, l2, hn, hs, h => by
    have hx : x ∈ l2 := hs x (by simp)
    have hp := (List.perm_cons_erase hx).map g
    have h1 : (l2.map g).sum = ((x :: l2.erase x).map g).sum := perm_sum hp
    rw [h1, List.map_cons, List.sum_cons, List.map_cons, List.sum_cons]
    have hn' := List.nodup_cons.1 hn
    have h2 := sub_sum (g := g) (l1 := l1) (l2 := l2.erase x) hn'.2 (fun y hy => (List.mem_erase_of_ne (fun he => hn'.1 (by subst he; exact hy))).2 (hs y (by simp [hy]))) fun y hy => h y (List.mem_of_mem_erase hy)
    omega
theorem nodup_map {f : Nat → Nat} : ∀ {l : List Nat}, l.Nodup → (∀ x ∈ l, ∀ y ∈ l, f x = f y → x = y) → (l.map f).Nodup
  | [], _, _ => by simp
  | x :: l, hn, h => by
    have hn' := List.nodup_cons.1 hn
    rw [List.map_cons, List.nodup_cons]
    refine ⟨fun hm => ?_, nodup_map hn'.2 fun a ha b hb => h a (by simp [ha]) b (by simp [hb])⟩
    obtain ⟨y, hy, he⟩ := List.mem_map.1 hm
    have := h y (by simp [hy]) x (by simp) he
    subst this
    exact hn'.1 hy
theorem one_sum : ∀ {l : List Nat}, (l.map fun _ => (1 : Int)).sum = (l.length : Nat)
  | [] => rfl
  | x :: l => by
    rw [List.map_cons, List.sum_cons, one_sum, List.length_cons]
    omega
theorem sub_len {l1 l2 : List Nat} (hn : l1.Nodup) (hs : ∀ x ∈ l1, x ∈ l2) : l1.length ≤ l2.length := by
  have := sub_sum (g := fun _ => 1) hn hs fun _ _ => by omega
  rw [one_sum, one_sum] at this
  omega

/-! ### Pairings and prices -/
abbrev term (sc : Nat → Nat → Int) (p : Nat → Int) (i : Nat) : Int := if 0 ≤ p i then sc i (p i).toNat else 0
structure Prg (R F : Nat) (p : Nat → Int) : Prop where
  rg : ∀ i, i < R → -1 ≤ p i ∧ p i < F
  inj : ∀ i j, i < R → j < R → 0 ≤ p i → p i = p j → i = j
theorem term_list {p : Nat → Int} {cols : Nat → Int} : ∀ (l : List Nat), (l.map (term (fun _ k => cols k) p)).sum = ((l.filter fun i => decide (0 ≤ p i)).map fun i => cols (p i).toNat).sum
  | [] => rfl
  | x :: l => by
    rw [List.map_cons, List.sum_cons, term_list l, List.filter_cons]
    by_cases h : 0 ≤ p x
    · simp [term, h]
    · simp [term, h]
theorem cols_le {R F : Nat} {p : Nat → Int} {cols : Nat → Int} (hp : Prg R F p) (hc : ∀ k, k < F → 0 ≤ cols k) : sumN R (term (fun _ k => cols k) p) ≤ sumN F cols := by
  unfold sumN
  rw [term_list]
  have h := sub_sum (g := cols) (l1 := ((List.range R).filter fun i => decide (0 ≤ p i)).map fun i => (p i).toNat) (l2 := List.range F)
    (nodup_map (List.nodup_range.filter _) fun x hx y hy he => by
      have hx' := List.mem_filter.1 hx
      have hy' := List.mem_filter.1 hy
      have h1 := of_decide_eq_true hx'.2
      have h2 := of_decide_eq_true hy'.2
      exact hp.inj x y (List.mem_range.1 hx'.1) (List.mem_range.1 hy'.1) h1 (by omega))
    (fun x hx => by
      obtain ⟨y, hy, rfl⟩ := List.mem_map.1 hx
      have hy' := List.mem_filter.1 hy
      have h1 := of_decide_eq_true hy'.2
      have := hp.rg y (List.mem_range.1 hy'.1)
      exact List.mem_range.2 (by omega))
    (fun x hx => hc x (List.mem_range.1 hx))
  rw [List.map_map] at h
  exact h
theorem weak {R F : Nat} {p : Nat → Int} {sc : Nat → Nat → Int} {rows cols : Nat → Int} (hp : Prg R F p) (hc : ∀ k, k < F → 0 ≤ cols k) (hr : ∀ i, i < R → 0 ≤ rows i)
    (fe : ∀ i k, i < R → k < F → sc i k ≤ rows i + cols k) : sumN R (term sc p) ≤ sumN R rows + sumN F cols := by
  have h1 := cols_le hp hc
  have h2 : sumN R (term sc p) ≤ sumN R (fun i => rows i + term (fun _ k => cols k) p i) := sumN_le fun i hi => by
    have h3 := hp.rg i hi
    have h4 := hr i hi
    unfold term
    by_cases h5 : 0 ≤ p i
    · rw [if_pos h5, if_pos h5]
      exact fe i (p i).toNat hi (by omega)
    · rw [if_neg h5, if_neg h5]
      omega
  rw [sumN_add] at h2
  omega

/-! ### What the square's solution says of the pairs -/
structure Mat where
  pairs : List Int
  rows : List Int
  cols : List Int
  total : Int
/-- the pairing with its prices -/
structure Good (R F : Nat) (B : Int) (sc : Nat → Nat → Int) (m : Mat) : Prop where
  pl : m.pairs.length = R
  rl : m.rows.length = R
  cl : m.cols.length = F
  pr : Prg R F (gI m.pairs)
  pos : ∀ i, i < R → 0 ≤ gI m.pairs i → 0 < sc i (gI m.pairs i).toNat
  tot : m.total = sumN R (term sc (gI m.pairs))
  r0 : ∀ i, i < R → 0 ≤ gI m.rows i ∧ gI m.rows i ≤ B
  c0 : ∀ k, k < F → 0 ≤ gI m.cols k ∧ gI m.cols k ≤ B
  fe : ∀ i k, i < R → k < F → sc i k ≤ gI m.rows i + gI m.cols k
  sum : sumN R (gI m.rows) + sumN F (gI m.cols) = m.total
theorem Good.best {R F : Nat} {B : Int} {sc : Nat → Nat → Int} {m : Mat} (h : Good R F B sc m) {p : Nat → Int} (hp : Prg R F p) : sumN R (term sc p) ≤ m.total := by
  have := weak hp (fun k hk => (h.c0 k hk).1) (fun i hi => (h.r0 i hi).1) h.fe
  have h2 := h.sum
  omega
def sqF (R F : Nat) (sc : Nat → Nat → Int) : List (List Int) := (List.range (max R F)).map fun i => (List.range (max R F)).map fun k => if i < R ∧ k < F then sc i k else 0
theorem sqF_len {R F : Nat} {sc : Nat → Nat → Int} : (sqF R F sc).length = max R F := by simp [sqF]
theorem sqF_row {R F : Nat} {sc : Nat → Nat → Int} {i : Nat} (h : i < max R F) : (sqF R F sc).getD i default = (List.range (max R F)).map fun k => if i < R ∧ k < F then sc i k else 0 := by
  unfold sqF
  rw [List.getD_eq_getElem?_getD, List.getElem?_map, List.getElem?_range h]
  rfl
theorem sqF_at {R F : Nat} {sc : Nat → Nat → Int} {i k : Nat} (h : i < max R F) (hk : k < max R F) : gI ((sqF R F sc).getD i default) k = if i < R ∧ k < F then sc i k else 0 := by
  rw [sqF_row h]
  show List.getD _ k default = _
  rw [List.getD_eq_getElem?_getD, List.getElem?_map, List.getElem?_range hk]
  rfl
theorem sqF_ok {R F : Nat} {sc : Nat → Nat → Int} {B : Int} (hB : 0 ≤ B) (h : ∀ i k, 0 ≤ sc i k ∧ sc i k ≤ B) : WOk (sqF R F sc).length B (sqF R F sc) := by
  refine ⟨rfl, fun i hi => ?_, fun r k hr hk => ?_⟩
  · rw [sqF_len] at hi ⊢
    rw [sqF_row hi]
    simp
  · rw [sqF_len] at hr hk
    rw [sqF_at hr hk]
    split
    · exact h r k
    · omega
/-- one column of the solution -/
def pstep (R : Nat) (W : List (List Int)) (to : List Int) (s : List Int × Int) (k : Nat) : List Int × Int :=
  if gI to k < R ∧ 0 < gI (W.getD (gI to k).toNat default) k then (s.1.set (gI to k).toNat k, s.2 + gI (W.getD (gI to k).toNat default) k) else s
def pairsF (R F : Nat) (W : List (List Int)) (to : List Int) : List Int × Int := (List.range F).foldl (pstep R W to) (List.replicate R (-1), 0)
def matchM (R F : Nat) (sc : Nat → Nat → Int) : Mat :=
  ⟨(pairsF R F (sqF R F sc) (asgF (sqF R F sc)).1).1, (asgF (sqF R F sc)).2.1.take R, (asgF (sqF R F sc)).2.2.take F, (pairsF R F (sqF R F sc) (asgF (sqF R F sc)).1).2⟩
section
variable {n : Nat} {B : Int} {W : List (List Int)} {to rows cols : List Int}
theorem gI_take {l : List Int} {m i : Nat} (h : i < m) : gI (l.take m) i = gI l i := by
  show List.getD _ _ _ = List.getD _ _ _
  rw [List.getD_eq_getElem?_getD, List.getD_eq_getElem?_getD, List.getElem?_take_of_lt h]
/-- every column has a row at the end -/
theorem PInv.full (h : PInv n B W n to rows cols) : ∀ k, k < n → 0 ≤ gI to k := fun k0 hk0 => by
  refine Classical.byContradiction fun hno => ?_
  have hl := sub_len (l1 := List.range n) (l2 := ((List.range n).filter fun k => decide (k ≠ k0)).map fun k => (gI to k).toNat) List.nodup_range fun r hr => by
    obtain ⟨k, hk, he⟩ := h.al r (List.mem_range.1 hr)
    refine List.mem_map.2 ⟨k, List.mem_filter.2 ⟨List.mem_range.2 hk, ?_⟩, by omega⟩
    refine decide_eq_true fun he' => ?_
    subst he'
    omega
  rw [List.length_map, List.length_range] at hl
  have h2 := sub_len (l1 := k0 :: ((List.range n).filter fun k => decide (k ≠ k0))) (l2 := List.range n) (List.nodup_cons.2 ⟨fun hm => by simpa using (List.mem_filter.1 hm).2, List.nodup_range.filter _⟩) fun x hx => by
    rcases List.mem_cons.1 hx with rfl | hx
    · exact List.mem_range.2 hk0
    · exact (List.mem_filter.1 hx).1
  rw [List.length_cons, List.length_range] at h2
  omega
/-- the prices of the rows, in the order of the columns -/
theorem PInv.perm (h : PInv n B W n to rows cols) (g : Nat → Int) (hg : ∀ i, i < n → 0 ≤ g i) : sumN n (fun k => g (gI to k).toNat) = sumN n g := by
  have hf := h.full
  have h1 := sub_sum (g := g) (l1 := (List.range n).map fun k => (gI to k).toNat) (l2 := List.range n)
    (nodup_map List.nodup_range fun x hx y hy he => by
      have h1 := hf x (List.mem_range.1 hx)
      have h2 := hf y (List.mem_range.1 hy)
      exact h.inj x y (List.mem_range.1 hx) (List.mem_range.1 hy) h1 (by omega))
    (fun x hx => by
      obtain ⟨k, hk, rfl⟩ := List.mem_map.1 hx
      have h1 := h.rg k (List.mem_range.1 hk)
      have h2 := hf k (List.mem_range.1 hk)
      exact List.mem_range.2 (by omega))
    (fun x hx => hg x (List.mem_range.1 hx))
  have h2 := sub_sum (g := g) (l1 := List.range n) (l2 := (List.range n).map fun k => (gI to k).toNat) List.nodup_range
    (fun r hr => by
      obtain ⟨k, hk, he⟩ := h.al r (List.mem_range.1 hr)
      exact List.mem_map.2 ⟨k, List.mem_range.2 hk, by omega⟩)
    (fun x hx => by
      obtain ⟨k, hk, rfl⟩ := List.mem_map.1 hx
      have h1 := h.rg k (List.mem_range.1 hk)
      have h2 := hf k (List.mem_range.1 hk)
      exact hg _ (by omega))
  rw [List.map_map] at h1 h2
  exact Int.le_antisymm h1 h2
end
end Go.Proofs.Ytjgbbffcjbmjmaa
