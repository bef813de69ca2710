import Derived.Test.YtnflkbgappgdiaaEi
namespace Go.Proofs.Ytnflkbgappgdiaa
open Go.RowKit
set_option linter.unusedSimpArgs false
set_option linter.unusedVariables false

/-! ### Shares: the documented ones -/
def quoP (n W : Int) (p : Pr) : Pr := ⟨p.name, n * p.amt / W⟩
def remP (n W : Int) (p : Pr) : Int := n * p.amt % W
def baseL (n W : Int) (xs : List Pr) : List Pr := xs.map (quoP n W)
def remL (n W : Int) (xs : List Pr) : List Int := xs.map (remP n W)
def leftI (n W : Int) (xs : List Pr) (i : Nat) : Int := n - ((xs.take i).map fun p => n * p.amt / W).sum
def bestN (rs : List Int) : Nat → Nat
  | 0 => 0
  | i + 1 => if rs.getD i 0 > rs.getD (bestN rs i) 0 then i else bestN rs i
abbrev best (rs : List Int) : Nat := bestN rs rs.length
def bumpAt (ps : List Pr) (b : Nat) : List Pr := ps.set b ⟨(ps.getD b default).name, (ps.getD b default).amt + 1⟩
def bumpF : Nat → List Int → List Pr → List Pr
  | 0, _, ps => ps
  | f + 1, rs, ps => bumpF f (rs.set (best rs) (-1)) (bumpAt ps (best rs))
def shareL (n : Int) (xs : List Pr) : List Pr := bumpF (leftI n (sumA xs) xs xs.length).toNat (remL n (sumA xs) xs) (baseL n (sumA xs) xs)
def sharesV (n : Int) (xs : List Pr) : List Pr × Int :=
  if inB n 0 1073741824 = false then ([], 1) else if partyE xs = 0 then (shareL n xs, 0) else ([], partyE xs)

theorem party_ok {xs : List Pr} (h : partyE xs = 0) : xs.length ≤ 8 ∧ (∀ k, k < xs.length → codeAt 0 xs k = 0) ∧ sumA xs ≠ 0 := by
  unfold partyE at h
  split at h
  · cases h
  · split at h
    · rename_i h8 hb
      split at h
      · cases h
      · rename_i hs
        exact ⟨by omega, badE_ok hb, hs⟩
    · rename_i hb; exact absurd h hb
theorem party_in {xs : List Pr} (h : partyE xs = 0) {p : Pr} (hp : p ∈ xs) : 0 ≤ p.amt ∧ p.amt ≤ 1073741824 := by
  obtain ⟨k, hk, rfl⟩ := List.getElem_of_mem hp
  have := code_in (List.getElem?_eq_getElem hk) ((party_ok h).2.1 k hk)
  exact ⟨this.1, this.2.1⟩
theorem party_sum {xs : List Pr} (h : partyE xs = 0) : 0 < sumA xs ∧ sumA xs ≤ 8589934592 := by
  obtain ⟨h1, h2, h3⟩ := party_ok h
  have := sum_bd (xs := xs) (i := xs.length) (Nat.le_refl _) h2
  rw [List.take_length] at this
  omega
theorem party_ne {xs : List Pr} (h : partyE xs = 0) : 0 < xs.length := by
  have := party_sum h
  cases xs with
  | nil => simp [sumA] at this
  | cons p ps => simp
theorem mul_bd {n a : Int} (h1 : 0 ≤ n ∧ n ≤ 1073741824) (h2 : 0 ≤ a ∧ a ≤ 1073741824) : 0 ≤ n * a ∧ n * a ≤ 1152921504606846976 := by
  have h3 := Int.mul_nonneg h1.1 h2.1
  have h4 := Int.mul_le_mul h1.2 h2.2 h2.1 (by decide)
  exact ⟨h3, h4⟩
theorem quo_bd {x W : Int} (h : 0 ≤ x) (hW : 0 < W) : 0 ≤ x / W ∧ x / W * W ≤ x ∧ x % W = x - x / W * W ∧ 0 ≤ x % W ∧ x % W < W := by
  have h1 := Int.mul_ediv_add_emod x W
  have h2 := Int.emod_nonneg x (by omega : W ≠ 0)
  have h3 := Int.emod_lt_of_pos x hW
  rw [Int.mul_comm] at h1
  exact ⟨Int.ediv_nonneg h (by omega), by omega, by omega, h2, h3⟩
theorem leftI_0 (n W : Int) (xs : List Pr) : leftI n W xs 0 = n := by simp [leftI]
theorem leftI_s {n W : Int} {xs : List Pr} {i : Nat} {q : Pr} (h : xs[i]? = some q) : leftI n W xs (i + 1) = leftI n W xs i - n * q.amt / W := by
  unfold leftI
  rw [List.take_add_one, h]
  simp
  omega
/-- `W` times what is left after the first `i`: what they were to get, and their remainders. -/
theorem left_law {n W : Int} {xs : List Pr} (hn : 0 ≤ n) (hW : 0 < W) (hx : ∀ p ∈ xs, 0 ≤ p.amt) : ∀ i, i ≤ xs.length → leftI n W xs i * W = n * W - n * sumA (xs.take i) + ((xs.take i).map (remP n W)).sum := by
  intro i
  induction i with
  | zero => intro _; simp [leftI, sumA]
  | succ i ih =>
    intro hi
    have hq : xs[i]? = some xs[i] := List.getElem?_eq_getElem (by omega)
    have h0 := quo_bd (Int.mul_nonneg hn (hx _ (List.getElem_mem (h := by omega) : xs[i] ∈ xs))) hW
    rw [leftI_s hq, Int.sub_mul, ih (by omega), sumA_take hq, Int.mul_add, List.take_add_one, hq]
    simp only [Option.toList_some, List.map_append, List.map_cons, List.map_nil, List.sum_append, List.sum_cons, List.sum_nil, Int.add_zero]
    unfold remP
    omega
theorem rem_sum {n W : Int} {xs : List Pr} (hn : 0 ≤ n) (hW : 0 < W) (hx : ∀ p ∈ xs, 0 ≤ p.amt) : ∀ l : List Pr, (∀ p ∈ l, 0 ≤ p.amt) → 0 ≤ (l.map (remP n W)).sum ∧ (l.map (remP n W)).sum ≤ (l.length : Int) * (W - 1) := by
  intro l
  induction l with
  | nil => intro _; simp
  | cons p l ih =>
    intro h
    have h0 := quo_bd (Int.mul_nonneg hn (h p (by simp))) hW
    have h1 := ih (fun q hq => h q (by simp [hq]))
    simp only [List.map_cons, List.sum_cons, List.length_cons]
    unfold remP at *
    rw [Int.natCast_succ, Int.add_mul, Int.one_mul]
    omega
theorem left_nn {n : Int} {xs : List Pr} (hn : 0 ≤ n) (h : partyE xs = 0) (i : Nat) (hi : i ≤ xs.length) : 0 ≤ leftI n (sumA xs) xs i := by
  have hW := party_sum h
  have hx : ∀ p ∈ xs, 0 ≤ p.amt := fun p hp => (party_in h hp).1
  have h1 := left_law hn hW.1 hx i hi
  have h2 := (rem_sum (xs := xs) hn hW.1 hx (xs.take i) (fun p hp => hx p (List.mem_of_mem_take hp))).1
  have h3 : sumA (xs.take i) ≤ sumA xs := by
    have : sumA xs = sumA (xs.take i) + sumA (xs.drop i) := by
      unfold sumA
      rw [← List.sum_append, ← List.map_append, List.take_append_drop]
    have h4 : 0 ≤ sumA (xs.drop i) := by
      unfold sumA
      have : ∀ l : List Pr, (∀ p ∈ l, 0 ≤ p.amt) → 0 ≤ (l.map Pr.amt).sum := by
        intro l
        induction l with
        | nil => intro _; simp
        | cons p l ih => intro h; simp only [List.map_cons, List.sum_cons]; have := h p (by simp); have := ih (fun q hq => h q (by simp [hq])); omega
      exact this _ fun p hp => hx p (List.mem_of_mem_drop hp)
    omega
  have h5 := Int.mul_le_mul_of_nonneg_left h3 hn
  have h6 : 0 ≤ leftI n (sumA xs) xs i * sumA xs := by omega
  exact Int.nonneg_of_mul_nonneg_left h6 hW.1
theorem left_lt {n : Int} {xs : List Pr} (hn : 0 ≤ n) (h : partyE xs = 0) : leftI n (sumA xs) xs xs.length < xs.length := by
  have hW := party_sum h
  have hx : ∀ p ∈ xs, 0 ≤ p.amt := fun p hp => (party_in h hp).1
  have h1 := left_law hn hW.1 hx xs.length (Nat.le_refl _)
  have h2 := (rem_sum (xs := xs) hn hW.1 hx xs hx).2
  rw [List.take_length] at h1
  have h3 : leftI n (sumA xs) xs xs.length * sumA xs < (xs.length : Int) * sumA xs := by
    have := party_ne h
    rw [h1, Int.sub_self, Int.zero_add]
    rw [Int.mul_sub, Int.mul_one] at h2
    omega
  exact Int.lt_of_mul_lt_mul_right h3 (by omega)
theorem left_le {n : Int} {xs : List Pr} (hn : 0 ≤ n) (h : partyE xs = 0) (i : Nat) (hi : i ≤ xs.length) : leftI n (sumA xs) xs i ≤ n := by
  have hW := party_sum h
  have hx : ∀ p ∈ xs, 0 ≤ p.amt := fun p hp => (party_in h hp).1
  unfold leftI
  have : ∀ l : List Pr, (∀ p ∈ l, 0 ≤ p.amt) → 0 ≤ (l.map fun p => n * p.amt / sumA xs).sum := by
    intro l
    induction l with
    | nil => intro _; simp
    | cons p l ih =>
      intro h
      simp only [List.map_cons, List.sum_cons]
      have := (quo_bd (Int.mul_nonneg hn (h p (by simp))) hW.1).1
      have := ih (fun q hq => h q (by simp [hq]))
      omega
  have := this (xs.take i) fun p hp => hx p (List.mem_of_mem_take hp)
  omega
theorem bestN_lt (rs : List Int) : ∀ i, 0 < i → bestN rs i < i := by
  intro i
  induction i with
  | zero => intro h; omega
  | succ i ih =>
    intro _
    unfold bestN
    split
    · omega
    · rcases Nat.eq_zero_or_pos i with rfl | h
      · simp [bestN]
      · have := ih h; omega
theorem bestN_1 (rs : List Int) : bestN rs 1 = 0 := by simp [bestN]
theorem bump_len (ps : List Pr) (b : Nat) : (bumpAt ps b).length = ps.length := by simp [bumpAt]
theorem quo_le {n a W : Int} (hn : 0 ≤ n ∧ n ≤ 1073741824) (ha : 0 ≤ a ∧ a ≤ W) (hW : 0 < W) : 0 ≤ n * a / W ∧ n * a / W ≤ 1073741824 := by
  refine ⟨Int.ediv_nonneg (Int.mul_nonneg hn.1 ha.1) (by omega), ?_⟩
  refine Int.le_trans (Int.ediv_le_ediv hW (Int.mul_le_mul_of_nonneg_left ha.2 hn.1)) ?_
  rw [Int.mul_ediv_cancel _ (by omega)]
  exact hn.2
theorem amt_le_sum {xs : List Pr} (hx : ∀ p ∈ xs, 0 ≤ p.amt) {p : Pr} (hp : p ∈ xs) : p.amt ≤ sumA xs := by
  unfold sumA
  induction xs with
  | nil => cases hp
  | cons q xs ih =>
    have h0 : ∀ l : List Pr, (∀ p ∈ l, 0 ≤ p.amt) → 0 ≤ (l.map Pr.amt).sum := by
      intro l
      induction l with
      | nil => intro _; simp
      | cons p l ih => intro h; simp only [List.map_cons, List.sum_cons]; have := h p (by simp); have := ih (fun q hq => h q (by simp [hq])); omega
    simp only [List.map_cons, List.sum_cons]
    rcases List.mem_cons.1 hp with rfl | hp
    · have := h0 xs (fun q hq => hx q (by simp [hq])); omega
    · have := ih (fun q hq => hx q (by simp [hq])) hp; have := hx q (by simp); omega
theorem base_bd {n : Int} {xs : List Pr} (hn : 0 ≤ n ∧ n ≤ 1073741824) (h : partyE xs = 0) : ∀ p ∈ baseL n (sumA xs) xs, 0 ≤ p.amt ∧ p.amt + ((leftI n (sumA xs) xs xs.length).toNat : Int) ≤ 4294967296 := by
  intro p hp
  obtain ⟨q, hq, rfl⟩ := List.mem_map.1 hp
  have h1 := quo_le hn ⟨(party_in h hq).1, amt_le_sum (fun p hp => (party_in h hp).1) hq⟩ (party_sum h).1
  have h2 := left_nn hn.1 h xs.length (Nat.le_refl _)
  have h3 := left_le hn.1 h xs.length (Nat.le_refl _)
  rw [Int.toNat_of_nonneg h2]
  unfold quoP
  dsimp only
  omega
theorem getD_mem {ps : List Pr} {b : Nat} (h : b < ps.length) : ps.getD b default ∈ ps := by
  rw [List.getD_eq_getElem?_getD, List.getElem?_eq_getElem h]
  exact List.getElem_mem _
theorem bump_bd {f : Nat} {ps : List Pr} {b : Nat} (h : ∀ p ∈ ps, 0 ≤ p.amt ∧ p.amt + ((f + 1 : Nat) : Int) ≤ 4294967296) (hb : b < ps.length) : ∀ p ∈ bumpAt ps b, 0 ≤ p.amt ∧ p.amt + (f : Int) ≤ 4294967296 := by
  intro p hp
  unfold bumpAt at hp
  rcases List.mem_or_eq_of_mem_set hp with hp | rfl
  · have := h p hp; omega
  · have := h _ (getD_mem hb); dsimp only; omega
theorem base_take {n W : Int} {xs : List Pr} {i : Nat} {q : Pr} (h : xs[i]? = some q) : baseL n W (xs.take (i + 1)) = baseL n W (xs.take i) ++ [quoP n W q] := by
  unfold baseL
  rw [List.take_add_one, h]
  simp
theorem remL_take {n W : Int} {xs : List Pr} {i : Nat} {q : Pr} (h : xs[i]? = some q) : remL n W (xs.take (i + 1)) = remL n W (xs.take i) ++ [remP n W q] := by
  unfold remL
  rw [List.take_add_one, h]
  simp
theorem set_av (ps : List Pr) (b : Nat) (p : Pr) (z : Int) : (ps.map Pr.av).set b (splice (Pr.av p) 1 [.v (.int .i64 z)]) = (ps.set b ⟨p.name, z⟩).map Pr.av := by
  rw [List.map_set]; rfl
theorem set_iv (rs : List Int) (b : Nat) (x z : Int) : (rs.map iv).set b (splice (iv x) 0 [.v (.int .i64 z)]) = (rs.set b z).map iv := by
  rw [List.map_set]; rfl
end Go.Proofs.Ytnflkbgappgdiaa
