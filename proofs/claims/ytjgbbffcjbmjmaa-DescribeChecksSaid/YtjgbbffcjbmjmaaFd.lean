import Derived.Test.YtjgbbffcjbmjmaaFc
namespace Go.Proofs.Ytjgbbffcjbmjmaa
open Go.RowKit
set_option linter.unusedSimpArgs false
set_option linter.unusedVariables false

/-! ### One round: the step, the new prices -/
def stepK (W : List (List Int)) (rows cols : List Int) (sr sc : List Bool) (r : Nat) : List Nat → Int → Int
  | [], x => x
  | k :: ks, x => stepK W rows cols sr sc r ks (if gB sr r = true ∧ gB sc k = false then min x (gI rows r + gI cols k - gI (W.getD r default) k) else x)
def stepR (W : List (List Int)) (rows cols : List Int) (sr sc : List Bool) (n : Nat) : List Nat → Int → Int
  | [], x => x
  | r :: rs, x => stepR W rows cols sr sc n rs (stepK W rows cols sr sc r (List.range' 0 n) x)
def stepF (W : List (List Int)) (rows cols : List Int) (n : Nat) (sr sc : List Bool) : Int := stepR W rows cols sr sc n (List.range' 0 n) 1073741824
section
variable {W : List (List Int)} {rows cols : List Int} {sr sc : List Bool} {n : Nat}
theorem stepK_le {r : Nat} : ∀ (ks : List Nat) (x : Int), stepK W rows cols sr sc r ks x ≤ x
  | [], x => Int.le_refl _
  | k :: ks, x => by
    unfold stepK
    refine Int.le_trans (stepK_le ks _) ?_
    split <;> omega
theorem stepK_at {r : Nat} : ∀ (ks : List Nat) (x : Int) (k : Nat), k ∈ ks → gB sr r = true → gB sc k = false → stepK W rows cols sr sc r ks x ≤ gI rows r + gI cols k - gI (W.getD r default) k
  | [], x, k, h, _, _ => by simp at h
  | q :: ks, x, k, h, h1, h2 => by
    unfold stepK
    rcases List.mem_cons.1 h with rfl | h
    · rw [if_pos ⟨h1, h2⟩]
      refine Int.le_trans (stepK_le ks _) ?_
      omega
    · exact stepK_at ks _ k h h1 h2
theorem stepK_ge {r : Nat} : ∀ (ks : List Nat) (x : Int), 1 ≤ x → (∀ k ∈ ks, gB sr r = true → gB sc k = false → 1 ≤ gI rows r + gI cols k - gI (W.getD r default) k) → 1 ≤ stepK W rows cols sr sc r ks x
  | [], x, h, _ => h
  | k :: ks, x, h, hk => by
    unfold stepK
    refine stepK_ge ks _ ?_ fun q hq => hk q (by simp [hq])
    split
    · rename_i hc
      have := hk k (by simp) hc.1 hc.2
      omega
    · exact h
theorem stepR_le : ∀ (rs : List Nat) (x : Int), stepR W rows cols sr sc n rs x ≤ x
  | [], x => Int.le_refl _
  | r :: rs, x => by
    unfold stepR
    exact Int.le_trans (stepR_le rs _) (stepK_le _ _)
theorem stepR_at : ∀ (rs : List Nat) (x : Int) (r k : Nat), r ∈ rs → k < n → gB sr r = true → gB sc k = false → stepR W rows cols sr sc n rs x ≤ gI rows r + gI cols k - gI (W.getD r default) k
  | [], x, r, k, h, _, _, _ => by simp at h
  | q :: rs, x, r, k, h, hk, h1, h2 => by
    unfold stepR
    rcases List.mem_cons.1 h with rfl | h
    · exact Int.le_trans (stepR_le rs _) (stepK_at _ _ k (List.mem_range'_1.2 ⟨Nat.zero_le _, by omega⟩) h1 h2)
    · exact stepR_at rs _ r k h hk h1 h2
theorem stepR_ge : ∀ (rs : List Nat) (x : Int), 1 ≤ x → (∀ r ∈ rs, ∀ k, k < n → gB sr r = true → gB sc k = false → 1 ≤ gI rows r + gI cols k - gI (W.getD r default) k) → 1 ≤ stepR W rows cols sr sc n rs x
  | [], x, h, _ => h
  | r :: rs, x, h, hk => by
    unfold stepR
    exact stepR_ge rs _ (stepK_ge _ _ h fun k hk' => hk r (by simp) k (range'_lt k hk')) fun q hq => hk q (by simp [hq])
end
def dn (b : List Bool) (x : Int) (l : List Int) : List Int := (List.range l.length).map fun j => if gB b j = true then gI l j + x else gI l j
theorem dn_len {b : List Bool} {x : Int} {l : List Int} : (dn b x l).length = l.length := by simp [dn]
theorem dn_at {b : List Bool} {x : Int} {l : List Int} {j : Nat} (h : j < l.length) : gI (dn b x l) j = if gB b j = true then gI l j + x else gI l j := by
  unfold dn
  show (List.getD _ j default) = _
  rw [List.getD_eq_getElem?_getD, List.getElem?_map, List.getElem?_range h]
  rfl
theorem sum_le : ∀ {l l' : List Int}, l'.length = l.length → (∀ j, j < l.length → gI l' j ≤ gI l j) → l'.sum ≤ l.sum
  | [], [], _, _ => Int.le_refl _
  | x :: l, y :: l', h, hj => by
    have h1 := hj 0 (by simp)
    have h2 := sum_le (l := l) (l' := l') (by simpa using h) fun j hj' => by have := hj (j + 1) (by simpa using hj'); simpa [gI] using this
    have h1' : y ≤ x := by simpa [gI] using h1
    simp only [List.sum_cons]
    omega
theorem sum_lt : ∀ {l l' : List Int} {j0 : Nat}, l'.length = l.length → (∀ j, j < l.length → gI l' j ≤ gI l j) → j0 < l.length → gI l' j0 < gI l j0 → l'.sum < l.sum
  | [], [], j0, _, _, h, _ => by simp at h
  | x :: l, y :: l', 0, h, hj, _, h0 => by
    have h2 := sum_le (l := l) (l' := l') (by simpa using h) fun j hj' => by have := hj (j + 1) (by simpa using hj'); simpa [gI] using this
    have h1' : y < x := by simpa [gI] using h0
    simp only [List.sum_cons]
    omega
  | x :: l, y :: l', j0 + 1, h, hj, hl, h0 => by
    have h1 := hj 0 (by simp)
    have h2 := sum_lt (l := l) (l' := l') (j0 := j0) (by simpa using h) (fun j hj' => by have := hj (j + 1) (by simpa using hj'); simpa [gI] using this) (by simpa using hl) (by simpa [gI] using h0)
    have h1' : y ≤ x := by simpa [gI] using h1
    simp only [List.sum_cons]
    omega
theorem pigeon : ∀ (i : Nat) (l : List Nat), l.Nodup → (∀ x ∈ l, x < i) → l.length ≤ i
  | 0, l, _, h => by
    cases l with
    | nil => simp
    | cons x l => exact absurd (h x (by simp)) (by omega)
  | i + 1, l, hn, h => by
    by_cases hi : i ∈ l
    · have h1 := pigeon i (l.erase i) (hn.erase i) fun x hx => by
        have h2 := (hn.mem_erase_iff).1 hx
        have := h x h2.2
        omega
      rw [List.length_erase_of_mem hi] at h1
      omega
    · have h1 := pigeon i l hn fun x hx => by
        have := h x hx
        have : x ≠ i := fun e => hi (e ▸ hx)
        omega
      omega
/-- What holds when the rows up to i have found their columns. -/
structure PInv (n : Nat) (B : Int) (W : List (List Int)) (i : Nat) (to rows cols : List Int) : Prop where
  tl : to.length = n
  rl : rows.length = n
  cl : cols.length = n
  fe : ∀ r k, r < n → k < n → gI (W.getD r default) k ≤ gI rows r + gI cols k
  r0 : ∀ r, r < n → 0 ≤ gI rows r ∧ gI rows r ≤ B
  c0 : ∀ k, k < n → 0 ≤ gI cols k
  tg : ∀ k, k < n → 0 ≤ gI to k → Tg W rows cols (gI to k).toNat k
  un : ∀ k, k < n → gI to k < 0 → gI cols k = 0
  rg : ∀ k, k < n → -1 ≤ gI to k ∧ gI to k < i
  inj : ∀ k k', k < n → k' < n → 0 ≤ gI to k → gI to k = gI to k' → k = k'
  al : ∀ r : Nat, r < i → ∃ k, k < n ∧ gI to k = r
structure WOk (n : Nat) (B : Int) (W : List (List Int)) : Prop where
  wl : W.length = n
  wr : ∀ i, i < n → (W.getD i default).length = n
  w0 : ∀ r k, r < n → k < n → 0 ≤ gI (W.getD r default) k ∧ gI (W.getD r default) k ≤ B
def fresh (n : Nat) (to : List Int) : ISt := ⟨List.replicate n false, List.replicate n false, to⟩
theorem gB_rep {n k : Nat} : gB (List.replicate n false) k = false := by
  unfold gB
  rw [List.getD_eq_getElem?_getD, List.getElem?_replicate]
  split <;> rfl
section
variable {W : List (List Int)} {to rows cols : List Int} {n i : Nat} {B : Int} {q : Bool × ISt}
theorem PInv.inv (h : PInv n B W i to rows cols) (hi : i ≤ n) : Inv n (fresh n to) := ⟨by simp [fresh], by simp [fresh], h.tl, fun k hk => by
  have h1 := h.rg k hk
  have h2 : -1 ≤ gI to k ∧ gI to k < n := by omega
  exact h2⟩
theorem cnt_fresh : cnt (fresh n to) = n := by simp [cnt, fresh]
theorem PInv.cB (h : PInv n B W i to rows cols) (hW : WOk n B W) (hi : i ≤ n) (hB : 0 ≤ B) : ∀ k, k < n → gI cols k ≤ B := fun k hk => by
  by_cases h0 : gI to k < 0
  · rw [h.un k hk h0]; exact hB
  · have h1 := h.tg k hk (by omega)
    have h2 := (h.rg k hk).2
    have hr : (gI to k).toNat < n := by omega
    have h3 := h.r0 _ hr
    have h4 := hW.w0 _ k hr hk
    unfold Tg at h1
    omega
/-- One column is still free. -/
theorem PInv.free (h : PInv n B W i to rows cols) (hi : i < n) : ∃ k, k < n ∧ gI to k < 0 := by
  refine Classical.byContradiction fun hno => ?_
  have hp : ∀ k, k < n → 0 ≤ gI to k := fun k hk => by
    refine Int.not_lt.1 fun h0 => hno ⟨k, hk, h0⟩
  have := pigeon i ((List.range n).map fun k => (gI to k).toNat) (by
    have key : ∀ (l : List Nat), l.Nodup → (∀ x ∈ l, x < n) → (l.map fun k => (gI to k).toNat).Nodup := fun l => by
      induction l with
      | nil => intro _ _; simp
      | cons x l ih =>
        intro hn hx
        rw [List.nodup_cons] at hn
        rw [List.map_cons, List.nodup_cons]
        refine ⟨fun hm => ?_, ih hn.2 fun y hy => hx y (by simp [hy])⟩
        obtain ⟨y, hy, he⟩ := List.mem_map.1 hm
        have hxn := hx x (by simp)
        have hyn := hx y (by simp [hy])
        have e1 := hp x hxn
        have e2 := hp y hyn
        have := h.inj x y hxn hyn e1 (by omega)
        subst this
        exact hn.1 hy
    exact key _ List.nodup_range fun x hx => by simpa using hx) fun x hx => by
      obtain ⟨k, hk, rfl⟩ := List.mem_map.1 hx
      have hk' : k < n := by simpa using hk
      have h1 := h.rg k hk'
      have h2 := hp k hk'
      omega
  rw [List.length_map, List.length_range] at this
  omega
theorem PInv.ok (h : PInv n B W i to rows cols) (hi : i < n) (hq : imp W rows cols n n i (fresh n to) = q) (hb : q.1 = true) : PInv n B W (i + 1) q.2.to rows cols := by
  have hs := imp_spec (W := W) (rows := rows) (cols := cols) n i (fresh n to) (h.inv (by omega)) hi (Nat.le_of_eq cnt_fresh)
  rw [hq] at hs
  have ht := hs.t hb
  have hf : ∀ k, gB (fresh n to).sc k = false := fun k => gB_rep
  have hrg : ∀ k, k < n → gI q.2.to k < (i + 1 : Nat) := fun k hk => by
    by_cases h0 : gI q.2.to k < 0
    · omega
    · by_cases he : (gI q.2.to k).toNat = i
      · omega
      · obtain ⟨p, hp, _, h2⟩ := (ht.th _ he).1 ⟨k, hk, hf k, by omega⟩
        have h3 : gI to p = ((gI q.2.to k).toNat : Nat) := h2
        have := (h.rg p hp).2
        omega
  refine ⟨hs.inv.to, h.rl, h.cl, h.fe, h.r0, h.c0, ht.ti h.tg, fun k hk h0 => h.un k hk (ht.un k hk h0), fun k hk => ⟨(hs.inv.rg k hk).1, hrg k hk⟩, fun k k' hk hk' h0 he => ?_, fun r hr => ?_⟩
  · exact ht.inj (fun a b ha hb _ _ q3 q4 => h.inj a b ha hb q3 q4) (fun a ha _ he' => by have h1 : gI to a = i := he'; have := (h.rg a ha).2; omega) k k' hk hk' (hf k) (hf k') h0 he
  · by_cases he : r = i
    · subst he
      obtain ⟨k, hk, _, h2⟩ := ht.me
      exact ⟨k, hk, h2⟩
    · obtain ⟨k, hk, h1⟩ := h.al r (by omega)
      obtain ⟨p, hp, _, h2⟩ := (ht.th r he).2 ⟨k, hk, hf k, h1⟩
      exact ⟨p, hp, h2⟩
theorem PInv.fail (h : PInv n B W i to rows cols) (hW : WOk n B W) (hi : i < n) (hq : imp W rows cols n n i (fresh n to) = q) (hb : q.1 = false) {st : Int} (hst : stepF W rows cols n q.2.sr q.2.sc = st) :
    q.2.to = to ∧ 1 ≤ st ∧ st ≤ B ∧ PInv n B W i to (dn q.2.sr (-st) rows) (dn q.2.sc st cols) ∧ (dn q.2.sr (-st) rows).sum < rows.sum := by
  have hs := imp_spec (W := W) (rows := rows) (cols := cols) n i (fresh n to) (h.inv (by omega)) hi (Nat.le_of_eq cnt_fresh)
  rw [hq] at hs
  have F := hs.f hb
  have hfc : ∀ k, ¬ gB (fresh n to).sc k = true := fun k h' => by rw [show gB (fresh n to).sc k = false from gB_rep] at h'; cases h'
  have hfr : ∀ k, gB (fresh n to).sr k = false := fun k => gB_rep
  have hto : q.2.to = to := F.to
  have co : ∀ k, k < n → gB q.2.sc k = true → 0 ≤ gI to k ∧ gB q.2.sr (gI to k).toNat = true := fun k hk h' => (F.co k hk h').resolve_left (hfc k)
  have cl : ∀ r, r < n → gB q.2.sr r = true → ∀ k, k < n → Tg W rows cols r k → gB q.2.sc k = true := fun r hr h1 k hk hT => F.cl r hr h1 (.inl (hfr r)) k hk hT
  have slack : ∀ r k, r < n → k < n → gB q.2.sr r = true → gB q.2.sc k = false → 1 ≤ gI rows r + gI cols k - gI (W.getD r default) k := fun r k hr hk h1 h2 => by
    have h3 := h.fe r k hr hk
    have h4 : ¬ Tg W rows cols r k := fun hT => by rw [cl r hr h1 k hk hT] at h2; cases h2
    unfold Tg at h4
    omega
  have s1 : 1 ≤ st := by
    rw [← hst]
    exact stepR_ge _ _ (by decide) fun r hr k hk h1 h2 => slack r k (range'_lt r hr) hk h1 h2
  have sle : ∀ r k, r < n → k < n → gB q.2.sr r = true → gB q.2.sc k = false → st ≤ gI rows r + gI cols k - gI (W.getD r default) k := fun r k hr hk h1 h2 => by
    rw [← hst]
    exact stepR_at _ _ r k (List.mem_range'_1.2 ⟨Nat.zero_le _, by omega⟩) hk h1 h2
  obtain ⟨k0, hk0, hk1⟩ := h.free hi
  have hk2 : gB q.2.sc k0 = false := gB_false.2 fun h' => by have := (co k0 hk0 h').1; omega
  have hc0 := h.un k0 hk0 hk1
  have sr0 : ∀ r, r < n → gB q.2.sr r = true → st ≤ gI rows r := fun r hr h1 => by
    have h2 := sle r k0 hr hk0 h1 hk2
    have h3 := (hW.w0 r k0 hr hk0).1
    omega
  have dr : ∀ r, r < n → gI (dn q.2.sr (-st) rows) r = if gB q.2.sr r = true then gI rows r + -st else gI rows r := fun r hr => dn_at (by rw [h.rl]; exact hr)
  have dc : ∀ k, k < n → gI (dn q.2.sc st cols) k = if gB q.2.sc k = true then gI cols k + st else gI cols k := fun k hk => dn_at (by rw [h.cl]; exact hk)
  refine ⟨hto, s1, ?_, ⟨h.tl, by rw [dn_len, h.rl], by rw [dn_len, h.cl], fun r k hr hk => ?_, fun r hr => ?_, fun k hk => ?_, fun k hk h0 => ?_, fun k hk h0 => ?_, h.rg, h.inj, h.al⟩, ?_⟩
  · have := sr0 i hi F.me
    have := (h.r0 i hi).2
    omega
  · have h1 := h.fe r k hr hk
    rw [dr r hr, dc k hk]
    split
    · rename_i e1
      split
      · omega
      · rename_i e2
        have := sle r k hr hk e1 (gB_false.2 e2)
        omega
    · split <;> omega
  · have h1 := h.r0 r hr
    rw [dr r hr]
    split
    · rename_i e; have := sr0 r hr e; omega
    · exact h1
  · have h1 := h.c0 k hk
    rw [dc k hk]
    split <;> omega
  · have h1 := h.tg k hk h0
    have h2 := (h.rg k hk).2
    have hr : (gI to k).toNat < n := by omega
    unfold Tg at h1 ⊢
    rw [dr _ hr, dc k hk]
    by_cases e : gB q.2.sc k = true
    · rw [if_pos (co k hk e).2, if_pos e]
      omega
    · rw [if_neg e, if_neg]
      · exact h1
      · intro e2
        rcases F.ro _ hr e2 with e3 | e3 | ⟨p, hp, e3, e4⟩
        · rw [hfr] at e3; cases e3
        · omega
        · have e5 : gI to p = ((gI to k).toNat : Nat) := e4
          have := h.inj k p hk hp h0 (by omega)
          subst this
          exact e e3
  · rw [dc k hk, if_neg]
    · exact h.un k hk h0
    · intro e; have := (co k hk e).1; omega
  · refine sum_lt (j0 := i) (by rw [dn_len]) (fun j hj => ?_) (by rw [h.rl]; exact hi) ?_
    · rw [dr j (by rw [← h.rl]; exact hj)]
      split <;> omega
    · rw [dr i hi, if_pos F.me]
      omega
end
/-! ### All rounds -/
def rnd (W : List (List Int)) (n i : Nat) : Nat → List Int × List Int × List Int → List Int × List Int × List Int
  | 0, s => s
  | f + 1, s =>
    if (imp W s.2.1 s.2.2 n n i (fresh n s.1)).1 = true then ((imp W s.2.1 s.2.2 n n i (fresh n s.1)).2.to, s.2.1, s.2.2)
    else rnd W n i f ((imp W s.2.1 s.2.2 n n i (fresh n s.1)).2.to, dn (imp W s.2.1 s.2.2 n n i (fresh n s.1)).2.sr (-stepF W s.2.1 s.2.2 n (imp W s.2.1 s.2.2 n n i (fresh n s.1)).2.sr (imp W s.2.1 s.2.2 n n i (fresh n s.1)).2.sc) s.2.1,
      dn (imp W s.2.1 s.2.2 n n i (fresh n s.1)).2.sc (stepF W s.2.1 s.2.2 n (imp W s.2.1 s.2.2 n n i (fresh n s.1)).2.sr (imp W s.2.1 s.2.2 n n i (fresh n s.1)).2.sc) s.2.2)
def fuelOf (rows : List Int) : Nat := rows.sum.toNat + 1
def asg (W : List (List Int)) (n : Nat) : List Nat → List Int × List Int × List Int → List Int × List Int × List Int
  | [], s => s
  | i :: is, s => asg W n is (rnd W n i (fuelOf s.2.1) s)
abbrev P3 (n : Nat) (B : Int) (W : List (List Int)) (i : Nat) (s : List Int × List Int × List Int) : Prop := PInv n B W i s.1 s.2.1 s.2.2
section
variable {W : List (List Int)} {n i : Nat} {B : Int} {s : List Int × List Int × List Int}
theorem rnd_yes {f : Nat} {q : Bool × ISt} {R : List Int × List Int × List Int} (hq : imp W s.2.1 s.2.2 n n i (fresh n s.1) = q) (hR : rnd W n i (f + 1) s = R) (hb : q.1 = true) : R = (q.2.to, s.2.1, s.2.2) := by
  unfold rnd at hR
  rw [hq, if_pos hb] at hR
  exact hR.symm
theorem rnd_no {f : Nat} {q : Bool × ISt} {R : List Int × List Int × List Int} (hq : imp W s.2.1 s.2.2 n n i (fresh n s.1) = q) (hR : rnd W n i (f + 1) s = R) (hb : q.1 = false) {st : Int} (hst : stepF W s.2.1 s.2.2 n q.2.sr q.2.sc = st) : rnd W n i f (q.2.to, dn q.2.sr (-st) s.2.1, dn q.2.sc st s.2.2) = R := by
  unfold rnd at hR
  rw [hq, if_neg (by rw [hb]; simp), hst] at hR
  exact hR
theorem sum_nonneg : ∀ {l : List Int}, (∀ j, j < l.length → 0 ≤ gI l j) → 0 ≤ l.sum
  | [], _ => Int.le_refl _
  | x :: l, h => by
    have h1 := h 0 (by simp)
    have h2 := sum_nonneg (l := l) fun j hj => by have := h (j + 1) (by simpa using hj); simpa [gI] using this
    have h1' : 0 ≤ x := by simpa [gI] using h1
    simp only [List.sum_cons]
    omega
theorem PInv.sum0 {to rows cols : List Int} (h : PInv n B W i to rows cols) : 0 ≤ rows.sum := sum_nonneg fun j hj => (h.r0 j (by rw [← h.rl]; exact hj)).1
theorem rnd_inv (hW : WOk n B W) (hi : i < n) : ∀ (f : Nat) (s : List Int × List Int × List Int), P3 n B W i s → s.2.1.sum < f → P3 n B W (i + 1) (rnd W n i f s)
  | 0, s, h, hf => by have := h.sum0; omega
  | f + 1, s, h, hf => by
    generalize hq : imp W s.2.1 s.2.2 n n i (fresh n s.1) = q
    cases hb : q.1 with
    | true =>
      rw [rnd_yes hq rfl hb]
      exact h.ok hi hq hb
    | false =>
      rw [← rnd_no hq rfl hb rfl]
      obtain ⟨h1, h2, h3, h4, h5⟩ := h.fail hW hi hq hb rfl
      refine rnd_inv hW hi f _ (by rw [h1]; exact h4) ?_
      show (dn _ _ _).sum < (f : Int)
      omega
theorem asg_inv (hW : WOk n B W) : ∀ (d i : Nat) (s : List Int × List Int × List Int), i + d = n → P3 n B W i s → P3 n B W n (asg W n (List.range' i d) s)
  | 0, i, s, hd, h => by
    obtain rfl : i = n := by omega
    exact h
  | d + 1, i, s, hd, h => by
    have : List.range' i (d + 1) = i :: List.range' (i + 1) d := rfl
    rw [this]
    unfold asg
    exact asg_inv hW d (i + 1) _ (by omega) (rnd_inv hW (by omega) _ _ h (by unfold fuelOf; have := h.sum0; omega))
end
end Go.Proofs.Ytjgbbffcjbmjmaa
