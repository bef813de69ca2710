import Derived.Test.YtjgbbffcjbmjmaaFu
namespace Go.Proofs.Ytjgbbffcjbmjmaa
open Go.RowKit
set_option linter.unusedSimpArgs false
set_option linter.unusedVariables false

/-! ### The best of all pairings -/
theorem bt_or {u k q : Nat} : bt (u ||| 2 ^ k) q = if k = q then 1 else bt u q := by
  rw [bt_tb, bt_tb, Nat.testBit_or, Nat.testBit_two_pow]
  by_cases h : k = q
  · subst h; simp
  · simp [h]
theorem bt_zero {q : Nat} : bt 0 q = 0 := by simp [bt]
/-- A pairing of the rows from i on, with columns that are free. -/
structure PrgU (F i d used : Nat) (p : Nat → Int) : Prop where
  rg : ∀ j, j < d → -1 ≤ p (i + j) ∧ p (i + j) < F
  inj : ∀ j k, j < d → k < d → 0 ≤ p (i + j) → p (i + j) = p (i + k) → j = k
  fr : ∀ j, j < d → 0 ≤ p (i + j) → ¬ bt used (p (i + j)).toNat = 1
section
variable {sc : Nat → Nat → Int} {F : Nat}
abbrev sumU (sc : Nat → Nat → Int) (p : Nat → Int) (i d : Nat) : Int := sumN d fun j => term sc p (i + j)
theorem sumN_head {g : Nat → Int} : ∀ {n : Nat}, sumN (n + 1) g = g 0 + sumN n fun j => g (j + 1)
  | 0 => by rw [sumN_succ, sumN_zero, sumN_zero]; omega
  | n + 1 => by
    rw [sumN_succ, sumN_head (n := n), sumN_succ]
    omega
theorem sumU_head {p : Nat → Int} {i d : Nat} : sumU sc p i (d + 1) = term sc p i + sumU sc p (i + 1) d := by
  unfold sumU
  rw [sumN_head]
  congr 1
  exact sumN_congr fun j _ => by rw [show i + (j + 1) = i + 1 + j by omega]
theorem best_ge (h0 : ∀ i k, 0 ≤ sc i k) : ∀ (d i used : Nat) (p : Nat → Int), PrgU F i d used p → sumU sc p i d ≤ bestN sc F d i used
  | 0, i, used, p, _ => Int.le_refl _
  | d + 1, i, used, p, h => by
    rw [sumU_head, ← bpre_end]
    have hr := h.rg 0 (by omega)
    rw [Nat.add_zero] at hr
    have sub : ∀ u, (∀ j, j < d → 0 ≤ p (i + 1 + j) → ¬ bt u (p (i + 1 + j)).toNat = 1) → PrgU F (i + 1) d u p := fun u hu => ⟨fun j hj => by
      have := h.rg (j + 1) (by omega)
      rwa [show i + (j + 1) = i + 1 + j by omega] at this, fun j k hj hk h1 h2 => by
      have := h.inj (j + 1) (k + 1) (by omega) (by omega) (by rwa [show i + (j + 1) = i + 1 + j by omega]) (by rwa [show i + (j + 1) = i + 1 + j by omega, show i + (k + 1) = i + 1 + k by omega])
      omega, hu⟩
    have fr0 : ∀ j, j < d → 0 ≤ p (i + 1 + j) → ¬ bt used (p (i + 1 + j)).toNat = 1 := fun j hj h1 => by
      have := h.fr (j + 1) (by omega)
      rw [show i + (j + 1) = i + 1 + j by omega] at this
      exact this h1
    have hno := best_ge h0 d (i + 1) used p (sub used fr0)
    have hge0 := bpre_ge0 (sc := sc) (F := F) (d := d) (i := i) (used := used) F
    by_cases hp : 0 ≤ p i ∧ 0 < sc i (p i).toNat
    · have hfr := h.fr 0 (by omega)
      rw [Nat.add_zero] at hfr
      have h1 := best_ge h0 d (i + 1) (used ||| 2 ^ (p i).toNat) p (sub _ fun j hj h1 => by
        rw [bt_or, if_neg]
        · exact fr0 j hj h1
        · intro he
          have := h.inj 0 (j + 1) (by omega) (by omega) (by rw [Nat.add_zero]; exact hp.1) (by rw [Nat.add_zero, show i + (j + 1) = i + 1 + j by omega]; omega)
          omega)
      have h2 := bpre_ge (sc := sc) (F := F) (d := d) (i := i) (used := used) (p i).toNat (hfr hp.1) hp.2 F (by omega)
      unfold term
      rw [if_pos hp.1]
      omega
    · have ht : term sc p i ≤ 0 := by
        unfold term
        by_cases h3 : 0 ≤ p i
        · rw [if_pos h3]
          have : ¬ 0 < sc i (p i).toNat := fun h4 => hp ⟨h3, h4⟩
          omega
        · rw [if_neg h3]; omega
      omega
def put (p : Nat → Int) (i : Nat) (v : Int) (j : Nat) : Int := if j = i then v else p j
theorem put_at {p : Nat → Int} {i : Nat} {v : Int} : put p i v i = v := if_pos rfl
theorem put_at0 {p : Nat → Int} {i : Nat} {v : Int} : put p i v (i + 0) = v := if_pos rfl
theorem put_ne {p : Nat → Int} {i j : Nat} {v : Int} (h : j ≠ i) : put p i v j = p j := if_neg h
theorem put_s {p : Nat → Int} {i j : Nat} {v : Int} : put p i v (i + (j + 1)) = p (i + 1 + j) := by rw [put_ne (by omega), show i + (j + 1) = i + 1 + j by omega]
theorem term_put {p : Nat → Int} {i d : Nat} {v : Int} : sumU sc (put p i v) i (d + 1) = (if 0 ≤ v then sc i v.toNat else 0) + sumU sc p (i + 1) d := by
  rw [sumU_head]
  have e1 : term sc (put p i v) i = if 0 ≤ v then sc i v.toNat else 0 := by unfold term; rw [put_at]
  rw [e1]
  congr 1
  exact sumN_congr fun j _ => by unfold term; rw [put_ne (by omega)]
theorem put_prg {p : Nat → Int} {i d used : Nat} {v : Int} (hp : PrgU F (i + 1) d used p) (hv : -1 ≤ v ∧ v < F) (h1 : 0 ≤ v → ¬ bt used v.toNat = 1) (h2 : 0 ≤ v → ∀ j, j < d → p (i + 1 + j) ≠ v) : PrgU F i (d + 1) used (put p i v) := by
  refine ⟨fun j hj => ?_, fun j k hj hk h3 h4 => ?_, fun j hj h3 => ?_⟩
  · cases j with
    | zero => rw [put_at0]; exact hv
    | succ j => rw [put_s]; exact hp.rg j (by omega)
  · cases j with
    | zero =>
      cases k with
      | zero => rfl
      | succ k =>
        rw [put_at0] at h3
        rw [put_at0, put_s] at h4
        exact absurd h4.symm (h2 h3 k (by omega))
    | succ j =>
      rw [put_s] at h3 h4
      cases k with
      | zero =>
        rw [put_at0] at h4
        exact absurd h4 (h2 (by omega) j (by omega))
      | succ k =>
        rw [put_s] at h4
        have := hp.inj j k (by omega) (by omega) h3 h4
        omega
  · cases j with
    | zero => rw [put_at0] at h3 ⊢; exact h1 h3
    | succ j => rw [put_s] at h3 ⊢; exact hp.fr j (by omega) h3
theorem best_at : ∀ (d i used : Nat), ∃ p, PrgU F i d used p ∧ sumU sc p i d = bestN sc F d i used
  | 0, i, used => ⟨fun _ => -1, ⟨fun j hj => by omega, fun j k hj => by omega, fun j hj => by omega⟩, rfl⟩
  | d + 1, i, used => by
    rw [← bpre_end]
    refine bpre_cases (P := fun b => ∃ p, PrgU F i (d + 1) used p ∧ sumU sc p i (d + 1) = b) ?_ (fun k hk h1 h2 => ?_) F (Nat.le_refl _)
    · obtain ⟨p, hp, hs⟩ := best_at d (i + 1) used
      exact ⟨put p i (-1), put_prg hp (by omega) (fun h => by omega) (fun h => by omega), by rw [term_put, hs, if_neg (by omega), Int.zero_add]⟩
    · obtain ⟨p, hp, hs⟩ := best_at d (i + 1) (used ||| 2 ^ k)
      refine ⟨put p i k, put_prg ⟨hp.rg, hp.inj, fun j hj h3 h4 => hp.fr j hj h3 (by rw [bt_or]; split; rfl; exact h4)⟩ (by omega) (fun _ => by rw [show ((k : Nat) : Int).toNat = k by omega]; exact h1) (fun _ j hj he => ?_), by rw [term_put, hs, if_pos (by omega), show ((k : Nat) : Int).toNat = k by omega]⟩
      refine hp.fr j hj (by omega) ?_
      rw [bt_or, if_pos (by omega)]
end
theorem prgU_all {R F : Nat} {p : Nat → Int} : PrgU F 0 R 0 p ↔ Prg R F p := by
  constructor
  · intro h
    exact ⟨fun i hi => by have := h.rg i hi; rwa [Nat.zero_add] at this, fun i j hi hj h1 h2 => h.inj i j hi hj (by rw [Nat.zero_add]; exact h1) (by rw [Nat.zero_add, Nat.zero_add]; exact h2)⟩
  · intro h
    exact ⟨fun i hi => by rw [Nat.zero_add]; exact h.rg i hi, fun i j hi hj h1 h2 => h.inj i j hi hj (by rwa [Nat.zero_add] at h1) (by rwa [Nat.zero_add, Nat.zero_add] at h2), fun j _ _ => by rw [bt_zero]; omega⟩
theorem sumU_all {sc : Nat → Nat → Int} {p : Nat → Int} {R : Nat} : sumU sc p 0 R = sumN R (term sc p) := sumN_congr fun j _ => by rw [Nat.zero_add]
theorem Good.bestN {R F : Nat} {B : Int} {sc : Nat → Nat → Int} {m : Mat} (h : Good R F B sc m) (h0 : ∀ i k, 0 ≤ sc i k) : m.total = Proofs.Ytjgbbffcjbmjmaa.bestN sc F R 0 0 := by
  have h1 := best_ge (F := F) h0 R 0 0 (gI m.pairs) (prgU_all.2 h.pr)
  rw [sumU_all, ← h.tot] at h1
  obtain ⟨p, hp, hs⟩ := best_at (sc := sc) (F := F) R 0 0
  have h2 := h.best (prgU_all.1 hp)
  rw [sumU_all] at hs
  omega
theorem Good.swap {R F : Nat} {B B' : Int} {sc sc' : Nat → Nat → Int} {m m' : Mat} (h : Good R F B sc m) (h' : Good F R B' sc' m') (hsc : ∀ i k, i < R → k < F → sc i k = sc' k i) : m.total ≤ m'.total := by
  have h1 := weak (sc := sc) h.pr (rows := gI m'.cols) (cols := gI m'.rows) (fun k hk => (h'.r0 k hk).1) (fun i hi => (h'.c0 i hi).1) (fun i k hi hk => by
    have := h'.fe k i hk hi
    rw [hsc i k hi hk]
    omega)
  have h2 := h'.sum
  rw [h.tot]
  omega
theorem best_law {x y : List Desc} (he : errsF x y = 0) (he2 : errsF y x = 0) : (matchF x y).total = bestN (scD x y) y.length x.length 0 0 ∧ (matchF y x).total = bestN (scD x y) y.length x.length 0 0 := by
  have h1 := match_good he
  have h2 := match_good he2
  have e := h1.bestN fun i k => (scD_bd i k).1
  have hs : ∀ i k, scD x y i k = scD y x k i := fun i k => scoreF_comm
  have a := h1.swap h2 fun i k _ _ => hs i k
  have b := h2.swap h1 fun i k _ _ => (hs k i).symm
  exact ⟨e, by omega⟩
/-! ### One more row, one more column -/
def upto (R : Nat) (q : Nat → Int) (i : Nat) : Int := if i < R then q i else -1
theorem upto_in {R i : Nat} {q : Nat → Int} (h : i < R) : upto R q i = q i := if_pos h
theorem upto_out {R i : Nat} {q : Nat → Int} (h : ¬ i < R) : upto R q i = -1 := if_neg h
def cutF (F : Nat) (q : Nat → Int) (i : Nat) : Int := if q i = (F : Nat) then -1 else q i
theorem cutF_at {F i : Nat} {q : Nat → Int} (h : q i = (F : Nat)) : cutF F q i = -1 := if_pos h
theorem cutF_ne {F i : Nat} {q : Nat → Int} (h : ¬ q i = (F : Nat)) : cutF F q i = q i := if_neg h
theorem grow_row {R F : Nat} {B B' : Int} {sc sc' : Nat → Nat → Int} {m n : Mat} (h : Good R F B sc m) (h' : Good (R + 1) F B' sc' n) (hsc : ∀ i k, i < R → k < F → sc' i k = sc i k) {most : Int} (h0 : 0 ≤ most) (hm : ∀ k, k < F → sc' R k ≤ most) : m.total ≤ n.total ∧ n.total ≤ m.total + most := by
  constructor
  · have h1 := h'.best (p := upto R (gI m.pairs)) ⟨fun i hi => by
      by_cases hR : i < R
      · rw [upto_in hR]; exact h.pr.rg i hR
      · rw [upto_out hR]; omega, fun i j hi hj h1 h2 => by
      by_cases hR : i < R
      · by_cases hj2 : j < R
        · rw [upto_in hR] at h1 h2; rw [upto_in hj2] at h2
          exact h.pr.inj i j hR hj2 h1 h2
        · rw [upto_in hR] at h1 h2; rw [upto_out hj2] at h2; omega
      · rw [upto_out hR] at h1; omega⟩
    rw [sumN_succ] at h1
    have e1 : term sc' (upto R (gI m.pairs)) R = 0 := by unfold term; rw [upto_out (Nat.lt_irrefl R), if_neg (by omega)]
    rw [e1, sumN_congr (g' := term sc (gI m.pairs)) fun i hi => by
      unfold term
      rw [upto_in hi]
      by_cases h2 : 0 ≤ gI m.pairs i
      · rw [if_pos h2, if_pos h2]; exact hsc i _ hi (by have := h.pr.rg i hi; omega)
      · rw [if_neg h2, if_neg h2], ← h.tot] at h1
    omega
  · have h1 := h.best (p := gI n.pairs) ⟨fun i hi => h'.pr.rg i (by omega), fun i j hi hj => h'.pr.inj i j (by omega) (by omega)⟩
    have h2 := h'.tot
    rw [sumN_succ, sumN_congr (g' := term sc (gI n.pairs)) fun i hi => by
      unfold term
      by_cases h2 : 0 ≤ gI n.pairs i
      · rw [if_pos h2, if_pos h2]; exact hsc i _ hi (by have := h'.pr.rg i (by omega); omega)
      · rw [if_neg h2, if_neg h2]] at h2
    have h3 : term sc' (gI n.pairs) R ≤ most := by
      unfold term
      by_cases h4 : 0 ≤ gI n.pairs R
      · rw [if_pos h4]; exact hm _ (by have := h'.pr.rg R (by omega); omega)
      · rw [if_neg h4]; exact h0
    omega
theorem grow_col {R F : Nat} {B B' : Int} {sc sc' : Nat → Nat → Int} {m n : Mat} (h : Good R F B sc m) (h' : Good R (F + 1) B' sc' n) (hsc : ∀ i k, i < R → k < F → sc' i k = sc i k) {most : Int} (h0 : 0 ≤ most) (hm : ∀ i, i < R → sc' i F ≤ most) : m.total ≤ n.total ∧ n.total ≤ m.total + most := by
  constructor
  · have h1 := h'.best (p := gI m.pairs) ⟨fun i hi => by have := h.pr.rg i hi; omega, h.pr.inj⟩
    rw [sumN_congr (g' := term sc (gI m.pairs)) fun i hi => by
      unfold term
      by_cases h2 : 0 ≤ gI m.pairs i
      · rw [if_pos h2, if_pos h2]; exact hsc i _ hi (by have := h.pr.rg i hi; omega)
      · rw [if_neg h2, if_neg h2], ← h.tot] at h1
    exact h1
  · have h1 := h.best (p := cutF F (gI n.pairs)) ⟨fun i hi => by
      have := h'.pr.rg i hi
      by_cases h2 : gI n.pairs i = F
      · rw [cutF_at h2]; omega
      · rw [cutF_ne h2]; omega, fun i j hi hj h1 h2 => by
      by_cases h3 : gI n.pairs i = F
      · rw [cutF_at h3] at h1; omega
      · rw [cutF_ne h3] at h1 h2
        by_cases h4 : gI n.pairs j = F
        · rw [cutF_at h4] at h2; omega
        · rw [cutF_ne h4] at h2; exact h'.pr.inj i j hi hj h1 h2⟩
    have e := h'.tot
    by_cases hx : ∃ i, i < R ∧ gI n.pairs i = F
    · obtain ⟨i0, hi0, he⟩ := hx
      rw [sumN_congr (g' := fun i => if i = i0 then 0 else term sc' (gI n.pairs) i) fun i hi => by
        unfold term
        by_cases h2 : i = i0
        · subst h2
          rw [cutF_at he, if_neg (by omega), if_pos rfl]
        · have h3 : ¬ gI n.pairs i = F := fun h4 => h2 (h'.pr.inj i i0 hi hi0 (by omega) (by omega))
          rw [cutF_ne h3, if_neg h2]
          by_cases h4 : 0 ≤ gI n.pairs i
          · rw [if_pos h4, if_pos h4]; exact (hsc i _ hi (by have := h'.pr.rg i hi; omega)).symm
          · rw [if_neg h4, if_neg h4], sumN_upd hi0, ← e] at h1
      have h5 : term sc' (gI n.pairs) i0 ≤ most := by
        unfold term
        rw [he, if_pos (by omega), show ((F : Int)).toNat = F by omega]
        exact hm i0 hi0
      omega
    · rw [sumN_congr (g' := term sc' (gI n.pairs)) fun i hi => by
        have h3 : ¬ gI n.pairs i = F := fun h4 => hx ⟨i, hi, h4⟩
        unfold term
        rw [cutF_ne h3]
        by_cases h4 : 0 ≤ gI n.pairs i
        · rw [if_pos h4, if_pos h4]; exact (hsc i _ hi (by have := h'.pr.rg i hi; omega)).symm
        · rw [if_neg h4, if_neg h4], ← e] at h1
      omega
end Go.Proofs.Ytjgbbffcjbmjmaa
