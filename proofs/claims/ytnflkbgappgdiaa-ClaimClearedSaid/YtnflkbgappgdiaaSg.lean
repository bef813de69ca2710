import Derived.Test.YtnflkbgappgdiaaEy
import Derived.Test.YtnflkbgappgdiaaEj
namespace Go.Proofs.Ytnflkbgappgdiaa
open Go.RowKit
set_option linter.unusedSimpArgs false
set_option linter.unusedVariables false

/-! ### The lists that are made are good -/
def cix (st : Int) (j : Nat) : Nat := (Int.tmod (st + 3 * (j : Nat)) 8).toNat
theorem cix_lt {st : Int} {j : Nat} (h : 0 ≤ st) : cix st j < 8 := by
  unfold cix
  rw [Int.tmod_eq_emod_of_nonneg (by omega)]
  omega
theorem cix_ne {st : Int} {i j : Nat} (h : 0 ≤ st) (hij : i < j) (hj : j < 8) : cix st i ≠ cix st j := by
  unfold cix
  rw [Int.tmod_eq_emod_of_nonneg (by omega), Int.tmod_eq_emod_of_nonneg (by omega)]
  omega
theorem carr_name : ∀ t, t < 8 → nameB (carr.getD t default) = true := by decide +kernel
theorem carr_ne : ∀ s, s < 8 → ∀ t, t < 8 → s ≠ t → carr.getD s default ≠ carr.getD t default := by decide +kernel
structure Named (st lo : Int) (xs : List Pr) : Prop where
  name : ∀ j, j < xs.length → (xs.getD j default).name = carr.getD (cix st j) default
  amt : ∀ j, j < xs.length → lo ≤ (xs.getD j default).amt ∧ (xs.getD j default).amt ≤ 1073741824
theorem getD_app {xs : List Pr} {x : Pr} {j : Nat} (h : j < (xs ++ [x]).length) : (xs ++ [x]).getD j default = if j < xs.length then xs.getD j default else x := by
  by_cases h1 : j < xs.length
  · rw [if_pos h1, List.getD_eq_getElem?_getD, List.getElem?_append_left h1, List.getD_eq_getElem?_getD]
  · have h2 : j = xs.length := by simp at h; omega
    subst h2
    rw [if_neg h1, List.getD_eq_getElem?_getD, List.getElem?_append_right (Nat.le_refl _)]
    simp
theorem Named.add {st lo : Int} {xs : List Pr} {x : Pr} (h : Named st lo xs) (h1 : x.name = carr.getD (cix st xs.length) default) (h2 : lo ≤ x.amt ∧ x.amt ≤ 1073741824) : Named st lo (xs ++ [x]) := by
  refine ⟨fun j hj => ?_, fun j hj => ?_⟩
  · rw [getD_app hj]
    split
    · exact h.name j (by assumption)
    · have : j = xs.length := by simp at hj; omega
      rw [this]; exact h1
  · rw [getD_app hj]
    split
    · exact h.amt j (by assumption)
    · exact h2
theorem named_ok {st lo : Int} {xs : List Pr} (h0 : 0 ≤ st) (h : Named st lo xs) (h8 : xs.length ≤ 8) : badE lo xs = 0 := by
  refine badE_no fun j hj => ?_
  have hq : xs[j]? = some (xs.getD j default) := by rw [List.getD_eq_getElem?_getD, List.getElem?_eq_getElem hj]; rfl
  refine code0 hq ?_ ?_ (inB_iff.2 (h.amt j hj))
  · rw [h.name j hj]
    exact carr_name _ (cix_lt h0)
  · refine pos_none (by omega) fun i hi hij => ?_
    have hg : xs[i] = xs.getD i default := by rw [List.getD_eq_getElem?_getD, List.getElem?_eq_getElem hi]; rfl
    simp only [isN, decide_eq_false_iff_not]
    rw [hg, h.name i hi, h.name j hj]
    exact carr_ne _ (cix_lt h0) _ (cix_lt h0) (cix_ne h0 hij (by omega))
theorem bad_in' {lo : Int} {xs : List Pr} (h : badE lo xs = 0) {p : Pr} (hp : p ∈ xs) : lo ≤ p.amt ∧ p.amt ≤ 1073741824 := by
  obtain ⟨k, hk, rfl⟩ := List.getElem_of_mem hp
  have := code_in (List.getElem?_eq_getElem hk) (badE_ok h k hk)
  exact ⟨this.1, this.2.1⟩
theorem partsF_named (l : List Int) {st : Int} : ∀ (f k : Nat) (ps : List Pr), Named st 0 ps → Named st 0 (partsF l st f k ps).1
  | 0, k, ps, h => by rw [partsF_0]; exact h
  | f + 1, k, ps, h => by
    rw [partsF_s]
    exact partsF_named l f _ _ (h.add rfl (pick_w l k))
theorem parts_ok {l : List Int} {k n : Nat} (hn : 1 ≤ n) (h8 : n ≤ 8) : partyE (partsV l k n).1 = 0 := by
  have hg := gmod_bd (x := rawV l k) (n := 8) (by decide)
  have hlen := partsV_len (l := l) (k := k) hn
  have hnm := partsF_named l (st := gmod (rawV l k) 8) (1 + gmod (rawV l (rawN l k)) (n : Nat)).toNat (rawN l (rawN l k)) [] ⟨fun j hj => by simp at hj, fun j hj => by simp at hj⟩
  unfold partsV at hlen ⊢
  dsimp only at hlen ⊢
  generalize hr : (partsF l (gmod (rawV l k) 8) (1 + gmod (rawV l (rawN l k)) (n : Nat)).toNat (rawN l (rawN l k)) []).1 = r at *
  match r, hnm, hlen with
  | [], _, h => simp at h
  | p :: ps, hnm, hlen =>
    have hp := hnm.amt 0 (by simp)
    have hN : Named (gmod (rawV l k) 8) 0 (fstUp (p :: ps)) := by
      refine ⟨fun j hj => ?_, fun j hj => ?_⟩
      · cases j with
        | zero => exact hnm.name 0 (by simp)
        | succ j => exact hnm.name (j + 1) hj
      · cases j with
        | zero =>
          have h1 : (0 : Int) ≤ p.amt ∧ p.amt ≤ 1073741824 := hp
          show 0 ≤ p.amt + (1 - min 1 p.amt) ∧ p.amt + (1 - min 1 p.amt) ≤ 1073741824
          omega
        | succ j => exact hnm.amt (j + 1) hj
    have hb := named_ok hg.1 hN (by have := hlen.2; simp at this ⊢; omega)
    have hs := sum_bd (xs := fstUp (p :: ps)) (i := (fstUp (p :: ps)).length) (Nat.le_refl _) (fun k hk => badE_ok hb k hk)
    have h1 : (0 : Int) ≤ p.amt ∧ p.amt ≤ 1073741824 := hp
    have hge : 0 < sumA (fstUp (p :: ps)) := by
      have h2 : ∀ q ∈ fstUp (p :: ps), 0 ≤ q.amt := fun q hq => (bad_in' hb hq).1
      have h3 := amt_le_sum h2 (p := ⟨p.name, p.amt + (1 - min 1 p.amt)⟩) (by simp)
      dsimp only at h3
      omega
    unfold partyE
    rw [if_neg (by have := hlen.2; simp at this ⊢; omega), if_pos hb, if_neg (by omega)]
theorem balsF_law (l : List Int) {st : Int} : ∀ (f k : Nat) (tot : Int) (ps : List Pr), ps.length + f ≤ 8 → Named st (-1000) ps → tot = sumA ps → -(100 * (ps.length : Int)) ≤ tot → tot ≤ 100 * (ps.length : Int) → Named st (-1000) (balsF l st f k tot ps).1 ∧ (f ≠ 0 ∨ tot = 0 → sumA (balsF l st f k tot ps).1 = 0)
  | 0, k, tot, ps, _, h, hs, _, _ => by
    rw [balsF_0]
    exact ⟨h, fun h0 => by dsimp only; omega⟩
  | f + 1, k, tot, ps, hl, h, hs, h1, h2 => by
    rw [balsF_s]
    have hg := gmod_bd (x := rawV l k) (n := 201) (by decide)
    have hb : -700 ≤ balA l f k tot ∧ balA l f k tot ≤ 700 ∧ (f ≠ 0 → -100 ≤ balA l f k tot ∧ balA l f k tot ≤ 100) ∧ (f = 0 → balA l f k tot = -tot) := by
      unfold balA
      split <;> omega
    have hN : Named st (-1000) (ps ++ [nbl l st k ps.length (balA l f k tot)]) := h.add rfl (by show -1000 ≤ balA l f k tot ∧ balA l f k tot ≤ 1073741824; omega)
    have hS : tot + balA l f k tot = sumA (ps ++ [nbl l st k ps.length (balA l f k tot)]) := by
      unfold sumA at hs ⊢
      rw [List.map_append, List.sum_append, hs]
      simp [nbl]
    by_cases hf : f = 0
    · subst hf
      rw [balsF_0]
      refine ⟨hN, fun _ => ?_⟩
      dsimp only
      rw [← hS, hb.2.2.2 rfl]
      omega
    · have hb2 := hb.2.2.1 hf
      have := balsF_law l f (rawN l k) (tot + balA l f k tot) _ (by simp; omega) hN hS (by simp; omega) (by simp; omega)
      exact ⟨this.1, fun _ => this.2 (.inl hf)⟩
theorem sum_clip {xs : List Pr} (h : ∀ p ∈ xs, -1073741824 ≤ p.amt ∧ p.amt ≤ 1073741824) (h8 : xs.length ≤ 8) : totV xs = sumA xs := by
  unfold totV clipS sumA
  rw [List.take_of_length_le h8]
  congr 1
  refine List.map_congr_left fun p hp => ?_
  exact clip_yes (inB_iff.2 (h p hp))
theorem bals_ok (l : List Int) (k n : Nat) (h8 : n ≤ 8) : balE (balsV l k n).1 = 0 ∧ sumA (balsV l k n).1 = 0 := by
  have hg := gmod_bd (x := rawV l k) (n := 8) (by decide)
  have hg2 := gmod_bd (x := rawV l (rawN l k)) (n := (n : Int) + 1) (by omega)
  have hlen := balsV_len l k n
  have h := balsF_law l (st := gmod (rawV l k) 8) (gmod (rawV l (rawN l k)) ((n : Int) + 1)).toNat (rawN l (rawN l k)) 0 [] (by simp; omega) ⟨fun j hj => by simp at hj, fun j hj => by simp at hj⟩ (by simp [sumA]) (by simp) (by simp)
  have hN : Named (gmod (rawV l k) 8) (-1073741824) (balsV l k n).1 := ⟨h.1.name, fun j hj => by have h2 : -1000 ≤ ((balsV l k n).1.getD j default).amt ∧ ((balsV l k n).1.getD j default).amt ≤ 1073741824 := h.1.amt j hj; exact ⟨by omega, h2.2⟩⟩
  have hb := named_ok hg.1 hN (by omega)
  have hs : sumA (balsV l k n).1 = 0 := h.2 (.inr rfl)
  have ht : totV (balsV l k n).1 = 0 := by
    rw [sum_clip (fun p hp => bad_in' hb hp) (by omega), hs]
  refine ⟨?_, hs⟩
  unfold balE
  rw [if_neg (by omega), if_pos hb, if_pos ht]
end Go.Proofs.Ytnflkbgappgdiaa
