import Derived.Test.YtnedeajebhbjbaaTrn
namespace Go.Proofs.Ytnedeajebhbjbaa
open Go.RowKit

/-- Some neighbouring bytes are changed. -/
def hitL : List UInt8 → Nat → List UInt8 → List UInt8
  | j, _, [] => j
  | j, k, x :: t => hitL (hit j k x) (k + 1) t
theorem hitL_len (b : List UInt8) : ∀ (j : List UInt8) (k : Nat), (hitL j k b).length = j.length := by
  induction b with
  | nil => intro j k; rfl
  | cons x t ih => intro j k; rw [hitL, ih, hit_len]
theorem hitL_snoc (b : List UInt8) (x : UInt8) : ∀ (j : List UInt8) (k : Nat), hitL j k (b ++ [x]) = hit (hitL j k b) (k + b.length) x := by
  induction b with
  | nil => intro j k; simp [hitL]
  | cons y t ih => intro j k; simp only [List.cons_append, hitL]; rw [ih]; congr 1; simp; omega
theorem hitL_right (b : List UInt8) : ∀ (l m : List UInt8) (k : Nat), l.length ≤ k → hitL (l ++ m) k b = l ++ hitL m (k - l.length) b := by
  induction b with
  | nil => intro l m k _; rfl
  | cons x t ih =>
    intro l m k h
    rw [hitL, hit_append_right _ _ _ _ h, ih _ _ _ (by omega), hitL, show k + 1 - l.length = k - l.length + 1 by omega]
theorem hitL_left (b : List UInt8) : ∀ (l m : List UInt8) (k : Nat), k + b.length ≤ l.length → hitL (l ++ m) k b = hitL l k b ++ m := by
  induction b with
  | nil => intro l m k _; rfl
  | cons x t ih =>
    intro l m k h
    simp at h
    rw [hitL, hit_append_left _ _ _ _ (by omega), ih _ _ _ (by rw [hit_len]; omega), hitL]
theorem list_four (l : List UInt8) (k : Nat) (h : k + 4 ≤ l.length) : ∃ p m x0 x1 x2 x3, l = p ++ [x0, x1, x2, x3] ++ m ∧ p.length = k := by
  refine ⟨l.take k, l.drop (k + 4), l[k], l[k + 1], l[k + 2], l[k + 3], ?_, by rw [List.length_take]; omega⟩
  have e : l = l.take k ++ l.drop k := (List.take_append_drop k l).symm
  conv => lhs; rw [e]
  rw [List.append_assoc]
  congr 1
  rw [List.drop_eq_getElem_cons (by omega), List.drop_eq_getElem_cons (by omega), List.drop_eq_getElem_cons (by omega), List.drop_eq_getElem_cons (by omega)]
  rfl
theorem chk_burst (i : Int) (r : List UInt8) (k : Nat) (b0 b1 b2 b3 : UInt8) (hk : k + 4 ≤ r.length) (hb : ¬(b0 = 0 ∧ b1 = 0 ∧ b2 = 0 ∧ b3 = 0)) : chk i (hitL r k [b0, b1, b2, b3]) ≠ chk i r := by
  obtain ⟨p, m, x0, x1, x2, x3, e, hp⟩ := list_four r k hk
  have h1 : hitL r k [b0, b1, b2, b3] = p ++ [x0 ^^^ b0, x1 ^^^ b1, x2 ^^^ b2, x3 ^^^ b3] ++ m := by
    rw [e, List.append_assoc, hitL_right _ _ _ _ (by omega), hitL_left _ _ _ _ (by simp; omega), hp, Nat.sub_self, List.append_assoc]
    rfl
  rw [h1, e]
  intro h
  obtain ⟨h0, h1, h2, h3⟩ := chk_four h
  have hz : ∀ {a x : UInt8}, a ^^^ x = a → x = 0 := fun {a x} h => by
    rcases Decidable.em (x = 0) with e | e
    · exact e
    · exact absurd h (xor_ne e)
  exact hb ⟨hz h0, hz h1, hz h2, hz h3⟩
theorem firstL_burst (i : Int) (r t : List UInt8) (k : Nat) (b0 b1 b2 b3 : UInt8) (hr : r.length ≤ 4096) (hk : k + 4 ≤ r.length) (hb : ¬(b0 = 0 ∧ b1 = 0 ∧ b2 = 0 ∧ b3 = 0)) :
    firstL i (hitL (frameL i r ++ t) (4 + k) [b0, b1, b2, b3]) = none := by
  rw [frameL_eq]
  have e : UInt8.ofNat (r.length / 256) :: UInt8.ofNat r.length :: ~~~ UInt8.ofNat (r.length / 256) :: ~~~ UInt8.ofNat r.length :: (r ++ (fourL (chk i r) ++ t)) =
      [UInt8.ofNat (r.length / 256), UInt8.ofNat r.length, ~~~ UInt8.ofNat (r.length / 256), ~~~ UInt8.ofNat r.length] ++ (r ++ (fourL (chk i r) ++ t)) := rfl
  rw [e, hitL_right _ _ _ _ (by simp), hitL_left _ _ _ _ (by simp; omega)]
  have e2 : 4 + k - [UInt8.ofNat (r.length / 256), UInt8.ofNat r.length, ~~~ UInt8.ofNat (r.length / 256), ~~~ UInt8.ofNat r.length].length = k := by simp
  rw [e2]
  show firstL i (_ :: _ :: _ :: _ :: (hitL r k _ ++ (fourL (chk i r) ++ t))) = none
  have hl := hitL_len [b0, b1, b2, b3] r k
  rw [firstL_head i r _ _ hr, if_neg (by simp [fourL_len, hl]), List.take_left' hl, List.drop_left' hl, List.take_left' (fourL_len _), if_neg]
  intro h
  exact chk_burst i r k b0 b1 b2 b3 hk hb (fourL_inj h).symm
def digL : List UInt8 := [48, 49, 50, 51, 52, 53, 54, 55, 56, 57, 97, 98, 99, 100, 101, 102]
theorem recs_burst (l : List (List UInt8)) (k : Nat) (b0 b1 b2 b3 : UInt8) (hr : ∀ r ∈ l, r.length ≤ 4096) (hp : posL l l.length ≤ 4000000) (hk : k ≤ 12) (hb : ¬(b0 = 0 ∧ b1 = 0 ∧ b2 = 0 ∧ b3 = 0)) :
    recs (hitL (joinF 0 (l ++ [digL])) (posL l l.length + 4 + k) [b0, b1, b2, b3]) = (l, posL l l.length) := by
  have hl := joinF_len l 0
  have e : joinF 0 (l ++ [digL]) = joinF 0 l ++ (frameL l.length digL ++ []) := by
    rw [joinF_append, Nat.zero_add]; rfl
  rw [e, hitL_right _ _ _ _ (by omega), hl]
  have := recs_join l (hitL (frameL l.length digL ++ []) (posL l l.length + 4 + k - posL l l.length) [b0, b1, b2, b3]) hr (by omega) (by
    rw [show posL l l.length + 4 + k - posL l l.length = 4 + k by omega]
    exact firstL_burst _ digL [] k b0 b1 b2 b3 (by decide) (by show k + 4 ≤ 16; omega) hb)
  rw [this, hl]
theorem posL_snoc (l : List (List UInt8)) (r : List UInt8) : posL (l ++ [r]) l.length = posL l l.length ∧ posL (l ++ [r]) (l ++ [r]).length = posL l l.length + r.length + 8 := by
  constructor
  · unfold posL; rw [List.take_append_of_le_length (Nat.le_refl _)]
  · unfold posL; rw [List.take_length, List.take_length]; simp; omega
end Go.Proofs.Ytnedeajebhbjbaa
