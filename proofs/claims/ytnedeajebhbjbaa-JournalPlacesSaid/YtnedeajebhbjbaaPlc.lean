import Derived.Test.YtnedeajebhbjbaaBur
namespace Go.Proofs.Ytnedeajebhbjbaa
open Go.RowKit

theorem RdL.cutIf {α : Type} {R : Rel α} {S : Nat → Prop} {w : World} {g o : Nat} {xs : List α} (h : RdL R 1 S w (some ⟨g, o, none⟩) xs) (k m c : Nat) (hc : xs.length ≤ c) :
    RdL R 1 S w (if c = k then some ⟨g, o, none⟩ else some ⟨g, o + k, none⟩) ((xs.drop k).take m) := by
  refine h.part k m _ fun g' o' e hp => ?_
  injection e with e
  injection e with e1 e2
  subst e1; subst e2
  have : c ≠ k := by
    intro he
    rw [List.length_take, List.length_drop] at hp
    omega
  rw [if_neg this, Nat.mul_one]
theorem RdL.cutIfD {α : Type} {R : Rel α} {S : Nat → Prop} {w : World} {g o : Nat} {xs : List α} (h : RdL R 1 S w (some ⟨g, o, none⟩) xs) (k c : Nat) (hc : xs.length ≤ c) :
    RdL R 1 S w (if c = k then some ⟨g, o, none⟩ else some ⟨g, o + k, none⟩) (xs.drop k) := by
  have := h.cutIf k xs.length c hc
  rwa [List.take_of_length_le (by rw [List.length_drop]; omega)] at this
theorem recs_gap (l : List (List UInt8)) (i : Nat) (t : List UInt8) (hr : ∀ r ∈ l, r.length ≤ 4096) (hp : posL l l.length ≤ 4194304) (hi : i ≤ l.length) (ht : firstL (i : Nat) t = none) :
    recs (joinF 0 (l.take i) ++ t) = (l.take i, posL l i) := by
  have hlen := joinF_take_len l i hi
  have hti : (l.take i).length = i := by rw [List.length_take]; omega
  have hm := posL_mono l hi
  have := recs_join (l.take i) t (fun r h => hr r (List.mem_of_mem_take h)) (by omega) (by rw [hti]; exact ht)
  rw [this, hlen]
theorem joinF_take (l : List (List UInt8)) (i : Nat) (h : i ≤ l.length) : (joinF 0 l).take (posL l i) = joinF 0 (l.take i) := by
  have hlen := joinF_take_len l i h
  rw [joinF_take_split l i h, List.take_append_of_le_length (by omega), ← hlen, List.take_length]
theorem joinF_drop (l : List (List UInt8)) (i : Nat) (h : i ≤ l.length) : (joinF 0 l).drop (posL l i) = joinF i (l.drop i) := by
  have hlen := joinF_take_len l i h
  rw [joinF_take_split l i h, ← hlen, List.drop_left]
theorem joinF_cut (l : List (List UInt8)) (i : Nat) (h : i < l.length) : ((joinF 0 l).drop (posL l i)).take (posL l (i + 1) - posL l i) = frameL i l[i] := by
  rw [joinF_drop l i (by omega), List.drop_eq_getElem_cons h]
  show (frameL i l[i] ++ _).take _ = _
  have hs := posL_succ l i h
  have hfl : (frameL i l[i]).length = l[i].length + 8 := frameL_len _ _
  rw [List.take_append_of_le_length (by omega), List.take_of_length_le (by omega)]
theorem firstL_tail (l : List (List UInt8)) (i j : Nat) (hj : i ≠ j) (hi : i < 4294967296) (hl : l.length + j < 4294967296) (hr : ∀ r ∈ l, r.length ≤ 4096) : firstL (i : Nat) (joinF j l) = none := by
  cases l with
  | nil => exact firstL_nil _
  | cons r l =>
    show firstL _ (frameL j r ++ joinF (j + 1) l) = none
    simp at hl
    exact firstL_other r _ (hr r (by simp)) (by omega) (by omega) (by omega) (by omega) (by omega)
/-- A frame is left out. -/
theorem recs_out (l : List (List UInt8)) (i : Nat) (hr : ∀ r ∈ l, r.length ≤ 4096) (hp : posL l l.length ≤ 4194304) (hi : i < l.length) (hl : l.length ≤ 1000) :
    recs ((joinF 0 l).take (posL l i) ++ (joinF 0 l).drop (posL l (i + 1))) = (l.take i, posL l i) := by
  rw [joinF_take l i (by omega), joinF_drop l (i + 1) (by omega)]
  refine recs_gap l i _ hr hp (by omega) (firstL_tail _ _ _ (by omega) (by omega) (by rw [List.length_drop]; omega) fun r h => hr r (List.mem_of_mem_drop h))
/-- A frame takes another one's place. -/
theorem recs_moved (l : List (List UInt8)) (i k : Nat) (t : List UInt8) (hr : ∀ r ∈ l, r.length ≤ 4096) (hp : posL l l.length ≤ 4194304) (hi : i < l.length) (hk : k < l.length) (hik : i ≠ k) (hl : l.length ≤ 1000) :
    recs ((joinF 0 l).take (posL l i) ++ ((joinF 0 l).drop (posL l k)).take (posL l (k + 1) - posL l k) ++ t) = (l.take i, posL l i) := by
  rw [joinF_take l i (by omega), joinF_cut l k hk, List.append_assoc]
  refine recs_gap l i _ hr hp (by omega) (firstL_other _ _ (hr _ (List.getElem_mem hk)) (by omega) (by omega) (by omega) (by omega) (by omega))
end Go.Proofs.Ytnedeajebhbjbaa
