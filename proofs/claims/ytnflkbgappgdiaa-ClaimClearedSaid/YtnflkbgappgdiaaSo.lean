import Derived.Test.YtnflkbgappgdiaaSn
namespace Go.Proofs.Ytnflkbgappgdiaa
open Go.RowKit
set_option linter.unusedSimpArgs false
set_option linter.unusedVariables false
/-! ### The rounds of ClaimCleared -/
structure Cl (r : Nat) (O P : Nat → Int) (all : List Pr) : Prop where
  all : (r = 0 ∧ all = [] ∧ ∀ k, O k = 0 ∧ P k = 0) ∨ (1 ≤ r ∧ all = F5 fun k => P k - O k)
  bd : ∀ k, 0 ≤ O k ∧ O k ≤ 1000 * (r : Int) ∧ 0 ≤ P k ∧ P k ≤ 1000 * (r : Int)
  sum : S5 (fun k => P k - O k) = 0
  out : ∀ k, 5 ≤ k → O k = 0 ∧ P k = 0
theorem Cl.zero : Cl 0 (fun _ => 0) (fun _ => 0) [] := ⟨.inl ⟨rfl, rfl, fun _ => ⟨rfl, rfl⟩⟩, fun k => by omega, rfl, fun _ _ => ⟨rfl, rfl⟩⟩
/-- The five shares. -/
structure ShN (n : Int) (a : Nat → Int) : Prop where
  bd : ∀ k, 0 ≤ a k ∧ a k ≤ n
  sum : S5 a = n
  out : ∀ k, 5 ≤ k → a k = 0
def shF (n : Int) (p : List Pr) (k : Nat) : Int := ((shareL n p).getD k default).amt
theorem share_F5 {n : Int} {a b c d e : Int} (hn : 0 ≤ n ∧ n ≤ 1000) (h : In5 1 1000 a b c d e) : shareL n (P5 a b c d e) = F5 (shF n (P5 a b c d e)) ∧ ShN n (shF n (P5 a b c d e)) := by
  have hL := share_ok (n := n) (by omega) (partyE_P5 h)
  have h5 : (shareL n (P5 a b c d e)).length = 5 := hL.len
  have hn5 : ∀ j, j < 5 → ((shareL n (P5 a b c d e)).getD j default).name = carr.getD j default := fun j hj => by
    rw [hL.name j hj]
    match j, hj with
    | 0, _ => rfl
    | 1, _ => rfl
    | 2, _ => rfl
    | 3, _ => rfl
    | 4, _ => rfl
  have hE : shareL n (P5 a b c d e) = F5 (shF n (P5 a b c d e)) := P5_of h5 hn5
  have ho : ∀ k, 5 ≤ k → shF n (P5 a b c d e) k = 0 := fun k hk => by
    unfold shF
    rw [List.getD_eq_getElem?_getD, List.getElem?_eq_none (by omega)]
    rfl
  refine ⟨hE, fun k => ?_, ?_, ho⟩
  · by_cases h1 : k < 5
    · exact hL.nn k h1
    · rw [ho k (by omega)]; omega
  · have hs := hL.sum
    rw [hE] at hs
    have : shF n (P5 a b c d e) 0 + (shF n (P5 a b c d e) 1 + (shF n (P5 a b c d e) 2 + (shF n (P5 a b c d e) 3 + (shF n (P5 a b c d e) 4 + 0)))) = n := hs
    unfold S5
    omega
theorem balB_bd {n : Int} {a : Nat → Int} {w : Nat} (h : ShN n a) (hn : 0 ≤ n ∧ n ≤ 1000) : B5 (-5000) 5000 (balB w n a) := fun k => by
  have := h.bd k
  unfold balB
  split <;> omega
theorem balB_sum {n : Int} {a : Nat → Int} {w : Nat} (h : ShN n a) (hw : w < 5) : S5 (balB w n a) = 0 := by
  have hs := h.sum
  unfold S5 at hs ⊢
  unfold balB
  match w, hw with
  | 0, _ => simp; omega
  | 1, _ => simp; omega
  | 2, _ => simp; omega
  | 3, _ => simp; omega
  | 4, _ => simp; omega
theorem Cl.step {r : Nat} {O P a : Nat → Int} {all : List Pr} {n : Int} {w : Nat} (h : Cl r O P all) (hr : r ≤ 4) (hn : 0 ≤ n ∧ n ≤ 1000) (ha : ShN n a) (hw : w < 5) :
    ∃ c, combV all (F5 (balB w n a)) = (c, 0) ∧ combV (F5 (balB w n a)) all = (c, 0) ∧ c.length = 5 ∧ Cl (r + 1) (fun k => O k + a k) (updF P w (P w + n)) c := by
  have hB := balB_bd (w := w) ha hn
  have hS := balB_sum ha hw
  have hfun : ∀ k, P k - O k + balB w n a k = updF P w (P w + n) k - (O k + a k) := fun k => by
    unfold balB updF
    split
    · rename_i e; subst e; omega
    · omega
  have hsum : S5 (fun k => updF P w (P w + n) k - (O k + a k)) = 0 := by
    have h1 := h.sum
    unfold S5 at h1 hS ⊢
    dsimp only at h1 ⊢
    rw [← hfun, ← hfun, ← hfun, ← hfun, ← hfun]
    omega
  refine ⟨F5 fun k => updF P w (P w + n) k - (O k + a k), ?_, ?_, rfl, .inr ⟨by omega, rfl⟩, fun k => ?_, hsum, fun k hk => ?_⟩
  · rcases h.all with ⟨-, rfl, h0⟩ | ⟨-, rfl⟩
    · rw [comb_NF hB hS]
      congr 1
      refine F5_congr fun k _ => ?_
      have := hfun k; have := h0 k
      omega
    · rw [comb_FF (fun k => by have := h.bd k; omega) hB h.sum hS]
      congr 1
      exact F5_congr fun k _ => hfun k
  · rcases h.all with ⟨-, rfl, h0⟩ | ⟨-, rfl⟩
    · rw [comb_FN hB hS]
      congr 1
      refine F5_congr fun k _ => ?_
      have := hfun k; have := h0 k
      omega
    · rw [comb_FF hB (fun k => by have := h.bd k; omega) hS h.sum]
      congr 1
      refine F5_congr fun k _ => ?_
      have := hfun k
      omega
  · have h1 := h.bd k; have h2 := ha.bd k; have h3 := h.bd w
    unfold updF
    split
    · omega
    · omega
  · have h1 := h.out k hk; have h2 := ha.out k hk
    unfold updF
    rw [if_neg (by omega)]
    omega
theorem settle_L5 {f : Nat → Int} (hb : B5 (-5000) 5000 f) (hs : S5 f = 0) : SettleLaw (F5 f) (setF 5 (F5 f) []) := by
  refine settle_law (balF hb (by decide) (by decide) hs) ?_
  show f 0 + (f 1 + (f 2 + (f 3 + (f 4 + 0)))) = 0
  unfold S5 at hs
  omega
end Go.Proofs.Ytnflkbgappgdiaa
