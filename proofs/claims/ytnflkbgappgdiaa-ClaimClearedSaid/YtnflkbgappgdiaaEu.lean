import Derived.Test.YtnflkbgappgdiaaEs
namespace Go.Proofs.Ytnflkbgappgdiaa
open Go.RowKit
set_option linter.unusedSimpArgs false
set_option linter.unusedVariables false

/-! ### Settle -/
def isNeg (p : Pr) : Bool := decide (p.amt < 0)
def isPos (p : Pr) : Bool := decide (p.amt > 0)
def firstN (l : List Pr) : Nat := l.findIdx isNeg
def firstP (l : List Pr) : Nat := l.findIdx isPos
def amtS (l : List Pr) (i k : Nat) : Int := min (-(l.getD i default).amt) (l.getD k default).amt
def stepS (l : List Pr) (i k : Nat) : List Pr := addAt (addAt l i (amtS l i k)) k (-(amtS l i k))
def trS (l : List Pr) (i k : Nat) : Tr := ⟨(l.getD i default).name, (l.getD k default).name, amtS l i k⟩
def setF : Nat → List Pr → List Tr → List Tr
  | 0, _, out => out
  | f + 1, l, out => if firstN l < l.length ∧ firstP l < l.length then setF f (stepS l (firstN l) (firstP l)) (out ++ [trS l (firstN l) (firstP l)]) else out
def nz (l : List Pr) : Nat := l.countP fun p => decide (p.amt ≠ 0)
def settleV (xs : List Pr) : List Tr × Int := if balE xs = 0 then (setF xs.length xs [], 0) else ([], balE xs)
theorem setF_stop {f : Nat} {l : List Pr} {out : List Tr} (h : ¬ (firstN l < l.length ∧ firstP l < l.length)) : setF f l out = out := by
  cases f with
  | zero => rfl
  | succ f => unfold setF; rw [if_neg h]
theorem setF_go {f : Nat} {l : List Pr} {out : List Tr} {i k : Nat} (hi : firstN l = i) (hk : firstP l = k) (h1 : i < l.length) (h2 : k < l.length) : setF (f + 1) l out = setF f (stepS l i k) (out ++ [trS l i k]) := by
  subst hi; subst hk
  conv => lhs; unfold setF
  rw [if_pos ⟨h1, h2⟩]
theorem addAt_len (l : List Pr) (j : Nat) (z : Int) : (addAt l j z).length = l.length := by simp [addAt]
theorem addAt_getD {l : List Pr} {j t : Nat} {z : Int} (ht : t < l.length) : (addAt l j z).getD t default = if t = j then ⟨(l.getD j default).name, (l.getD j default).amt + z⟩ else l.getD t default := by
  unfold addAt
  rw [List.getD_eq_getElem?_getD, List.getElem?_set]
  by_cases h : j = t
  · subst h; rw [if_pos rfl, if_pos ht, if_pos rfl]; rfl
  · rw [if_neg h, if_neg (Ne.symm h), List.getD_eq_getElem?_getD]
theorem stepS_len (l : List Pr) (i k : Nat) : (stepS l i k).length = l.length := by unfold stepS; rw [addAt_len, addAt_len]
theorem stepS_getD {l : List Pr} {i k t : Nat} (hik : i ≠ k) (hi : i < l.length) (hk : k < l.length) (ht : t < l.length) :
    (stepS l i k).getD t default = if t = i then ⟨(l.getD i default).name, (l.getD i default).amt + amtS l i k⟩ else if t = k then ⟨(l.getD k default).name, (l.getD k default).amt - amtS l i k⟩ else l.getD t default := by
  unfold stepS
  rw [addAt_getD (by rw [addAt_len]; exact ht)]
  by_cases h1 : t = k
  · subst h1
    rw [if_pos rfl, if_neg (Ne.symm hik), if_pos rfl, addAt_getD hk, if_neg (Ne.symm hik)]
    rfl
  · rw [if_neg h1, addAt_getD ht]
    by_cases h2 : t = i
    · subst h2; rw [if_pos rfl, if_pos rfl]
    · rw [if_neg h2, if_neg h2, if_neg h1]
theorem amtS_bd {l : List Pr} {i k : Nat} (hi : (l.getD i default).amt < 0) (hk : 0 < (l.getD k default).amt) : 0 < amtS l i k ∧ amtS l i k ≤ -(l.getD i default).amt ∧ amtS l i k ≤ (l.getD k default).amt ∧ (amtS l i k = -(l.getD i default).amt ∨ amtS l i k = (l.getD k default).amt) := by
  unfold amtS
  omega
theorem neq_of {l : List Pr} {i k : Nat} (hi : (l.getD i default).amt < 0) (hk : 0 < (l.getD k default).amt) : i ≠ k := fun e => by subst e; omega
theorem count_set {α : Type} {f : α → Bool} : ∀ {l : List α} {j : Nat} (x : α) (h : j < l.length), (l.set j x).countP f + (if f l[j] then 1 else 0) = l.countP f + (if f x then 1 else 0)
  | y :: l, 0, x, _ => by simp only [List.set_cons_zero, List.countP_cons, List.getElem_cons_zero]; omega
  | y :: l, j + 1, x, h => by
    have := count_set (f := f) (l := l) (j := j) x (by simpa using h)
    simp only [List.set_cons_succ, List.countP_cons, List.getElem_cons_succ]
    omega
theorem nz_step {l : List Pr} {i k : Nat} (hil : i < l.length) (hkl : k < l.length) (hi : (l.getD i default).amt < 0) (hk : 0 < (l.getD k default).amt) : nz (stepS l i k) + 1 ≤ nz l := by
  have hne := neq_of hi hk
  obtain ⟨b1, b2, b3, b4⟩ := amtS_bd hi hk
  have gi : l[i] = l.getD i default := by rw [List.getD_eq_getElem?_getD, List.getElem?_eq_getElem hil]; rfl
  have gk : l[k] = l.getD k default := by rw [List.getD_eq_getElem?_getD, List.getElem?_eq_getElem hkl]; rfl
  unfold nz stepS
  have e1 := count_set (f := fun p : Pr => decide (p.amt ≠ 0)) (l := l) (j := i) ⟨(l.getD i default).name, (l.getD i default).amt + amtS l i k⟩ hil
  have hk2 : k < (addAt l i (amtS l i k)).length := by rw [addAt_len]; exact hkl
  have gk2 : (addAt l i (amtS l i k)).getD k default = l.getD k default := by rw [addAt_getD hkl, if_neg (Ne.symm hne)]
  have e2 := count_set (f := fun p : Pr => decide (p.amt ≠ 0)) (l := addAt l i (amtS l i k)) (j := k) ⟨((addAt l i (amtS l i k)).getD k default).name, ((addAt l i (amtS l i k)).getD k default).amt + -(amtS l i k)⟩ hk2
  have gk3 : (addAt l i (amtS l i k))[k] = l.getD k default := by
    rw [← gk2, List.getD_eq_getElem?_getD, List.getElem?_eq_getElem hk2]; rfl
  rw [gk3] at e2
  rw [gk2] at e2
  rw [gi] at e1
  have c1 : (decide ((l.getD i default).amt ≠ 0)) = true := by rw [decide_eq_true_eq]; omega
  have c2 : (decide ((l.getD k default).amt ≠ 0)) = true := by rw [decide_eq_true_eq]; omega
  simp only [c1, c2, if_true] at e1 e2
  have u1 : (addAt (addAt l i (amtS l i k)) k (-(amtS l i k))) = (addAt l i (amtS l i k)).set k ⟨(l.getD k default).name, (l.getD k default).amt + -(amtS l i k)⟩ := by
    conv => lhs; unfold addAt
    rw [show (l.set i ⟨(l.getD i default).name, (l.getD i default).amt + amtS l i k⟩) = addAt l i (amtS l i k) from rfl, gk2]
  rw [u1]
  have u2 : addAt l i (amtS l i k) = l.set i ⟨(l.getD i default).name, (l.getD i default).amt + amtS l i k⟩ := rfl
  rw [← u2] at e1
  rcases b4 with b4 | b4
  · have c3 : (decide ((l.getD i default).amt + amtS l i k ≠ 0)) = false := by rw [decide_eq_false_iff_not]; omega
    rw [c3] at e1
    split at e2 <;> simp at e1 e2 ⊢ <;> omega
  · have c3 : (decide ((l.getD k default).amt + -(amtS l i k) ≠ 0)) = false := by rw [decide_eq_false_iff_not]; omega
    rw [c3] at e2
    split at e1 <;> simp at e1 e2 ⊢ <;> omega
theorem nz_pos {l : List Pr} {i : Nat} (hil : i < l.length) (hi : (l.getD i default).amt ≠ 0) : 0 < nz l := by
  unfold nz
  rw [List.countP_pos_iff]
  exact ⟨l.getD i default, getD_memP hil, by simpa using hi⟩
abbrev inL (l : List Pr) : Prop := ∀ t, t < l.length → -1073741824 ≤ (l.getD t default).amt ∧ (l.getD t default).amt ≤ 1073741824
theorem inL_step {l : List Pr} {i k : Nat} (h : inL l) (hil : i < l.length) (hkl : k < l.length) (hi : (l.getD i default).amt < 0) (hk : 0 < (l.getD k default).amt) : inL (stepS l i k) := by
  have hne := neq_of hi hk
  obtain ⟨b1, b2, b3, b4⟩ := amtS_bd hi hk
  intro t ht
  rw [stepS_len] at ht
  have h1 := h i hil
  have h2 := h k hkl
  have h3 := h t ht
  rw [stepS_getD hne hil hkl ht]
  split
  · dsimp only; omega
  · split
    · dsimp only; omega
    · exact h3
theorem first_is {l : List Pr} {f : Pr → Bool} {i : Nat} (hi : i < l.length) (h : f (l.getD i default) = true) (hb : ∀ t, t < i → f (l.getD t default) = false) : l.findIdx f = i := by
  refine first_at (List.getElem?_eq_getElem hi) ?_ fun k hk hki => ?_
  · rw [List.getD_eq_getElem?_getD, List.getElem?_eq_getElem hi] at h; exact h
  · have := hb k hki
    rw [List.getD_eq_getElem?_getD, List.getElem?_eq_getElem hk] at this
    exact this
theorem first_none {l : List Pr} {f : Pr → Bool} (hb : ∀ t, t < l.length → f (l.getD t default) = false) : ¬ l.findIdx f < l.length := by
  rw [first_no (f := f) (xs := l) fun k hk => by
    have := hb k hk
    rw [List.getD_eq_getElem?_getD, List.getElem?_eq_getElem hk] at this
    exact this]
  omega
theorem step_set (l : List Pr) (i : Nat) (z : Int) : ((l.map Pr.av).set i (splice (Pr.av (l.getD i default)) 1 [.v (.int .i64 ((l.getD i default).amt + z))])) = (addAt l i z).map Pr.av := set_add l i z
theorem sub_set (l : List Pr) (k : Nat) (z : Int) : ((l.map Pr.av).set k (splice (Pr.av (l.getD k default)) 1 [.v (.int .i64 ((l.getD k default).amt - z))])) = (addAt l k (-z)).map Pr.av := by
  have := set_add l k (-z)
  rw [← this]
  rfl
end Go.Proofs.Ytnflkbgappgdiaa
