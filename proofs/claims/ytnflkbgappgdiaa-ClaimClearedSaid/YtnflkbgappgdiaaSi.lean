import Derived.Test.YtnflkbgappgdiaaEv
import Derived.Test.YtnflkbgappgdiaaSg
namespace Go.Proofs.Ytnflkbgappgdiaa
open Go.RowKit
set_option linter.unusedSimpArgs false
set_option linter.unusedVariables false

/-! ### What Settle brings about -/
def netT (nm : ByteArray) (t : Tr) : Int := (if t.fr = nm then t.amt else 0) - (if t.to = nm then t.amt else 0)
structure SettleLaw (xs : List Pr) (ts : List Tr) : Prop where
  count : ts.length ≤ xs.length - 1
  pos : ∀ t ∈ ts, 1 ≤ t.amt ∧ t.amt ≤ 1073741824
  bal : ∀ i, i < xs.length → (xs.getD i default).amt + (ts.map (netT (xs.getD i default).name)).sum = 0
  one : ∀ i, i < xs.length → ¬ ((∃ t ∈ ts, t.fr = (xs.getD i default).name) ∧ ∃ t ∈ ts, t.to = (xs.getD i default).name)
structure RInv (xs l : List Pr) (out : List Tr) : Prop where
  len : l.length = xs.length
  name : ∀ i, i < xs.length → (l.getD i default).name = (xs.getD i default).name
  inl : inL l
  sum : sumA l = 0
  net : ∀ i, i < xs.length → (l.getD i default).amt = (xs.getD i default).amt + (out.map (netT (xs.getD i default).name)).sum
  sgn : ∀ i, i < xs.length → ((xs.getD i default).amt ≤ 0 → (l.getD i default).amt ≤ 0) ∧ (0 ≤ (xs.getD i default).amt → 0 ≤ (l.getD i default).amt)
  pos : ∀ t ∈ out, 1 ≤ t.amt ∧ t.amt ≤ 1073741824
  src : ∀ t ∈ out, (∃ i, i < xs.length ∧ t.fr = (xs.getD i default).name ∧ (xs.getD i default).amt < 0) ∧ ∃ k, k < xs.length ∧ t.to = (xs.getD k default).name ∧ 0 < (xs.getD k default).amt
  cnt : out.length + nz l ≤ nz xs
  cnt0 : nz l = 0 → out ≠ [] → out.length + 1 ≤ nz xs
def Distinct (xs : List Pr) : Prop := ∀ i j, i < xs.length → j < xs.length → (xs.getD i default).name = (xs.getD j default).name → i = j
theorem distinct_of {lo : Int} {xs : List Pr} (h : badE lo xs = 0) : Distinct xs := by
  have hon : ∀ k, k < xs.length → ∀ q, xs[k]? = some q → ¬ posL (xs.take k) q.name < k := fun k hk q hq => (code_in hq (badE_ok h k hk)).2.2.2
  have hg : ∀ i, i < xs.length → xs[i]? = some (xs.getD i default) := fun i hi => by rw [List.getD_eq_getElem?_getD, List.getElem?_eq_getElem hi]; rfl
  intro i j hi hj hn
  rcases Nat.lt_trichotomy i j with h1 | h1 | h1
  · exact absurd (pos_yes (hg i hi) h1 hn) (hon j hj _ (hg j hj))
  · exact h1
  · exact absurd (pos_yes (hg j hj) h1 hn.symm) (hon i hi _ (hg i hi))
theorem sumA_addAt {l : List Pr} {j : Nat} {z : Int} (h : j < l.length) : sumA (addAt l j z) = sumA l + z := by
  have : ∀ (l : List Pr) (j : Nat) (x : Pr), j < l.length → sumA (l.set j x) = sumA l - (l.getD j default).amt + x.amt := by
    intro l
    induction l with
    | nil => intro j x h; simp at h
    | cons p l ih =>
      intro j x h
      cases j with
      | zero => simp [sumA]; omega
      | succ j =>
        have := ih j x (by simpa using h)
        unfold sumA at *
        simp only [List.set_cons_succ, List.map_cons, List.sum_cons, List.getD_cons_succ]
        omega
  unfold addAt
  rw [this l j _ h]
  dsimp only
  omega
theorem nz_two {l : List Pr} {i k : Nat} (hik : i ≠ k) (hi : i < l.length) (hk : k < l.length) (ni : (l.getD i default).amt ≠ 0) (nk : (l.getD k default).amt ≠ 0) : 2 ≤ nz l := by
  have h1 := count_set (f := fun p : Pr => decide (p.amt ≠ 0)) (l := l) (j := i) ⟨(l.getD i default).name, 0⟩ hi
  have gi : l[i] = l.getD i default := by rw [List.getD_eq_getElem?_getD, List.getElem?_eq_getElem hi]; rfl
  rw [gi, show decide ((l.getD i default).amt ≠ 0) = true by simpa using ni] at h1
  have h2 : 0 < (l.set i ⟨(l.getD i default).name, 0⟩).countP fun p : Pr => decide (p.amt ≠ 0) := by
    rw [List.countP_pos_iff]
    refine ⟨l.getD k default, ?_, by simpa using nk⟩
    have : (l.set i ⟨(l.getD i default).name, 0⟩)[k]? = some (l.getD k default) := by
      rw [List.getElem?_set_ne hik, List.getD_eq_getElem?_getD, List.getElem?_eq_getElem hk]; rfl
    exact List.mem_of_getElem? this
  unfold nz
  rw [if_pos rfl, if_neg (by simp)] at h1
  omega
theorem RInv.step {xs l : List Pr} {out : List Tr} {i k : Nat} (hd : Distinct xs) (h : RInv xs l out) (hi : i < xs.length) (hk : k < xs.length) (ni : (l.getD i default).amt < 0) (pk : 0 < (l.getD k default).amt) : RInv xs (stepS l i k) (out ++ [trS l i k]) := by
  have hne := neq_of ni pk
  obtain ⟨b1, b2, b3, b4⟩ := amtS_bd ni pk
  have hl := h.len
  have hil := h.inl i (by omega)
  have hs := fun t (ht : t < xs.length) => stepS_getD (t := t) hne (show i < l.length by omega) (show k < l.length by omega) (by omega)
  have hnz := nz_step (l := l) (i := i) (k := k) (by omega) (by omega) ni pk
  have h2 := nz_two (l := l) hne (by omega) (by omega) (by omega) (by omega)
  have hnmi := h.name i hi
  have hnmk := h.name k hk
  have hfr : ∀ t, t < xs.length → ((trS l i k).fr = (xs.getD t default).name ↔ t = i) := fun t ht => by
    show (l.getD i default).name = _ ↔ _
    rw [hnmi]
    exact ⟨fun e => (hd _ _ hi ht e).symm, fun e => by rw [e]⟩
  have hto : ∀ t, t < xs.length → ((trS l i k).to = (xs.getD t default).name ↔ t = k) := fun t ht => by
    show (l.getD k default).name = _ ↔ _
    rw [hnmk]
    exact ⟨fun e => (hd _ _ hk ht e).symm, fun e => by rw [e]⟩
  refine ⟨by rw [stepS_len]; exact hl, fun t ht => ?_, inL_step h.inl (by omega) (by omega) ni pk, ?_, fun t ht => ?_, fun t ht => ?_, fun t ht => ?_, fun t ht => ?_, ?_, fun h0 _ => ?_⟩
  · rw [hs t ht]
    split
    · rename_i e; subst e; exact hnmi
    · split
      · rename_i e; subst e; exact hnmk
      · exact h.name t ht
  · unfold stepS
    rw [sumA_addAt (by rw [addAt_len]; omega), sumA_addAt (by omega), h.sum]
    omega
  · rw [List.map_append, List.sum_append]
    have hnt := h.net t ht
    have e1 : ([trS l i k].map (netT (xs.getD t default).name)).sum = (if t = i then amtS l i k else 0) - (if t = k then amtS l i k else 0) := by
      simp only [List.map_cons, List.map_nil, List.sum_cons, List.sum_nil, Int.add_zero]
      unfold netT
      simp only [hfr t ht, hto t ht]
      rfl
    rw [e1, hs t ht]
    by_cases h1 : t = i
    · subst h1
      rw [if_pos rfl, if_pos rfl, if_neg hne]
      dsimp only
      omega
    · rw [if_neg h1, if_neg h1]
      by_cases h3 : t = k
      · subst h3
        rw [if_pos rfl, if_pos rfl]
        dsimp only
        omega
      · rw [if_neg h3, if_neg h3]
        omega
  · have hg := h.sgn t ht
    rw [hs t ht]
    split
    · rename_i e; subst e
      dsimp only
      exact ⟨fun _ => by omega, fun h3 => by have := hg.2 h3; omega⟩
    · split
      · rename_i e; subst e
        dsimp only
        exact ⟨fun h3 => by have := hg.1 h3; omega, fun _ => by omega⟩
      · exact hg
  · rcases List.mem_append.1 ht with ht | ht
    · exact h.pos t ht
    · obtain rfl := List.mem_singleton.1 ht
      show 1 ≤ amtS l i k ∧ amtS l i k ≤ 1073741824
      omega
  · rcases List.mem_append.1 ht with ht | ht
    · exact h.src t ht
    · obtain rfl := List.mem_singleton.1 ht
      have gi := h.sgn i hi
      have gk := h.sgn k hk
      refine ⟨⟨i, hi, hnmi, ?_⟩, ⟨k, hk, hnmk, ?_⟩⟩
      · refine Decidable.byContradiction fun hc => ?_
        have := gi.2 (by omega)
        omega
      · refine Decidable.byContradiction fun hc => ?_
        have := gk.1 (by omega)
        omega
  · have := h.cnt
    simp only [List.length_append, List.length_cons, List.length_nil]
    omega
  · have := h.cnt
    simp only [List.length_append, List.length_cons, List.length_nil]
    omega
theorem setF_inv {xs : List Pr} (hd : Distinct xs) : ∀ (f : Nat) (l : List Pr) (out : List Tr), RInv xs l out → nz l ≤ f → ∃ l', RInv xs l' (setF f l out) ∧ ¬ (firstN l' < l'.length ∧ firstP l' < l'.length)
  | 0, l, out, h, hz => by
    refine ⟨l, h, fun hc => ?_⟩
    have : (l.getD (firstN l) default).amt < 0 := by
      have h1 := List.findIdx_getElem (w := hc.1)
      rw [List.getD_eq_getElem?_getD, List.getElem?_eq_getElem hc.1]
      exact of_decide_eq_true h1
    have := nz_pos hc.1 (by omega)
    omega
  | f + 1, l, out, h, hz => by
    by_cases hc : firstN l < l.length ∧ firstP l < l.length
    · have hl := h.len
      have ni : (l.getD (firstN l) default).amt < 0 := by
        have h1 := List.findIdx_getElem (w := hc.1)
        rw [List.getD_eq_getElem?_getD, List.getElem?_eq_getElem hc.1]
        exact of_decide_eq_true h1
      have pk : 0 < (l.getD (firstP l) default).amt := by
        have h1 := List.findIdx_getElem (w := hc.2)
        rw [List.getD_eq_getElem?_getD, List.getElem?_eq_getElem hc.2]
        exact of_decide_eq_true h1
      have hs := nz_step hc.1 hc.2 ni pk
      rw [setF_go rfl rfl hc.1 hc.2]
      exact setF_inv hd f _ _ (h.step hd (by omega) (by omega) ni pk) (by omega)
    · rw [setF_stop hc]
      exact ⟨l, h, hc⟩
theorem zero_of_nn : ∀ {l : List Pr}, (∀ p ∈ l, 0 ≤ p.amt) → sumA l = 0 → ∀ p ∈ l, p.amt = 0
  | [], _, _, p, hp => by cases hp
  | q :: l, h, hs, p, hp => by
    have h1 : 0 ≤ sumA l := by
      have : ∀ l : List Pr, (∀ p ∈ l, 0 ≤ p.amt) → 0 ≤ sumA l := by
        intro l
        induction l with
        | nil => intro _; simp [sumA]
        | cons p l ih => intro h; have := h p (by simp); have := ih (fun q hq => h q (by simp [hq])); unfold sumA at *; simp only [List.map_cons, List.sum_cons]; omega
      exact this l fun p hp => h p (by simp [hp])
    have h2 := h q (by simp)
    have h3 : sumA (q :: l) = q.amt + sumA l := by simp [sumA]
    rcases List.mem_cons.1 hp with rfl | hp
    · omega
    · exact zero_of_nn (fun p hp => h p (by simp [hp])) (by omega) p hp
theorem zero_of_np {l : List Pr} (h : ∀ p ∈ l, p.amt ≤ 0) (hs : sumA l = 0) : ∀ p ∈ l, p.amt = 0 := by
  have hn : sumA (l.map fun p => ⟨p.name, -p.amt⟩) = -(sumA l) := by
    clear h hs
    unfold sumA
    induction l with
    | nil => rfl
    | cons p l ih => simp only [List.map_cons, List.sum_cons, ih]; omega
  intro p hp
  have := zero_of_nn (l := l.map fun p => ⟨p.name, -p.amt⟩) (fun q hq => by
    obtain ⟨r, hr, rfl⟩ := List.mem_map.1 hq
    have := h r hr
    show 0 ≤ -r.amt
    omega) (by rw [hn, hs]; rfl) ⟨p.name, -p.amt⟩ (List.mem_map.2 ⟨p, hp, rfl⟩)
  have : -p.amt = 0 := this
  omega
theorem settle_law {xs : List Pr} (hb : balE xs = 0) (hs : sumA xs = 0) : SettleLaw xs (setF xs.length xs []) := by
  obtain ⟨h8, hbe, -⟩ := bal_ok hb
  have hd := distinct_of hbe
  obtain ⟨l, hR, hstop⟩ := setF_inv hd xs.length xs [] ⟨rfl, fun _ _ => rfl, bal_inL hbe, hs, fun i hi => by simp, fun i hi => ⟨id, id⟩, by simp, by simp, by simp, fun _ h => absurd rfl h⟩ (nz_le xs)
  generalize setF xs.length xs [] = ts at hR
  have hz : ∀ p ∈ l, p.amt = 0 := by
    by_cases h1 : firstN l < l.length
    · have h2 : ¬ firstP l < l.length := fun h => hstop ⟨h1, h⟩
      refine zero_of_np (fun p hp => ?_) hR.sum
      refine Decidable.byContradiction fun hc => h2 ?_
      exact List.findIdx_lt_length.2 ⟨p, hp, by simp [isPos]; omega⟩
    · refine zero_of_nn (fun p hp => ?_) hR.sum
      refine Decidable.byContradiction fun hc => h1 ?_
      exact List.findIdx_lt_length.2 ⟨p, hp, by simp [isNeg]; omega⟩
  have hnz : nz l = 0 := by
    unfold nz
    rw [List.countP_eq_zero]
    intro p hp
    simp [hz p hp]
  refine ⟨?_, hR.pos, fun i hi => ?_, fun i hi => ?_⟩
  · by_cases he : ts = []
    · subst he; simp
    · have := hR.cnt0 hnz he
      have := nz_le xs
      omega
  · rw [← hR.net i hi]
    exact hz _ (getD_memP (by rw [hR.len]; exact hi))
  · rintro ⟨⟨t, ht, h1⟩, ⟨u, hu, h2⟩⟩
    obtain ⟨⟨a, ha, e1, n1⟩, -⟩ := hR.src t ht
    obtain ⟨-, ⟨b, hb2, e2, n2⟩⟩ := hR.src u hu
    have := hd a i ha hi (e1.symm.trans h1)
    have := hd b i hb2 hi (e2.symm.trans h2)
    subst_vars
    omega
end Go.Proofs.Ytnflkbgappgdiaa
