import Derived.Test.YtngfknoddphhaaaAb5
namespace Go.Proofs.Ytngfknoddphhaaa
open Go.RowKit
set_option linter.unusedSimpArgs false
set_option linter.unusedVariables false

/-! ### Slots: one more; one turned -/
section
variable {C : Cx} {T : Sl} {S : Nat → Prop} {vals : List Value} {bss : List (List Nat)} {w w' : World}
theorem getElem?_snoc {α : Type} (l : List α) (a : α) (i : Nat) : (l ++ [a])[i]? = if i < l.length then l[i]? else if i = l.length then some a else none := by
  by_cases h : i < l.length
  · rw [if_pos h, List.getElem?_append_left h]
  · rw [if_neg h, List.getElem?_append_right (by omega)]
    by_cases h2 : i = l.length
    · rw [if_pos h2, h2]; simp
    · rw [if_neg h2, List.getElem?_eq_none (by simp; omega)]
theorem Mem.push (hm : Mem C T S vals bss w) (hk : Kept (fun _ => True) w w') {x : AV} {v : Value} {bs : List Nat} (hr : Rep C.P S w' bs v x) (hn : bs.Nodup) (hb : ∀ b ∈ bs, w.heap.size ≤ b) :
    Mem C ⟨T.slots ++ [(T.ep, x)], T.ep + 1⟩ S (vals ++ [v]) (bss ++ [bs]) w' ∧ Follows C.P S w T vals S w' ⟨T.slots ++ [(T.ep, x)], T.ep + 1⟩ (vals ++ [v]) := by
  have hw := hm.kept.size
  have hbl : ∀ (r : Nat) (bs : List Nat), bss[r]? = some bs → ∀ b ∈ bs, b < w.heap.size := fun r bs h b hb' => by
    have hr' : r < T.slots.length := by rw [← hm.nb]; exact (List.getElem?_eq_some_iff.1 h).1
    have h1 := List.getElem?_eq_getElem hr'
    have h2 := List.getElem?_eq_getElem (l := vals) (i := r) (by rw [hm.nv]; exact hr')
    exact (hm.rep r _ _ _ _ h1 h2 h).lt b hb'
  constructor
  · refine ⟨hm.kept.then hk (fun _ _ _ => trivial), hm.s0, hm.sub, fun k h => Nat.lt_of_lt_of_le (hm.lt k h) hk.size, by simp [hm.nv], by simp [hm.nb], ?_, ?_, ?_, ?_, ?_, ?_, ?_, by simp⟩
    · intro r k y u bs' h1 h2 h3
      rw [getElem?_snoc] at h1 h2 h3
      rw [hm.nv] at h2
      rw [hm.nb] at h3
      by_cases h : r < T.slots.length
      · rw [if_pos h] at h1 h2 h3
        exact (hm.rep r k y u bs' h1 h2 h3).kept hk (fun _ _ _ => trivial) fun _ _ => trivial
      · rw [if_neg h] at h1 h2 h3
        by_cases h' : r = T.slots.length
        · rw [if_pos h'] at h1 h2 h3
          injection h1 with h1; injection h1 with _ h1
          injection h2 with h2; injection h3 with h3
          subst h1; subst h2; subst h3
          exact hr
        · rw [if_neg h'] at h1; cases h1
    · intro r bs' h
      rw [getElem?_snoc] at h
      split at h
      · exact hm.nodup r bs' h
      · split at h
        · injection h with h; subst h; exact hn
        · cases h
    · intro r r' b1 b2 hne h1 h2 b hb1 hb2
      rw [getElem?_snoc] at h1 h2
      split at h1
      · have hlt := hbl r b1 h1 b hb1
        split at h2
        · exact hm.disj r r' b1 b2 hne h1 h2 b hb1 hb2
        · split at h2
          · injection h2 with h2; subst h2; have := hb b hb2; omega
          · cases h2
      · split at h1
        · injection h1 with h1; subst h1
          have hge := hb b hb1
          split at h2
          · have := hbl r' b2 h2 b hb2; omega
          · split at h2
            · omega
            · cases h2
        · cases h1
    · intro r bs' h b hb'
      rw [getElem?_snoc] at h
      split at h
      · exact hm.apart r bs' h b hb'
      · split at h
        · injection h with h; subst h
          intro hs
          have := hm.lt b hs; have := hb b hb'; omega
        · cases h
    · intro r bs' h b hb'
      rw [getElem?_snoc] at h
      split at h
      · exact hm.mine r bs' h b hb'
      · split at h
        · injection h with h; subst h
          have := hb b hb'; right; omega
        · cases h
    · intro r y hlt h
      rw [getElem?_snoc] at h
      rw [getElem?_snoc, hm.nv]
      by_cases h' : r < T.slots.length
      · rw [if_pos h'] at h ⊢
        exact hm.root r y hlt h
      · rw [if_neg h'] at h ⊢
        by_cases h2 : r = T.slots.length
        · rw [if_pos h2] at h
          injection h with h
          injection h with h _
          have := hm.pos; omega
        · rw [if_neg h2] at h; cases h
    · intro r k y h
      rw [getElem?_snoc] at h
      split at h
      · have := hm.ver r k y h; simp; omega
      · split at h
        · injection h with h; injection h with h _; subst h; simp
        · cases h
  · intro u y h
    have hold : ∀ (r k : Nat) (x' : AV), k < T.ep → (T.slots ++ [(T.ep, x)])[r]? = some (k, x') → T.slots[r]? = some (k, x') ∧ (vals ++ [v])[r]? = vals[r]? := fun r k x' hk' h => by
      rw [getElem?_snoc] at h
      rw [getElem?_snoc, hm.nv]
      split at h
      · rename_i hl; rw [if_pos hl]; exact ⟨h, rfl⟩
      · split at h
        · injection h with h; injection h with h _; omega
        · cases h
    cases y with
    | sl r k off len =>
      refine ⟨by have := h.1; simp; omega, h.2.1, fun e es v' sz h1 h2 h3 => ?_⟩
      obtain ⟨h4, h5⟩ := hold r k _ h.1 h1
      rw [h5] at h2
      exact h.2.2 e es v' sz h4 h2 h3
    | ptr r k i j =>
      refine ⟨by have := h.1; simp; omega, h.2.1, fun e es v' sz h1 h2 h3 => ?_⟩
      obtain ⟨h4, h5⟩ := hold r k _ h.1 h1
      rw [h5] at h2
      exact h.2.2 e es v' sz h4 h2 h3
    | mp r k =>
      refine ⟨by have := h.1; simp; omega, h.2.1, fun b ks v' h1 h2 => ?_⟩
      obtain ⟨h4, h5⟩ := hold r k _ h.1 h1
      rw [h5] at h2
      exact h.2.2 b ks v' h4 h2
    | _ => exact RefOK.kept (T := T) h hk (fun _ _ _ => trivial) (fun _ h => h)
theorem Mem.blt (hm : Mem C T S vals bss w) {r : Nat} {bs : List Nat} (h : bss[r]? = some bs) : ∀ b ∈ bs, b < w.heap.size := fun b hb' => by
  have hr' : r < T.slots.length := by rw [← hm.nb]; exact (List.getElem?_eq_some_iff.1 h).1
  have h1 := List.getElem?_eq_getElem hr'
  have h2 := List.getElem?_eq_getElem (l := vals) (i := r) (by rw [hm.nv]; exact hr')
  exact (hm.rep r _ _ _ _ h1 h2 h).lt b hb'
theorem getElem?_set_ {α : Type} (l : List α) (i j : Nat) (a : α) (h : i < l.length) : (l.set i a)[j]? = if i = j then some a else l[j]? := by
  rw [List.getElem?_set]
  split
  · rename_i e; subst e; first | rfl | rw [if_pos h]
  · rfl
/-- Slot r is turned: k' is its old version and its value the old one, or the version is new. -/
theorem Mem.set {r k k' ep' : Nat} {x x' : AV} {v v' : Value} {bs bs' : List Nat} (hm : Mem C T S vals bss w) (hs : T.slots[r]? = some (k, x)) (hv : vals[r]? = some v) (hb : bss[r]? = some bs) (hk : Kept (fun q => q ∉ bs) w w')
    (hr : Rep C.P S w' bs' v' x') (hn : bs'.Nodup) (hsub : ∀ b ∈ bs', b ∈ bs ∨ w.heap.size ≤ b)
    (hver : (k' = k ∧ ep' = T.ep ∧ v' = v ∧ (∀ e es, x' = .own e es → ∃ es0, x = .own e es0 ∧ es0.length = es.length) ∧ (∀ b ks, x' = .om b ks → ∃ ks0, x = .om b ks0)) ∨ (k' = T.ep ∧ ep' = T.ep + 1)) :
    Mem C ⟨T.slots.set r (k', x'), ep'⟩ S (vals.set r v') (bss.set r bs') w' ∧ Follows C.P S w T vals S w' ⟨T.slots.set r (k', x'), ep'⟩ (vals.set r v') := by
  have hrl : r < T.slots.length := (List.getElem?_eq_some_iff.1 hs).1
  have hep : T.ep ≤ ep' := by rcases hver with h | h <;> omega
  have hkS : ∀ q, q < w.heap.size → S q → q ∉ bs := fun q _ hq hqb => hm.apart r bs hb q hqb hq
  constructor
  · refine ⟨hm.kept.then hk fun q hq hq' hqb => ?_, hm.s0, hm.sub, fun q h => Nat.lt_of_lt_of_le (hm.lt q h) hk.size, by simp [hm.nv], by simp [hm.nb], ?_, ?_, ?_, ?_, ?_, ?_, ?_, by show 0 < ep'; have := hm.pos; omega⟩
    · rcases hm.mine r bs hb q hqb with h | h
      · exact hq' h
      · omega
    · intro q kq y u b1 h1 h2 h3
      rw [getElem?_set_ _ _ _ _ hrl] at h1
      rw [getElem?_set_ _ _ _ _ (by rw [hm.nv]; exact hrl)] at h2
      rw [getElem?_set_ _ _ _ _ (by rw [hm.nb]; exact hrl)] at h3
      by_cases h : r = q
      · rw [if_pos h] at h1 h2 h3
        injection h1 with h1; injection h1 with _ h1
        injection h2 with h2; injection h3 with h3
        subst h1; subst h2; subst h3
        exact hr
      · rw [if_neg h] at h1 h2 h3
        exact (hm.rep q kq y u b1 h1 h2 h3).kept hk hkS fun b hb' hbb => hm.disj r q bs b1 h hb h3 b hbb hb'
    · intro q b1 h3
      rw [getElem?_set_ _ _ _ _ (by rw [hm.nb]; exact hrl)] at h3
      split at h3
      · injection h3 with h3; subst h3; exact hn
      · exact hm.nodup q b1 h3
    · intro q q' b1 b2 hne h1 h2 b hb1 hb2
      rw [getElem?_set_ _ _ _ _ (by rw [hm.nb]; exact hrl)] at h1 h2
      split at h1
      · rename_i e1
        injection h1 with h1; subst h1
        rw [if_neg (fun e2 => hne (e1.symm.trans e2))] at h2
        rcases hsub b hb1 with h | h
        · exact hm.disj r q' bs b2 (fun e2 => hne (e1.symm.trans e2)) hb h2 b h hb2
        · have := hm.blt h2 b hb2; omega
      · rename_i e1
        split at h2
        · injection h2 with h2; subst h2
          rename_i e2
          rcases hsub b hb2 with h | h
          · exact hm.disj r q bs b1 e1 hb h1 b h hb1
          · have := hm.blt h1 b hb1; omega
        · exact hm.disj q q' b1 b2 hne h1 h2 b hb1 hb2
    · intro q b1 h1 b hb1 hSb
      rw [getElem?_set_ _ _ _ _ (by rw [hm.nb]; exact hrl)] at h1
      split at h1
      · injection h1 with h1; subst h1
        rcases hsub b hb1 with h | h
        · exact hm.apart r bs hb b h hSb
        · have := hm.lt b hSb; omega
      · exact hm.apart q b1 h1 b hb1 hSb
    · intro q b1 h1 b hb1
      rw [getElem?_set_ _ _ _ _ (by rw [hm.nb]; exact hrl)] at h1
      split at h1
      · injection h1 with h1; subst h1
        rcases hsub b hb1 with h | h
        · exact hm.mine r bs hb b h
        · have := hm.kept.size; right; omega
      · exact hm.mine q b1 h1 b hb1
    · intro q y hlt h
      rw [getElem?_set_ _ _ _ _ hrl] at h
      rw [getElem?_set_ _ _ _ _ (by rw [hm.nv]; exact hrl)]
      split at h
      · rename_i e1
        rw [if_pos e1]
        injection h with h; injection h with h _
        rcases hver with ⟨h1, h2, h3, _⟩ | ⟨h1, h2⟩
        · subst h3
          subst e1
          have := hm.root r x hlt (by rw [hs, ← h1, h])
          rw [← this, hv]
        · have := hm.pos; omega
      · rename_i e1
        rw [if_neg e1]
        exact hm.root q y hlt h
    · intro q kq y h
      rw [getElem?_set_ _ _ _ _ hrl] at h
      show kq < ep'
      split at h
      · injection h with h; injection h with h _
        have := hm.ver r k x hs
        rcases hver with ⟨h1, h2, _⟩ | ⟨h1, h2⟩ <;> omega
      · have := hm.ver q kq y h; omega
  · intro u y h
    have old : ∀ (q kq : Nat) (y' : AV), kq < T.ep → (T.slots.set r (k', x'))[q]? = some (kq, y') → (r ≠ q ∧ T.slots[q]? = some (kq, y') ∧ (vals.set r v')[q]? = vals[q]?) ∨ (r = q ∧ kq = k ∧ x' = y' ∧ v' = v ∧ (vals.set r v')[q]? = some v ∧ (∀ e es, x' = .own e es → ∃ es0, x = .own e es0 ∧ es0.length = es.length) ∧ (∀ b ks, x' = .om b ks → ∃ ks0, x = .om b ks0)) := fun q kq y' hkq h => by
      rw [getElem?_set_ _ _ _ _ hrl] at h
      rw [getElem?_set_ _ _ _ _ (by rw [hm.nv]; exact hrl)]
      split at h
      · rename_i e1
        injection h with h; injection h with h h'
        rcases hver with ⟨h1, h2, h3, h4, h5⟩ | ⟨h1, h2⟩
        · exact .inr ⟨e1, by omega, h', h3, by rw [if_pos e1, h3], h4, h5⟩
        · omega
      · rename_i e1
        exact .inl ⟨e1, h, by rw [if_neg e1]⟩
    cases y with
    | sl q kq off len =>
      refine ⟨Nat.lt_of_lt_of_le h.1 hep, h.2.1, fun e es v2 sz h1 h2 h3 => ?_⟩
      rcases old q kq _ h.1 h1 with ⟨_, h4, h5⟩ | ⟨rfl, rfl, hx, _, h5, h6, _⟩
      · rw [h5] at h2; exact h.2.2 e es v2 sz h4 h2 h3
      · rw [h5] at h2
        injection h2 with h2; subst h2
        obtain ⟨es0, hx0, hl⟩ := h6 e es hx
        rw [← hl]
        exact h.2.2 e es0 v sz (by rw [hs, hx0]) hv h3
    | ptr q kq i j =>
      refine ⟨Nat.lt_of_lt_of_le h.1 hep, h.2.1, fun e es v2 sz h1 h2 h3 => ?_⟩
      rcases old q kq _ h.1 h1 with ⟨_, h4, h5⟩ | ⟨rfl, rfl, hx, _, h5, h6, _⟩
      · rw [h5] at h2; exact h.2.2 e es v2 sz h4 h2 h3
      · rw [h5] at h2
        injection h2 with h2; subst h2
        obtain ⟨es0, hx0, hl⟩ := h6 e es hx
        rw [← hl]
        exact h.2.2 e es0 v sz (by rw [hs, hx0]) hv h3
    | mp q kq =>
      refine ⟨Nat.lt_of_lt_of_le h.1 hep, h.2.1, fun b ks v2 h1 h2 => ?_⟩
      rcases old q kq _ h.1 h1 with ⟨_, h4, h5⟩ | ⟨rfl, rfl, hx, _, h5, _, h6⟩
      · rw [h5] at h2; exact h.2.2 b ks v2 h4 h2
      · rw [h5] at h2
        injection h2 with h2; subst h2
        obtain ⟨ks0, hx0⟩ := h6 b ks hx
        exact h.2.2 b ks0 v (by rw [hs, hx0]) hv
    | _ => exact RefOK.kept (T := T) h hk hkS (fun _ h => h)
end
end Go.Proofs.Ytngfknoddphhaaa
