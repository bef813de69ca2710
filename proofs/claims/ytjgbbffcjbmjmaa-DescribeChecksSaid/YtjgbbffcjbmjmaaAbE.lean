import Derived.Test.YtjgbbffcjbmjmaaAbD
namespace Go.Proofs.Ytjgbbffcjbmjmaa
open Go.RowKit
set_option linter.unusedSimpArgs false
set_option linter.unusedVariables false

/-! ### Slots whose blocks come from other slots -/
section
variable {C : Cx} {T : Sl} {S : Nat → Prop} {vals : List Value} {bss : List (List Nat)} {w w' : World}
theorem Mem.pushF (hm : Mem C T S vals bss w) (hk : Kept (fun _ => True) w w') {x : AV} {v : Value} {bs : List Nat} (hr : Rep C.P S w' bs v x) (hn : bs.Nodup) (hb : ∀ b ∈ bs, (∀ (q : Nat) (b1 : List Nat), bss[q]? = some b1 → b ∉ b1) ∧ ¬ S b ∧ (b ∈ C.own0 ∨ C.w0.heap.size ≤ b)) :
    Mem C ⟨T.slots ++ [(T.ep, x)], T.ep + 1⟩ S (vals ++ [v]) (bss ++ [bs]) w' ∧ Follows C.P S w T vals S w' ⟨T.slots ++ [(T.ep, x)], T.ep + 1⟩ (vals ++ [v]) := by
  have hw := hm.kept.size
  have hbl : ∀ (r : Nat) (bs : List Nat), bss[r]? = some bs → ∀ b ∈ bs, b < w.heap.size := fun r bs h b hb' => by
    have hr' : r < T.slots.length := by rw [← hm.nb]; exact (List.getElem?_eq_some_iff.1 h).1
    have h1 := List.getElem?_eq_getElem hr'
    have h2 := List.getElem?_eq_getElem (l := vals) (i := r) (by rw [hm.nv]; exact hr')
    exact (hm.rep r _ _ _ _ h1 h2 h).lt b hb'
  constructor
  · refine ⟨hm.kept.then hk (fun _ _ _ => trivial), hm.s0, hm.sub, fun k h => Nat.lt_of_lt_of_le (hm.lt k h) hk.size, by simp [hm.nv], by simp [hm.nb], ?_, ?_, ?_, ?_, ?_, ?_, ?_, by simp⟩
    · intro r k y u bs' h1 h2 h3
      rw [getElem?_snoc] at h1 h2 h3
      rw [hm.nv] at h2
      rw [hm.nb] at h3
      by_cases h : r < T.slots.length
      · rw [if_pos h] at h1 h2 h3
        exact (hm.rep r k y u bs' h1 h2 h3).kept hk (fun _ _ _ => trivial) fun _ _ => trivial
      · rw [if_neg h] at h1 h2 h3
        by_cases h' : r = T.slots.length
        · rw [if_pos h'] at h1 h2 h3
          injection h1 with h1; injection h1 with _ h1
          injection h2 with h2; injection h3 with h3
          subst h1; subst h2; subst h3
          exact hr
        · rw [if_neg h'] at h1; cases h1
    · intro r bs' h
      rw [getElem?_snoc] at h
      split at h
      · exact hm.nodup r bs' h
      · split at h
        · injection h with h; subst h; exact hn
        · cases h
    · intro r r' b1 b2 hne h1 h2 b hb1 hb2
      rw [getElem?_snoc] at h1 h2
      split at h1
      · have hlt := hbl r b1 h1 b hb1
        split at h2
        · exact hm.disj r r' b1 b2 hne h1 h2 b hb1 hb2
        · split at h2
          · injection h2 with h2; subst h2; exact (hb b hb2).1 r b1 h1 hb1
          · cases h2
      · split at h1
        · injection h1 with h1; subst h1
          split at h2
          · exact (hb b hb1).1 r' b2 h2 hb2
          · split at h2
            · omega
            · cases h2
        · cases h1
    · intro r bs' h b hb'
      rw [getElem?_snoc] at h
      split at h
      · exact hm.apart r bs' h b hb'
      · split at h
        · injection h with h; subst h
          exact (hb b hb').2.1
        · cases h
    · intro r bs' h b hb'
      rw [getElem?_snoc] at h
      split at h
      · exact hm.mine r bs' h b hb'
      · split at h
        · injection h with h; subst h
          exact (hb b hb').2.2
        · cases h
    · intro r y hlt h
      rw [getElem?_snoc] at h
      rw [getElem?_snoc, hm.nv]
      by_cases h' : r < T.slots.length
      · rw [if_pos h'] at h ⊢
        exact hm.root r y hlt h
      · rw [if_neg h'] at h ⊢
        by_cases h2 : r = T.slots.length
        · rw [if_pos h2] at h
          injection h with h
          injection h with h _
          have := hm.pos; omega
        · rw [if_neg h2] at h; cases h
    · intro r k y h
      rw [getElem?_snoc] at h
      split at h
      · have := hm.ver r k y h; simp; omega
      · split at h
        · injection h with h; injection h with h _; subst h; simp
        · cases h
  · intro u y h
    have hold : ∀ (r k : Nat) (x' : AV), k < T.ep → (T.slots ++ [(T.ep, x)])[r]? = some (k, x') → T.slots[r]? = some (k, x') ∧ (vals ++ [v])[r]? = vals[r]? := fun r k x' hk' h => by
      rw [getElem?_snoc] at h
      rw [getElem?_snoc, hm.nv]
      split at h
      · rename_i hl; rw [if_pos hl]; exact ⟨h, rfl⟩
      · split at h
        · injection h with h; injection h with h _; omega
        · cases h
    cases y with
    | sl r k off len =>
      refine ⟨by have := h.1; simp; omega, h.2.1, fun e es v' sz h1 h2 h3 => ?_⟩
      obtain ⟨h4, h5⟩ := hold r k _ h.1 h1
      rw [h5] at h2
      exact h.2.2 e es v' sz h4 h2 h3
    | ptr r k i j =>
      refine ⟨by have := h.1; simp; omega, h.2.1, fun e es v' sz h1 h2 h3 => ?_⟩
      obtain ⟨h4, h5⟩ := hold r k _ h.1 h1
      rw [h5] at h2
      exact h.2.2 e es v' sz h4 h2 h3
    | mp r k =>
      refine ⟨by have := h.1; simp; omega, h.2.1, fun b ks v' h1 h2 => ?_⟩
      obtain ⟨h4, h5⟩ := hold r k _ h.1 h1
      rw [h5] at h2
      exact h.2.2 b ks v' h4 h2
    | _ => exact RefOK.kept (T := T) h hk (fun _ _ _ => trivial) (fun _ h => h)
theorem Mem.setF {r k k' ep' : Nat} {x x' : AV} {v v' : Value} {bs bs' : List Nat} (hm : Mem C T S vals bss w) (hs : T.slots[r]? = some (k, x)) (hv : vals[r]? = some v) (hb : bss[r]? = some bs) (hk : Kept (fun q => q ∉ bs) w w')
    (hr : Rep C.P S w' bs' v' x') (hn : bs'.Nodup) (hsub : ∀ b ∈ bs', b ∈ bs ∨ ((∀ (q : Nat) (b1 : List Nat), q ≠ r → bss[q]? = some b1 → b ∉ b1) ∧ ¬ S b ∧ (b ∈ C.own0 ∨ C.w0.heap.size ≤ b)))
    (hver : (k' = k ∧ ep' = T.ep ∧ v' = v ∧ (∀ e es, x' = .own e es → ∃ es0, x = .own e es0 ∧ es0.length = es.length) ∧ (∀ b ks, x' = .om b ks → ∃ ks0, x = .om b ks0)) ∨ (k' = T.ep ∧ ep' = T.ep + 1)) :
    Mem C ⟨T.slots.set r (k', x'), ep'⟩ S (vals.set r v') (bss.set r bs') w' ∧ Follows C.P S w T vals S w' ⟨T.slots.set r (k', x'), ep'⟩ (vals.set r v') := by
  have hrl : r < T.slots.length := (List.getElem?_eq_some_iff.1 hs).1
  have hep : T.ep ≤ ep' := by rcases hver with h | h <;> omega
  have hkS : ∀ q, q < w.heap.size → S q → q ∉ bs := fun q _ hq hqb => hm.apart r bs hb q hqb hq
  constructor
  · refine ⟨hm.kept.then hk fun q hq hq' hqb => ?_, hm.s0, hm.sub, fun q h => Nat.lt_of_lt_of_le (hm.lt q h) hk.size, by simp [hm.nv], by simp [hm.nb], ?_, ?_, ?_, ?_, ?_, ?_, ?_, by show 0 < ep'; have := hm.pos; omega⟩
    · rcases hm.mine r bs hb q hqb with h | h
      · exact hq' h
      · omega
    · intro q kq y u b1 h1 h2 h3
      rw [getElem?_set_ _ _ _ _ hrl] at h1
      rw [getElem?_set_ _ _ _ _ (by rw [hm.nv]; exact hrl)] at h2
      rw [getElem?_set_ _ _ _ _ (by rw [hm.nb]; exact hrl)] at h3
      by_cases h : r = q
      · rw [if_pos h] at h1 h2 h3
        injection h1 with h1; injection h1 with _ h1
        injection h2 with h2; injection h3 with h3
        subst h1; subst h2; subst h3
        exact hr
      · rw [if_neg h] at h1 h2 h3
        exact (hm.rep q kq y u b1 h1 h2 h3).kept hk hkS fun b hb' hbb => hm.disj r q bs b1 h hb h3 b hbb hb'
    · intro q b1 h3
      rw [getElem?_set_ _ _ _ _ (by rw [hm.nb]; exact hrl)] at h3
      split at h3
      · injection h3 with h3; subst h3; exact hn
      · exact hm.nodup q b1 h3
    · intro q q' b1 b2 hne h1 h2 b hb1 hb2
      rw [getElem?_set_ _ _ _ _ (by rw [hm.nb]; exact hrl)] at h1 h2
      split at h1
      · rename_i e1
        injection h1 with h1; subst h1
        rw [if_neg (fun e2 => hne (e1.symm.trans e2))] at h2
        rcases hsub b hb1 with h | h
        · exact hm.disj r q' bs b2 (fun e2 => hne (e1.symm.trans e2)) hb h2 b h hb2
        · exact h.1 q' b2 (fun e2 => hne (e1.symm.trans e2.symm)) h2 hb2
      · rename_i e1
        split at h2
        · injection h2 with h2; subst h2
          rename_i e2
          rcases hsub b hb2 with h | h
          · exact hm.disj r q bs b1 e1 hb h1 b h hb1
          · exact h.1 q b1 (fun e => e1 e.symm) h1 hb1
        · exact hm.disj q q' b1 b2 hne h1 h2 b hb1 hb2
    · intro q b1 h1 b hb1 hSb
      rw [getElem?_set_ _ _ _ _ (by rw [hm.nb]; exact hrl)] at h1
      split at h1
      · injection h1 with h1; subst h1
        rcases hsub b hb1 with h | h
        · exact hm.apart r bs hb b h hSb
        · exact h.2.1 hSb
      · exact hm.apart q b1 h1 b hb1 hSb
    · intro q b1 h1 b hb1
      rw [getElem?_set_ _ _ _ _ (by rw [hm.nb]; exact hrl)] at h1
      split at h1
      · injection h1 with h1; subst h1
        rcases hsub b hb1 with h | h
        · exact hm.mine r bs hb b h
        · exact h.2.2
      · exact hm.mine q b1 h1 b hb1
    · intro q y hlt h
      rw [getElem?_set_ _ _ _ _ hrl] at h
      rw [getElem?_set_ _ _ _ _ (by rw [hm.nv]; exact hrl)]
      split at h
      · rename_i e1
        rw [if_pos e1]
        injection h with h; injection h with h _
        rcases hver with ⟨h1, h2, h3, _⟩ | ⟨h1, h2⟩
        · subst h3
          subst e1
          have := hm.root r x hlt (by rw [hs, ← h1, h])
          rw [← this, hv]
        · have := hm.pos; omega
      · rename_i e1
        rw [if_neg e1]
        exact hm.root q y hlt h
    · intro q kq y h
      rw [getElem?_set_ _ _ _ _ hrl] at h
      show kq < ep'
      split at h
      · injection h with h; injection h with h _
        have := hm.ver r k x hs
        rcases hver with ⟨h1, h2, _⟩ | ⟨h1, h2⟩ <;> omega
      · have := hm.ver q kq y h; omega
  · intro u y h
    have old : ∀ (q kq : Nat) (y' : AV), kq < T.ep → (T.slots.set r (k', x'))[q]? = some (kq, y') → (r ≠ q ∧ T.slots[q]? = some (kq, y') ∧ (vals.set r v')[q]? = vals[q]?) ∨ (r = q ∧ kq = k ∧ x' = y' ∧ v' = v ∧ (vals.set r v')[q]? = some v ∧ (∀ e es, x' = .own e es → ∃ es0, x = .own e es0 ∧ es0.length = es.length) ∧ (∀ b ks, x' = .om b ks → ∃ ks0, x = .om b ks0)) := fun q kq y' hkq h => by
      rw [getElem?_set_ _ _ _ _ hrl] at h
      rw [getElem?_set_ _ _ _ _ (by rw [hm.nv]; exact hrl)]
      split at h
      · rename_i e1
        injection h with h; injection h with h h'
        rcases hver with ⟨h1, h2, h3, h4, h5⟩ | ⟨h1, h2⟩
        · exact .inr ⟨e1, by omega, h', h3, by rw [if_pos e1, h3], h4, h5⟩
        · omega
      · rename_i e1
        exact .inl ⟨e1, h, by rw [if_neg e1]⟩
    cases y with
    | sl q kq off len =>
      refine ⟨Nat.lt_of_lt_of_le h.1 hep, h.2.1, fun e es v2 sz h1 h2 h3 => ?_⟩
      rcases old q kq _ h.1 h1 with ⟨_, h4, h5⟩ | ⟨rfl, rfl, hx, _, h5, h6, _⟩
      · rw [h5] at h2; exact h.2.2 e es v2 sz h4 h2 h3
      · rw [h5] at h2
        injection h2 with h2; subst h2
        obtain ⟨es0, hx0, hl⟩ := h6 e es hx
        rw [← hl]
        exact h.2.2 e es0 v sz (by rw [hs, hx0]) hv h3
    | ptr q kq i j =>
      refine ⟨Nat.lt_of_lt_of_le h.1 hep, h.2.1, fun e es v2 sz h1 h2 h3 => ?_⟩
      rcases old q kq _ h.1 h1 with ⟨_, h4, h5⟩ | ⟨rfl, rfl, hx, _, h5, h6, _⟩
      · rw [h5] at h2; exact h.2.2 e es v2 sz h4 h2 h3
      · rw [h5] at h2
        injection h2 with h2; subst h2
        obtain ⟨es0, hx0, hl⟩ := h6 e es hx
        rw [← hl]
        exact h.2.2 e es0 v sz (by rw [hs, hx0]) hv h3
    | mp q kq =>
      refine ⟨Nat.lt_of_lt_of_le h.1 hep, h.2.1, fun b ks v2 h1 h2 => ?_⟩
      rcases old q kq _ h.1 h1 with ⟨_, h4, h5⟩ | ⟨rfl, rfl, hx, _, h5, _, h6⟩
      · rw [h5] at h2; exact h.2.2 b ks v2 h4 h2
      · rw [h5] at h2
        injection h2 with h2; subst h2
        obtain ⟨ks0, hx0⟩ := h6 b ks hx
        exact h.2.2 b ks0 v (by rw [hs, hx0]) hv
    | _ => exact RefOK.kept (T := T) h hk hkS (fun _ h => h)
end

theorem fold_dense_aux (sz : Nat) : ∀ (es : List (List AV)) (k : Nat) (pre : List AV), pre.length = k * sz → (∀ x ∈ es, x.length = sz) →
    ((List.range' k es.length).zip es).foldl (fun cs p => splice cs (p.1 * sz) p.2) (pre ++ List.replicate (es.length * sz) AV.any) = pre ++ es.flatten
  | [], k, pre, h, _ => by simp
  | x :: es, k, pre, h, hs => by
    have hx := hs x (by simp)
    rw [List.length_cons, List.range'_succ, List.zip_cons_cons, List.foldl_cons]
    have e : splice (pre ++ List.replicate ((es.length + 1) * sz) AV.any) (k * sz) x = (pre ++ x) ++ List.replicate (es.length * sz) AV.any := by
      unfold splice
      rw [List.take_append_of_le_length (by omega), List.take_of_length_le (by omega), List.drop_append, List.drop_eq_nil_of_le (by omega), List.nil_append, List.drop_replicate]
      congr 2
      rw [Nat.succ_mul]; omega
    simp only
    rw [e, fold_dense_aux sz es (k + 1) (pre ++ x) (by rw [List.length_append, h, hx, Nat.succ_mul]) (fun y hy => hs y (by simp [hy]))]
    simp
theorem fold_dense (sz : Nat) (es : List (List AV)) (hs : ∀ x ∈ es, x.length = sz) : ((List.range' 0 es.length).zip es).foldl (fun cs p => splice cs (p.1 * sz) p.2) (List.replicate (es.length * sz) AV.any) = es.flatten := by
  have := fold_dense_aux sz es 0 [] (by simp) hs
  simpa using this

/-! ### Cells that own slices -/
section
variable {C : Cx} {T : Sl} {S : Nat → Prop} {vals : List Value} {bss : List (List Nat)} {w w' : World}
theorem set_flat {sz : Nat} {es : List (List AV)} (hs : ∀ e ∈ es, e.length = sz) {i : Nat} {row : List AV} (hrow : es[i]? = some row) {j : Nat} {x : AV} (hj : j < row.length) : (es.set i (row.set j x)).flatten = es.flatten.set (i * sz + j) x := by
  have e1 : row.set j x = splice row j [x] := by
    unfold splice
    rw [List.set_eq_take_append_cons_drop, if_pos hj]
    simp
  have hrl := hs row (List.mem_of_getElem? hrow)
  have hil : i < es.length := (List.getElem?_eq_some_iff.1 hrow).1
  have hle : i * sz + sz ≤ es.length * sz := by rw [← Nat.succ_mul]; exact Nat.mul_le_mul_right _ hil
  have hfl := flat_len hs
  rw [e1, flatten_set hs hrow j [x] (Nat.succ_le_of_lt hj)]
  unfold splice
  rw [List.set_eq_take_append_cons_drop, if_pos (by omega)]
  simp
theorem nodup_split {bss : List (List Nat)} {p : Nat} {b : List Nat} (h : bss.flatten.Nodup) (hp : bss[p]? = some b) : b.Nodup ∧ (bss.set p []).flatten.Nodup ∧ (∀ x ∈ b, x ∉ (bss.set p []).flatten) ∧ (∀ x ∈ (bss.set p []).flatten, x ∈ bss.flatten) ∧ (∀ x ∈ b, x ∈ bss.flatten) := by
  have hlt := (List.getElem?_eq_some_iff.1 hp).1
  have he := (List.getElem?_eq_some_iff.1 hp).2
  have e0 : bss = bss.take p ++ b :: bss.drop (p + 1) := by rw [← he, ← List.drop_eq_getElem_cons hlt, List.take_append_drop]
  have e1 : (bss.set p []).flatten = (bss.take p).flatten ++ (bss.drop (p + 1)).flatten := by
    rw [List.set_eq_take_append_cons_drop, if_pos hlt]; simp
  have e2 : bss.flatten = (bss.take p).flatten ++ (b ++ (bss.drop (p + 1)).flatten) := by
    conv => lhs; rw [e0]
    simp
  rw [e2, List.nodup_append, List.nodup_append] at h
  obtain ⟨h1, ⟨h2, h3, h4⟩, h5⟩ := h
  rw [e1, e2]
  refine ⟨h2, List.nodup_append.2 ⟨h1, h3, fun a ha c hc => h5 a ha c (by simp [hc])⟩, fun x hx hm => ?_, fun x hx => ?_, fun x hx => by simp [hx]⟩
  · rcases List.mem_append.1 hm with hm | hm
    · exact h5 x hm x (by simp [hx]) rfl
    · exact h4 x hx x hm rfl
  · rcases List.mem_append.1 hx with hx | hx <;> simp [hx]
/-- A cell's slice is taken out of its slot. -/
theorem Rep.take_cell {P : Program} {bs : List Nat} {v : Value} {e : TypeId} {es : List (List AV)} (h : Rep P S w bs v (.own e es)) (hnd : bs.Nodup) {i j : Nat} {row : List AV} {e' : TypeId} {es' : List (List AV)} (hrow : es[i]? = some row) (hx : row[j]? = some (.own e' es')) :
    ∃ u b bs2 sz, sizeIs P e sz ∧ Rep P S w b u (.own e' es') ∧ Rep P S w bs2 v (.own e (es.set i (row.set j (.sln es'.length)))) ∧ b.Nodup ∧ bs2.Nodup ∧ (∀ x ∈ b, x ∈ bs ∧ x ∉ bs2) ∧ (∀ x ∈ bs2, x ∈ bs) ∧
      (∀ g, v.ownBlock = some g → w.cell? ⟨g, i * sz + j, none⟩ = some u) ∧ (∃ g, v.ownBlock = some g) := by
  obtain ⟨us, sz, bss, rfl, hi, hsz, hown, hul, hbl, hc⟩ := h.own_inv
  have hf := flat_at hsz hrow hx
  have hlt : i * sz + j < us.length := by rw [hul]; exact (List.getElem?_eq_some_iff.1 hf).1
  have hjl : j < row.length := (List.getElem?_eq_some_iff.1 hx).1
  have h1 := List.getElem?_eq_getElem hlt
  have h2 := List.getElem?_eq_getElem (l := bss) (by rw [hbl]; exact hlt)
  have hr := hc _ _ _ _ h1 hf h2
  rw [List.nodup_append] at hnd
  obtain ⟨n1, n2, n3⟩ := hnd
  obtain ⟨m1, m2, m3, m4, m5⟩ := nodup_split n2 h2
  have hrl := hsz row (List.mem_of_getElem? hrow)
  refine ⟨_, _, v.ownBlock.toList ++ (bss.set (i * sz + j) []).flatten, sz, hi, hr, ?_, m1, ?_, ?_, ?_, fun g hg => ?_, ?_⟩
  · refine Rep.own (us := us) hi (fun x hx' => ?_) (by rw [List.length_set]; exact hown) (by rw [set_flat hsz hrow hjl, List.length_set]; exact hul) (by rw [List.length_set]; exact hbl) fun q u x b q1 q2 q3 => ?_
    · rcases List.mem_or_eq_of_mem_set hx' with h' | h'
      · exact hsz x h'
      · rw [h', List.length_set]; exact hrl
    · rw [set_flat hsz hrow hjl, List.getElem?_set] at q2
      rw [List.getElem?_set] at q3
      by_cases hq : i * sz + j = q
      · subst hq
        rw [if_pos rfl, if_pos (by rw [← hul]; exact hlt)] at q2
        rw [if_pos rfl, if_pos (by rw [hbl]; exact hlt)] at q3
        injection q2 with q2; injection q3 with q3
        subst q2; subst q3
        rw [h1] at q1; injection q1 with q1; subst q1
        exact hr.ldc
      · rw [if_neg hq] at q2 q3
        exact hc q u x b q1 q2 q3
  · exact List.nodup_append.2 ⟨n1, m2, fun a ha b hb => n3 a ha b (m4 b hb)⟩
  · intro x hx'
    refine ⟨List.mem_append_right _ (m5 x hx'), fun hm => ?_⟩
    rcases List.mem_append.1 hm with hm | hm
    · exact n3 x hm x (m5 x hx') rfl
    · exact m3 x hx' hm
  · intro x hx'
    rcases List.mem_append.1 hx' with hx' | hx'
    · exact List.mem_append_left _ hx'
    · exact List.mem_append_right _ (m4 x hx')
  · have := hown.cells (g := g) hg _ _ h1
    rw [add_off, Nat.zero_add] at this
    exact this
  · rcases hown.2 with ⟨rfl, h0⟩ | ⟨g, cap, cur, rfl, -⟩
    · have := List.eq_nil_of_length_eq_zero h0
      subst this; simp at hrow
    · exact ⟨g, rfl⟩
end
section
variable {C : Cx} {o : Oper} {ev : Operand → AV} {T : Sl}
/-- A load of a cell that owns its slice: the slice gets a slot of its own. -/
theorem op_load_nest {t : TypeId} {y : Operand} {r k i j : Nat} {e e' : TypeId} {es es' : List (List AV)} {row : List AV} (ho : o.op = .load t y) (hy : ev y = .ptr r k i j) (hT : T.slots[r]? = some (k, .own e es)) (hrow : es[i]? = some row) (ha : aggB C.P t = some false) (hx : row[j]? = some (.own e' es'))
    {es2 : List (List AV)} (he2 : es.set i (row.set j (.sln es'.length)) = es2) : OpJ C o ev T (.sl T.slots.length T.ep 0 es'.length) ⟨T.slots.set r (k, .own e es2) ++ [(T.ep, .own e' es')], T.ep + 1⟩ := by
  subst he2
  intro a w S vals bss hm h K hK Q
  have h1 := h y (by simp [ho, Op.operands])
  rw [hy] at h1
  obtain ⟨v, bs, hv, hb, hrep⟩ := hm.slot hT
  obtain ⟨u, b, bs2, sz, hi, hr1, hr2, n1, n2, hbb, hb2, hcell, g0, hg0⟩ := hrep.take_cell (hm.nodup r bs hb) hrow hx
  obtain ⟨hil, g, nn, cap, hve, he⟩ := h1.2.2 e es v sz hT hv hi
  have hgg : v.ownBlock = some g := by rw [hve]; rfl
  have hc := hcell g hgg
  have hrl : r < T.slots.length := (List.getElem?_eq_some_iff.1 hT).1
  obtain ⟨hm1, hf1⟩ := hm.setF (k' := k) (ep' := T.ep) hT hv hb (Kept.refl _ w) hr2 n2 (fun x hx' => .inl (hb2 x hx')) (.inl ⟨rfl, rfl, rfl, fun e1 es1 he1 => by
    injection he1 with h3 h4
    subst h3; subst h4
    exact ⟨es, rfl, by simp⟩, fun b ks h => by cases h⟩)
  obtain ⟨hm2, hf2⟩ := hm1.pushF (Kept.refl _ w) (x := .own e' es') (v := u) hr1 n1 (fun x hx' => by
    obtain ⟨q1, q2⟩ := hbb x hx'
    refine ⟨fun q b1 hq hxb => ?_, hm.apart r bs hb x q1, hm.mine r bs hb x q1⟩
    rw [getElem?_set_ _ _ _ _ (by rw [hm.nb]; exact hrl)] at hq
    split at hq
    · injection hq with hq; subst hq; exact q2 hxb
    · rename_i hne; exact hm.disj r q bs b1 hne hb hq x q1 hxb)
  have hlen : (T.slots.set r (k, AV.own e (es.set i (row.set j (.sln es'.length))))).length = T.slots.length := by simp
  have hl := run_loadOne (P := C.P) ha ⟨g, i * sz + j, none⟩ u w hc
  unfold Oper.wp execOp
  simp only [ho, he, Instr.loadAt, Instr.sureAddr, hl, Sem.run_bind, Result.andThen_ok, Sem.run_pure, Oper.upon_skip]
  refine hK u w S _ _ hm2 (fun u x hx' => hf2 u x (hf1 u x hx')) ?_
  have := push_sl (C := C) (T := ⟨T.slots.set r (k, .own e (es.set i (row.set j (.sln es'.length)))), T.ep⟩) (S := S) (S' := S) (vals := vals.set r v) (w' := w) (v := u) (bs := b) (e := e') (es := es') (by simp [hm.nv]) hr1
  unfold pushT at this
  simp only [hlen] at this
  exact this
/-- A slot's slice is stored into a cell, which owns it from now on. -/
theorem op_store_nest {t : TypeId} {y z : Operand} {r k i j q kq len : Nat} {e e' : TypeId} {es es' : List (List AV)} {row : List AV} (ho : o.op = .store t y z) (hy : ev y = .ptr r k i j) (hz : ev z = .sl q kq 0 len) (hT : T.slots[r]? = some (k, .own e es)) (hrow : es[i]? = some row) (hs : sizeIs C.P t 1)
    (hq : T.slots[q]? = some (kq, .own e' es')) (hrq : r ≠ q) (hl : len = es'.length) (hj : j < row.length) {es2 : List (List AV)} (he2 : es.set i (row.set j (.own e' es')) = es2) : OpJ C o ev T .any ⟨(T.slots.set q (kq, .any)).set r (k, .own e es2), T.ep⟩ := by
  subst hl
  subst he2
  intro a w S vals bss hm h K hK Q
  have h1 := h y (by simp [ho, Op.operands])
  have h2 := h z (by simp [ho, Op.operands])
  rw [hy] at h1
  rw [hz] at h2
  obtain ⟨v, bs, hv, hb, hrep⟩ := hm.slot hT
  obtain ⟨u, bq, hu, hbq, hrepq⟩ := hm.slot hq
  have hql : q < T.slots.length := (List.getElem?_eq_some_iff.1 hq).1
  have hrl : r < T.slots.length := (List.getElem?_eq_some_iff.1 hT).1
  -- what is stored
  have hval : a.eval z = u := by
    obtain ⟨us1, sz1, bss1, -, hi1, hsz1, hown1, -⟩ := hrepq.own_inv
    obtain ⟨-, A, nn, cap, hve, g3, g4, g5, g6⟩ := h2.2.2 e' es' u sz1 hq hu hi1
    rcases g6 with ⟨-, g6⟩ | ⟨A', g6, -⟩
    · rw [g6]
      rcases hown1.2 with ⟨h0, h0'⟩ | ⟨g, cap', cur, hcap, -⟩
      · rw [hve] at h0
        injection h0 with e1 e2 e3
        rw [hve, e1, e2, e3, h0']
      · rw [hve] at hcap
        injection hcap with e1 e2 e3
        rw [hve, e1, e2, e3]
    · omega
  -- the slot is left
  obtain ⟨hm1, hf1⟩ := hm.setF (k' := kq) (ep' := T.ep) (x' := .any) (bs' := []) hq hu hbq (Kept.refl _ w) (.any hrepq.one) (by simp) (by simp) (.inl ⟨rfl, rfl, rfl, (fun _ _ h => by cases h), (fun _ _ h => by cases h)⟩)
  have hT1 : (T.slots.set q (kq, AV.any))[r]? = some (k, .own e es) := by rw [getElem?_set_ _ _ _ _ hql, if_neg (fun h => hrq h.symm)]; exact hT
  have hv1 : (vals.set q u)[r]? = some v := by rw [getElem?_set_ _ _ _ _ (by rw [hm.nv]; exact hql), if_neg (fun h => hrq h.symm)]; exact hv
  have hb1 : (bss.set q [])[r]? = some bs := by rw [getElem?_set_ _ _ _ _ (by rw [hm.nb]; exact hql), if_neg (fun h => hrq h.symm)]; exact hb
  obtain ⟨g, cap, cur, sz, bs', hve, hg, hsz, hfit, hgb, hrep', hnd', hsub⟩ := hrep.own_set (hm.nodup r bs hb) (hm.apart r bs hb) hrow (vs := [u]) (xs := [.own e' es']) (bvs := [bq]) rfl rfl (fun p u1 x b h1 h2 h3 => by
    cases p with
    | zero =>
      simp at h1 h2 h3
      subst h1; subst h2; subst h3
      exact hrepq
    | succ p => simp at h1) (fun b hb' => by
      simp at hb'
      exact hm.disj q r bq bs (fun h => hrq h.symm) hbq hb b hb') (by simpa using hm.nodup q bq hbq) (Nat.succ_le_of_lt hj)
  obtain ⟨hil, g', n', cap', hve', hae⟩ := h1.2.2 e es v sz hT hv hsz
  rw [hve] at hve'
  injection hve' with e1 e2 e3
  injection e1 with e1
  injection e1 with e1
  subst e1
  have hone := hrepq.one
  have hcs : u.cells.toList = [u] := by
    cases u <;> first | rfl | (simp [Value.oneCell'] at hone)
  have hcs2 : u.cells.size = 1 := by rw [← Array.length_toList, hcs]; rfl
  have hrun := run_store_at (P := C.P) hs g (i * sz + j) e cur u w hg hcs2 (by rw [hcs2]; simpa using hfit) (fun x hx => by
    rw [hcs] at hx
    obtain rfl : x = u := by simpa using hx
    exact hone)
  rw [hcs] at hrun
  have hk : Kept (fun q => q ∉ bs) w (w.setRow g (cur.toList.take (i * sz + j) ++ [u] ++ cur.toList.drop (i * sz + j + [u].length)).toArray) := ⟨rfl, rfl, rfl, by simp, fun k _ hk' => setRow_other w g k _ (fun e => hk' (e ▸ hgb))⟩
  have hspl : splice row j [AV.own e' es'] = row.set j (.own e' es') := by
    unfold splice
    rw [List.set_eq_take_append_cons_drop, if_pos hj]
    simp
  rw [hspl] at hrep'
  obtain ⟨hm', hf⟩ := hm1.setF (k' := k) (ep' := T.ep) hT1 hv1 hb1 hk hrep' hnd' (fun b hb' => by
    rcases hsub b hb' with h | h
    · exact .inl h
    · simp at h
      refine .inr ⟨fun p b1 hp hpb hbb => ?_, hm.apart q bq hbq b h, hm.mine q bq hbq b h⟩
      rw [getElem?_set_ _ _ _ _ (by rw [hm.nb]; exact hql)] at hpb
      split at hpb
      · injection hpb with hpb; subst hpb; simp at hbb
      · rename_i hne; exact hm.disj q p bq b1 hne hbq hpb b h hbb) (.inl ⟨rfl, rfl, rfl, fun e1 es1 he1 => by
    injection he1 with h3 h4
    subst h3; subst h4
    exact ⟨es, rfl, by simp⟩, fun b ks h => by cases h⟩)
  unfold Oper.wp execOp
  simp only [ho, hae, hval, hrun, Sem.run_bind, Result.andThen_ok, Sem.run_pure, Oper.upon_skip]
  exact hK undef _ _ _ _ hm' (fun u x hx' => hf u x (hf1 u x hx')) trivial
end
section
variable {C : Cx} {Q : Exit → Sta → Prop} {ops : Array Oper} {Ok : Sl → Prop} {fuel : Nat} {listed : Array Bool} {o : Oper} {env : Nat → AV} {T T' : Sl} {n : Nat} {x : AV}
theorem AW.ado {σ : Sta} {i n : Nat} {l : List Oper} (Ok : Sl → Prop) (hm : C.P.follows .mixedOrders = true) (hn : l.toArray.size = n) (h : AD C l.toArray Q Ok n (Array.replicate n false) σ) : AW C (.region i l.toArray true) Q σ := by
  subst hn
  exact AW.region_any hm (AD.any _ _ _ h)
theorem adFo (i : Nat) (hi : ops.toList[i]? = some o) (hj : ∀ T', Ok T' → OpJ C o (evA env) T' x T') (hT : Ok T) (hr : (Region.ready .any ops listed).contains i = true) (hf : Region.free .any ops listed i = true) (h : AD C ops Q Ok fuel (listed.setIfInBounds i true) ⟨putE env o.dst x, T, n⟩)
    (hg : o.guard = none := by rfl) (ho : opsOk o n = true := by rfl) : AD C ops Q Ok (fuel + 1) listed ⟨env, T, n⟩ :=
  AD.first (atL hi) hg ho hj fuel listed env T (Region.free_spec (atL hi) hf) (by simpa using hr) (fun _ _ => rfl) hT h
theorem adPo (i : Nat) (hi : ops.toList[i]? = some o) (hj : ∀ T', Ok T' → OpP C o (evA env) T' x) (hT : Ok T) (hr : (Region.ready .any ops listed).contains i = true) (hf : Region.free .any ops listed i = true) (h : AD C ops Q Ok fuel (listed.setIfInBounds i true) ⟨putE env o.dst x, T, n⟩)
    (hg : o.guard = none := by rfl) (ho : opsOk o n = true := by rfl) : AD C ops Q Ok (fuel + 1) listed ⟨env, T, n⟩ := adFo i hi (fun T' h => (hj T' h).j) hT hr hf h hg ho
theorem adRo (i : Nat) (hi : ops.toList[i]? = some o) (hj : ∀ T', Ok T' → OpR C o (evA env) T' x) (hT : Ok T) (hr : (Region.ready .any ops listed).contains i = true) (hf : Region.free .any ops listed i = true) (h : AD C ops Q Ok fuel (listed.setIfInBounds i true) ⟨putE env o.dst x, T, n⟩)
    (hg : o.guard = none := by rfl) (ho : opsOk o n = true := by rfl) : AD C ops Q Ok (fuel + 1) listed ⟨env, T, n⟩ := adFo i hi (fun T' h => (hj T' h).j) hT hr hf h hg ho
theorem adQo (i : Nat) (hi : ops.toList[i]? = some o) (hj : ∀ T', Ok T' → OpQ C o (evA env) T' x) (hT : Ok T) (hr : (Region.ready .any ops listed).contains i = true) (hf : Region.free .any ops listed i = true) (h : AD C ops Q Ok fuel (listed.setIfInBounds i true) ⟨putE env o.dst x, T, n⟩)
    (hg : o.guard = none := by rfl) (ho : opsOk o n = true := by rfl) : AD C ops Q Ok (fuel + 1) listed ⟨env, T, n⟩ := adFo i hi (fun T' h => (hj T' h).j) hT hr hf h hg ho
/-- The only operation that may come up. -/
theorem adJo (i : Nat) (hi : ops.toList[i]? = some o) (hj : OpJ C o (evA env) T x T') (hr : Region.ready .any ops listed = [i]) (hT : Ok T') (h : AD C ops Q Ok fuel (listed.setIfInBounds i true) ⟨putE env o.dst x, T', n⟩) (hg : o.guard = none := by rfl) (ho : opsOk o n = true := by rfl) : AD C ops Q Ok (fuel + 1) listed ⟨env, T, n⟩ :=
  ⟨fun h0 => (by rw [hr] at h0; cases h0), fun j hj' => by
    rw [hr] at hj'
    obtain rfl : j = i := by simpa using hj'
    exact ⟨o, x, T', atL hi, hg, ho, hj, .inl hT, h⟩⟩
theorem adDoneo (hr : Region.ready .any ops listed = []) (h : Q .normal ⟨env, T, n⟩) : AD C ops Q Ok fuel listed ⟨env, T, n⟩ := by
  cases fuel with
  | zero => exact ⟨hr, h⟩
  | succ f => exact ⟨fun _ => h, fun i hi => by rw [hr] at hi; cases hi⟩
/-- The last one, which waits for all others. -/
theorem adLo (i : Nat) (hi : ops.toList[i]? = some o) (hj : OpJ C o (evA env) T x T') (hr : Region.ready .any ops listed = [i]) (hl : lastB ops o i = true) (h : AD C ops Q Ok fuel (listed.setIfInBounds i true) ⟨putE env o.dst x, T', n⟩) (hg : o.guard = none := by rfl) (ho : opsOk o n = true := by rfl) : AD C ops Q Ok (fuel + 1) listed ⟨env, T, n⟩ :=
  ⟨fun h0 => (by rw [hr] at h0; cases h0), fun j hj' => by
    rw [hr] at hj'
    obtain rfl : j = i := by simpa using hj'
    exact ⟨o, x, T', atL hi, hg, ho, hj, .inr hl, h⟩⟩
/-- Two operations may come next. -/
theorem adJ2o (i1 i2 : Nat) {o1 o2 : Oper} {x1 x2 : AV} {T1 T2 : Sl} (h1 : ops.toList[i1]? = some o1) (h2 : ops.toList[i2]? = some o2) (hj1 : OpJ C o1 (evA env) T x1 T1) (hj2 : OpJ C o2 (evA env) T x2 T2) (hr : Region.ready .any ops listed = [i1, i2]) (hT1 : Ok T1) (hT2 : Ok T2)
    (k1 : AD C ops Q Ok fuel (listed.setIfInBounds i1 true) ⟨putE env o1.dst x1, T1, n⟩) (k2 : AD C ops Q Ok fuel (listed.setIfInBounds i2 true) ⟨putE env o2.dst x2, T2, n⟩)
    (hg1 : o1.guard = none := by rfl) (hg2 : o2.guard = none := by rfl) (ho1 : opsOk o1 n = true := by rfl) (ho2 : opsOk o2 n = true := by rfl) : AD C ops Q Ok (fuel + 1) listed ⟨env, T, n⟩ := by
  refine ⟨fun h => (by rw [h] at hr; cases hr), fun j hj => ?_⟩
  rw [hr] at hj
  simp only [List.mem_cons, List.not_mem_nil, or_false] at hj
  rcases hj with rfl | rfl
  · exact ⟨o1, x1, T1, atL h1, hg1, ho1, hj1, .inl hT1, k1⟩
  · exact ⟨o2, x2, T2, atL h2, hg2, ho2, hj2, .inl hT2, k2⟩
end
section
variable {C : Cx} {σ : Sta}
/-- .. or is a list that is owned. -/
inductive Le2 (P : Program) : AV → AV → Prop
  | same {x} : Le2 P x x
  | nil : Le2 P (.v (.slice none 0 0)) (.ro [])
  | nilo {e sz} (h : sizeIs P e sz) : Le2 P (.v (.slice none 0 0)) (.own e [])
theorem Le2.rep {P : Program} {S : Nat → Prop} {w : World} {bs : List Nat} {u : Value} {x y : AV} (h : Le2 P x y) (hr : Rep P S w bs u x) : Rep P S w bs u y := by
  cases h with
  | same => exact hr
  | nil =>
    obtain ⟨rfl, rfl, _⟩ := hr.v_inv
    exact rep_ro_nil
  | nilo h =>
    obtain ⟨rfl, rfl, _⟩ := hr.v_inv
    exact rep_nil h
theorem Gh.slot2 {e : TypeId} {es es' : List (List AV)} {r k : Nat} (hT : σ.T.slots[r]? = some (k, .own e es)) (hl : es'.map List.length = es.map List.length) (hle : RL (Le2 C.P) es.flatten es'.flatten) : Gh C σ ⟨σ.env, ⟨σ.T.slots.set r (k, .own e es'), σ.T.ep⟩, σ.n⟩ := by
  intro a w ⟨hd, hn, S, vals, bss, hm, he⟩
  obtain ⟨v, bs, hv, hb, hrep⟩ := hm.slot hT
  have hlen : es'.length = es.length := by have := congrArg List.length hl; simpa using this
  have hrep' : Rep C.P S w bs v (.own e es') := by
    obtain ⟨us, sz, bss', rfl, hi, hsz, hown, hul, hbl, hc⟩ := hrep.own_inv
    refine .own hi (fun x hx => ?_) (by rw [hlen]; exact hown) (by rw [hul]; exact hle.1) hbl fun i u x b h1 h2 h3 => ?_
    · have h1 : x.length ∈ es'.map List.length := List.mem_map_of_mem hx
      rw [hl] at h1
      obtain ⟨y, hy, h2⟩ := List.mem_map.1 h1
      rw [← h2]; exact hsz y hy
    · have hlt : i < es.flatten.length := by rw [hle.1]; exact (List.getElem?_eq_some_iff.1 h2).1
      have h4 := List.getElem?_eq_getElem hlt
      exact (hle.2 i _ x h4 h2).rep (hc i u _ b h1 h4 h3)
  obtain ⟨hm', hf⟩ := hm.set hT hv hb (Kept.refl _ _) hrep' (hm.nodup r bs hb) (fun b h => .inl h) (.inl ⟨rfl, rfl, rfl, fun e' es2 h => (by injection h with h1 h2; subst h1; subst h2; exact ⟨es, rfl, hlen.symm⟩), fun b ks h => (by cases h)⟩)
  exact ⟨hd, hn, S, _, _, hm', fun t ht => TmpOK.follows hf (he t ht)⟩
/-- What a cell says when all is frozen. -/
def fz1 : AV → AV
  | .own _ es => .ro es
  | x => x
def flat2 (x : AV) : Prop := flatA x = true ∨ ∃ e es, x = .own e es ∧ ∀ r ∈ es, ∀ c ∈ r, flatA c = true
theorem rep_freezeN {P : Program} {S : Nat → Prop} {w : World} {bs : List Nat} {v : Value} {e : TypeId} {es : List (List AV)} (h : Rep P S w bs v (.own e es)) (hx : ∀ r ∈ es, ∀ c ∈ r, flat2 c) :
    ∃ (us : List Value) (A : Option Addr) (c sz : Nat), v = .slice A es.length c ∧ es.length ≤ c ∧ c ≤ maxLen ∧ (∀ x ∈ es, x.length = sz) ∧ sizeIs P e sz ∧ us.length = es.flatten.length ∧ (∀ (i : Nat) (u : Value) (x : AV), us[i]? = some u → es.flatten[i]? = some x → Rep P (fun q => S q ∨ q ∈ bs) w [] u (fz1 x)) ∧ (0 < us.length → ∃ g, A = some ⟨g, 0, none⟩ ∧ g ∈ bs ∧ ∀ j u, us[j]? = some u → w.cell? ⟨g, j, none⟩ = some u) := by
  obtain ⟨us, sz, bss, rfl, hi, hsz, hown, hul, hbl, hc⟩ := h.own_inv
  have hcc : ∀ (i : Nat) (u : Value) (x : AV), us[i]? = some u → es.flatten[i]? = some x → Rep P (fun q => S q ∨ q ∈ v.ownBlock.toList ++ bss.flatten) w [] u (fz1 x) := fun i u x hu hx' => by
    have hlt : i < bss.length := by rw [hbl]; exact (List.getElem?_eq_some_iff.1 hu).1
    have hb := List.getElem?_eq_getElem hlt
    have hr := hc i u x _ hu hx' hb
    obtain ⟨r, hr1, hr2⟩ := List.mem_flatten.1 (List.mem_of_getElem? hx')
    rcases hx r hr1 x hr2 with hf | ⟨e', es', rfl, hf⟩
    · have e0 := hr.flat hf
      rw [e0] at hr
      have e1 : fz1 x = x := by cases x <;> first | rfl | cases hf
      rw [e1]
      exact hr.mono fun _ _ h => .inl h
    · obtain ⟨us', A', c', sz', rfl, p1, p2, hsz', hi', hul', hcc', hcell'⟩ := rep_freeze hr hf
      refine Rep.ro (us := us') p1 p2 hsz' (fun hn => ?_) hul' fun i u x hu hx => (hcc' i u x hu hx).mono fun _ _ h => .inl h
      obtain ⟨g, r1, r2, r3⟩ := hcell' hn
      refine ⟨g, 0, r1, .inr (List.mem_append_right _ (List.mem_flatten.2 ⟨_, List.mem_of_getElem? hb, r2⟩)), fun j u hu => ?_⟩
      rw [Nat.zero_add]; exact r3 j u hu
  rcases hown.2 with ⟨rfl, h0⟩ | ⟨g, cap, cur, rfl, -, hg, p1, p2, -⟩
  · refine ⟨us, none, 0, sz, by rw [h0], by omega, by unfold maxLen; omega, hsz, hi, hul, hcc, fun hn => ?_⟩
    have : es = [] := List.eq_nil_of_length_eq_zero h0
    rw [hul, this] at hn; simp at hn
  · refine ⟨us, _, cap, sz, rfl, p1, p2, hsz, hi, hul, hcc, fun _ => ⟨g, rfl, by simp [Value.ownBlock], fun j u hu => ?_⟩⟩
    have := hown.cells (g := g) rfl j u hu
    rw [add_off, Nat.zero_add] at this
    exact this
/-- A slot is frozen, and the slices that its cells own. -/
theorem Gh.freezeN {e : TypeId} {es : List (List AV)} {r k len : Nat} (t : Nat) (ht : t < σ.n) (hv : σ.env t = .sl r k 0 len) (hT : σ.T.slots[r]? = some (k, .own e es)) (hx : ∀ r ∈ es, ∀ c ∈ r, flat2 c) {es' : List (List AV)} (he' : (es.take len).map (·.map fz1) = es') :
    Gh C σ ⟨upd σ.env t (.ro es'), ⟨σ.T.slots.set r (k, .any), σ.T.ep⟩, σ.n⟩ := by
  intro a w ⟨hd, hn, S, vals, bss, hm, he⟩
  obtain ⟨v, bs, hv2, hb, hrep⟩ := hm.slot hT
  obtain ⟨us, A, c, sz, hve, p1, p2, hsz, hi, hul, hcc, hcell⟩ := rep_freezeN hrep hx
  have hrl : r < σ.T.slots.length := (List.getElem?_eq_some_iff.1 hT).1
  have hSS : ∀ q, S q → S q ∨ q ∈ bs := fun q h => .inl h
  have hf : Follows C.P S w σ.T vals (fun q => S q ∨ q ∈ bs) w ⟨σ.T.slots.set r (k, .any), σ.T.ep⟩ vals := by
    intro u x hx
    have key2 : ∀ (q kq : Nat) (x : AV), (σ.T.slots.set r (k, .any))[q]? = some (kq, x) → x ≠ .any → σ.T.slots[q]? = some (kq, x) := by
      intro q kq x q1 hne
      rw [getElem?_set_ _ _ _ _ hrl] at q1
      split at q1
      · injection q1 with q1; injection q1 with _ q1; exact absurd q1.symm hne
      · exact q1
    cases x with
    | sl r k off len => exact ⟨hx.1, hx.2.1, fun e es v sz q1 q2 q3 => hx.2.2 e es v sz (key2 _ _ _ q1 (by simp)) q2 q3⟩
    | ptr r k i j => exact ⟨hx.1, hx.2.1, fun e es v sz q1 q2 q3 => hx.2.2 e es v sz (key2 _ _ _ q1 (by simp)) q2 q3⟩
    | mp r k => exact ⟨hx.1, hx.2.1, fun b ks v q1 q2 => hx.2.2 b ks v (key2 _ _ _ q1 (by simp)) q2⟩
    | _ => exact RefOK.kept (T := σ.T) (vals := vals) hx (Kept.refl (fun _ => True) w) (fun _ _ _ => trivial) hSS
  have hbt : ∀ (q : Nat) (b1 : List Nat), (bss.set r [])[q]? = some b1 → (b1 = [] ∧ q = r) ∨ (q ≠ r ∧ bss[q]? = some b1) := by
    intro q b1 h
    rw [getElem?_set_ _ _ _ _ (by rw [hm.nb]; exact hrl)] at h
    split at h
    · rename_i e1; injection h with h; exact .inl ⟨h.symm, e1.symm⟩
    · rename_i e1; exact .inr ⟨fun e => e1 e.symm, h⟩
  refine ⟨hd, hn, fun q => S q ∨ q ∈ bs, vals, bss.set r [], ⟨hm.kept, fun q h => .inl (hm.s0 q h), fun q h => ?_, fun q h => ?_, by simp [hm.nv], by simp [hm.nb], ?_, ?_, ?_, ?_, ?_, ?_, ?_, hm.pos⟩, fun q hq => ?_⟩
  · rcases h with h | h
    · exact hm.sub q h
    · rcases hm.mine r bs hb q h with h | h
      · exact .inr (.inl h)
      · exact .inr (.inr h)
  · rcases h with h | h
    · exact hm.lt q h
    · exact hm.blt hb q h
  · intro q kq y u b1 q1 q2 q3
    rw [getElem?_set_ _ _ _ _ hrl] at q1
    rcases hbt q b1 q3 with ⟨rfl, rfl⟩ | ⟨hne, q4⟩
    · rw [if_pos rfl] at q1
      injection q1 with q1; injection q1 with _ q1
      subst q1
      rw [hv2] at q2
      injection q2 with q2
      subst q2
      exact .any hrep.one
    · rw [if_neg (fun e => hne e.symm)] at q1
      exact (hm.rep q kq y u b1 q1 q2 q4).mono fun _ _ h => .inl h
  · intro q b1 q1
    rcases hbt q b1 q1 with ⟨rfl, rfl⟩ | ⟨hne, q4⟩
    · simp
    · exact hm.nodup q b1 q4
  · intro q q' b1 b2 hne q1 q2 b hb1 hb2
    rcases hbt q b1 q1 with ⟨rfl, rfl⟩ | ⟨hne1, q4⟩
    · simp at hb1
    · rcases hbt q' b2 q2 with ⟨rfl, rfl⟩ | ⟨hne2, q5⟩
      · simp at hb2
      · exact hm.disj q q' b1 b2 hne q4 q5 b hb1 hb2
  · intro q b1 q1 b hb1 hS
    rcases hbt q b1 q1 with ⟨rfl, rfl⟩ | ⟨hne1, q4⟩
    · simp at hb1
    · rcases hS with hS | hS
      · exact hm.apart q b1 q4 b hb1 hS
      · exact hm.disj q r b1 bs hne1 q4 hb b hb1 hS
  · intro q b1 q1 b hb1
    rcases hbt q b1 q1 with ⟨rfl, rfl⟩ | ⟨hne1, q4⟩
    · simp at hb1
    · exact hm.mine q b1 q4 b hb1
  · intro q y hlt q1
    rw [getElem?_set_ _ _ _ _ hrl] at q1
    split at q1
    · rename_i e1
      injection q1 with q1; injection q1 with q1 _
      subst e1
      exact hm.root r _ hlt (by rw [hT, q1])
    · exact hm.root q y hlt q1
  · intro q kq y q1
    rw [getElem?_set_ _ _ _ _ hrl] at q1
    split at q1
    · injection q1 with q1; injection q1 with q1 _
      rw [← q1]; exact hm.ver r k _ hT
    · exact hm.ver q kq y q1
  · show TmpOK _ _ _ _ _ _ (upd σ.env t _ q)
    unfold upd
    by_cases h : q = t
    · subst h
      rw [if_pos rfl]
      have h1 := he q hq
      rw [hv] at h1
      obtain ⟨hol, A0, nn, cap, hve2, g3, g4, g5, g6⟩ := h1.2.2 e es v sz hT hv2 hi
      rw [hve] at hve2
      injection hve2 with s1 s2 s3
      subst s1; subst s3
      have hu : a.tmps.getD q undef = .slice A len c := by
        rcases g6 with ⟨-, h8⟩ | ⟨A', h8, _⟩
        · exact h8
        · omega
      rw [hu]
      subst he'
      have hll : (es.take len).length = len := by rw [List.length_take]; omega
      have hll2 : ((es.take len).map (·.map fz1)).length = len := by rw [List.length_map, hll]
      have hfc := flat_cut hsz 0 len
      rw [Nat.zero_mul, List.drop_zero, List.drop_zero] at hfc
      have hfm : ((es.take len).map (·.map fz1)).flatten = (es.take len).flatten.map fz1 := by rw [List.map_flatten]
      suffices hh : Rep C.P (fun q => S q ∨ q ∈ bs) w [] (.slice A ((es.take len).map (·.map fz1)).length c) (.ro ((es.take len).map (·.map fz1))) by rw [hll2] at hh; exact hh
      refine Rep.ro (sz := sz) (us := us.take (len * sz)) (by rw [hll2]; omega) p2 (fun x hx => ?_) (fun hn => ?_) ?_ ?_
      · obtain ⟨y, hy, rfl⟩ := List.mem_map.1 hx
        rw [List.length_map]; exact hsz y (List.mem_of_mem_take hy)
      · obtain ⟨g, r1, r2, r3⟩ := hcell (by rw [List.length_take] at hn; omega)
        refine ⟨g, 0, r1, .inr r2, fun j u hu => ?_⟩
        rw [List.getElem?_take] at hu
        split at hu
        · rw [Nat.zero_add]; exact r3 j u hu
        · cases hu
      · rw [hfm, List.length_map, hfc, List.length_take, List.length_take, hul]
      · intro i u x hu hx
        rw [hfm, List.getElem?_map, hfc, List.getElem?_take] at hx
        rw [List.getElem?_take] at hu
        split at hu
        · rename_i hlt
          rw [if_pos hlt] at hx
          cases hy : es.flatten[i]? with
          | none => rw [hy] at hx; cases hx
          | some y =>
            rw [hy] at hx
            injection hx with hx
            subst hx
            exact hcc i u y hu hy
        · cases hu
    · rw [if_neg h]
      exact TmpOK.follows hf (he q hq)
end
section
variable {C : Cx} {o : Oper} {ev : Operand → AV} {T : Sl} {t yt : TypeId} {p q : Operand} {x y : Bool}
theorem run_equalIn_bool (P : Program) (d : Nat) (t : TypeId) (x y : Bool) (h : P.underlying t = some .bool) (w : World) : (Op.equalIn (d + 1) t (.bool x) (.bool y)).run P w = .ok (x == y) w := by
  simp [Op.equalIn, run_underlying h]
theorem run_equal_bool (P : Program) (t : TypeId) (x y : Bool) (h : P.underlying t = some .bool) (w : World) : (Op.equal t (.bool x) (.bool y)).run P w = .ok (x == y) w := run_equalIn_bool P 9999 t x y h w
theorem op_beql (ho : o.op = .binOp .eql t p q yt) (hp : ev p = .v (.bool x)) (hq : ev q = .v (.bool y)) (ht : C.P.underlying t = some .bool) : OpP C o ev T (.v (.bool (x == y))) :=
  op_bin ho hp hq (fun w => by unfold eqGuard; simp [Program.eqGuardType, run_program, ht]) (fun w => by simp [binOp, run_equal_bool _ _ _ _ ht]) rfl
theorem op_bneq (ho : o.op = .binOp .neq t p q yt) (hp : ev p = .v (.bool x)) (hq : ev q = .v (.bool y)) (ht : C.P.underlying t = some .bool) : OpP C o ev T (.v (.bool (x != y))) :=
  op_bin ho hp hq (fun w => by unfold eqGuard; simp [Program.eqGuardType, run_program, ht]) (fun w => by cases x <;> cases y <;> simp [binOp, run_equal_bool _ _ _ _ ht]) rfl
end
section
variable {C : Cx} {σ : Sta}
theorem Rep.put_flat {P : Program} {S : Nat → Prop} {w : World} {bs : List Nat} {v : Value} {e : TypeId} {es : List (List AV)} (h : Rep P S w bs v (.own e es)) {i j : Nat} {row : List AV} {x' : AV} (hrow : es[i]? = some row) {x0 : AV} (hx0 : row[j]? = some x0) (hfl : flatA x0 = true)
    (hrep : ∀ u g sz, sizeIs P e sz → v.ownBlock = some g → w.cell? ⟨g, i * sz + j, none⟩ = some u → Rep P S w [] u x') : Rep P S w bs v (.own e (es.set i (row.set j x'))) := by
  obtain ⟨us, sz, bss, rfl, hi, hsz, hown, hul, hbl, hc⟩ := h.own_inv
  have hf := flat_at hsz hrow hx0
  have hlt : i * sz + j < us.length := by rw [hul]; exact (List.getElem?_eq_some_iff.1 hf).1
  have hjl : j < row.length := (List.getElem?_eq_some_iff.1 hx0).1
  have hrl := hsz row (List.mem_of_getElem? hrow)
  have h1 := List.getElem?_eq_getElem hlt
  have h2 := List.getElem?_eq_getElem (l := bss) (by rw [hbl]; exact hlt)
  have hb0 := (hc _ _ _ _ h1 hf h2).flat hfl
  refine Rep.own (us := us) hi (fun x hx' => ?_) (by rw [List.length_set]; exact hown) (by rw [set_flat hsz hrow hjl, List.length_set]; exact hul) hbl fun q u x b q1 q2 q3 => ?_
  · rcases List.mem_or_eq_of_mem_set hx' with h' | h'
    · exact hsz x h'
    · rw [h', List.length_set]; exact hrl
  · rw [set_flat hsz hrow hjl, List.getElem?_set] at q2
    by_cases hq : i * sz + j = q
    · subst hq
      rw [if_pos rfl, if_pos (by rw [← hul]; exact hlt)] at q2
      injection q2 with q2
      subst q2
      rw [h2] at q3; injection q3 with q3
      rw [← q3, hb0]
      rw [h1] at q1; injection q1 with q1; subst q1
      rcases hown.2 with ⟨rfl, h0⟩ | ⟨g, cap, cur, rfl, -⟩
      · have := List.eq_nil_of_length_eq_zero h0
        subst this; simp at hrow
      · refine hrep _ g sz hi rfl ?_
        have := hown.cells (g := g) rfl _ _ h1
        rw [add_off, Nat.zero_add] at this
        exact this
    · rw [if_neg hq] at q2
      exact hc q u x b q1 q2 q3
/-- The slice that a cell owns is frozen. -/
theorem Gh.freezeC {e e' : TypeId} {es es' : List (List AV)} {row : List AV} {r k : Nat} (i j : Nat) (hT : σ.T.slots[r]? = some (k, .own e es)) (hrow : es[i]? = some row) (hx : row[j]? = some (.own e' es')) (hf0 : ∀ r ∈ es', ∀ c ∈ r, flatA c = true) {es2 : List (List AV)} (he2 : es.set i (row.set j (.ro es')) = es2) :
    Gh C σ ⟨σ.env, ⟨σ.T.slots.set r (k, .own e es2), σ.T.ep⟩, σ.n⟩ := by
  subst he2
  intro a w ⟨hd, hn, S, vals, bss, hm, he⟩
  obtain ⟨v, bs, hv, hb, hrep⟩ := hm.slot hT
  obtain ⟨u, b, bs2, sz, hi, hr1, hr2, n1, n2, hbb, hb2, hcell, g0, hg0⟩ := hrep.take_cell (hm.nodup r bs hb) hrow hx
  obtain ⟨us', A', c', sz', hu', p1, p2, hsz', hi', hul', hcc', hcell'⟩ := rep_freeze hr1 hf0
  have hrl : r < σ.T.slots.length := (List.getElem?_eq_some_iff.1 hT).1
  have hjl : j < row.length := (List.getElem?_eq_some_iff.1 hx).1
  have hil : i < es.length := (List.getElem?_eq_some_iff.1 hrow).1
  have hro : Rep C.P (fun q => S q ∨ q ∈ b) w [] u (.ro es') := by
    subst hu'
    refine Rep.ro (us := us') p1 p2 hsz' (fun hn => ?_) hul' fun i u x hu hx => (hcc' i u x hu hx).mono fun _ _ h => .inl h
    obtain ⟨g, r1, r2, r3⟩ := hcell' hn
    exact ⟨g, 0, r1, .inr r2, fun j u hu => by rw [Nat.zero_add]; exact r3 j u hu⟩
  have hr3 : Rep C.P (fun q => S q ∨ q ∈ b) w bs2 v (.own e (es.set i (row.set j (.ro es')))) := by
    have := (hr2.mono (S' := fun q => S q ∨ q ∈ b) fun _ _ h => .inl h).put_flat (i := i) (j := j) (row := row.set j (.sln es'.length)) (x' := .ro es') (by simp [hil]) (x0 := .sln es'.length) (by simp [hjl]) rfl (fun u1 g sz1 hz1 hg1 hc1 => by
      have e1 := sizeIs.inj hi hz1
      subst e1
      have := hcell g hg1
      rw [this] at hc1
      injection hc1 with hc1
      subst hc1
      exact hro)
    rwa [List.set_set, List.set_set] at this
  have hbt : ∀ (q : Nat) (b1 : List Nat), (bss.set r bs2)[q]? = some b1 → (b1 = bs2 ∧ q = r) ∨ (q ≠ r ∧ bss[q]? = some b1) := by
    intro q b1 h
    rw [getElem?_set_ _ _ _ _ (by rw [hm.nb]; exact hrl)] at h
    split at h
    · rename_i e1; injection h with h; exact .inl ⟨h.symm, e1.symm⟩
    · rename_i e1; exact .inr ⟨fun e => e1 e.symm, h⟩
  have hf : Follows C.P S w σ.T vals (fun q => S q ∨ q ∈ b) w ⟨σ.T.slots.set r (k, .own e (es.set i (row.set j (.ro es')))), σ.T.ep⟩ vals := by
    intro u x hx
    have key2 : ∀ (q kq : Nat) (x : AV), (σ.T.slots.set r (k, .own e (es.set i (row.set j (.ro es')))))[q]? = some (kq, x) → σ.T.slots[q]? = some (kq, x) ∨ (q = r ∧ kq = k ∧ x = .own e (es.set i (row.set j (.ro es')))) := by
      intro q kq x q1
      rw [getElem?_set_ _ _ _ _ hrl] at q1
      split at q1
      · rename_i e1; injection q1 with q1; injection q1 with q0 q1; exact .inr ⟨e1.symm, q0.symm, q1.symm⟩
      · exact .inl q1
    cases x with
    | sl q kq off len => exact ⟨hx.1, hx.2.1, fun e2 es2 v2 sz2 q1 q2 q3 => by
        rcases key2 _ _ _ q1 with h | ⟨rfl, rfl, h⟩
        · exact hx.2.2 e2 es2 v2 sz2 h q2 q3
        · injection h with h1 h2
          subst h1; subst h2
          rw [List.length_set]
          exact hx.2.2 e2 es v2 sz2 hT q2 q3⟩
    | ptr q kq i2 j2 => exact ⟨hx.1, hx.2.1, fun e2 es2 v2 sz2 q1 q2 q3 => by
        rcases key2 _ _ _ q1 with h | ⟨rfl, rfl, h⟩
        · exact hx.2.2 e2 es2 v2 sz2 h q2 q3
        · injection h with h1 h2
          subst h1; subst h2
          rw [List.length_set]
          exact hx.2.2 e2 es v2 sz2 hT q2 q3⟩
    | mp q kq => exact ⟨hx.1, hx.2.1, fun b1 ks v1 q1 q2 => by
        rcases key2 _ _ _ q1 with h | ⟨rfl, rfl, h⟩
        · exact hx.2.2 b1 ks v1 h q2
        · cases h⟩
    | nm => exact hx
    | byt => exact hx
    | om => exact hx
    | _ => exact RefOK.kept (T := σ.T) (vals := vals) hx (Kept.refl (fun _ => True) w) (fun _ _ _ => trivial) (fun q h => .inl h)
  refine ⟨hd, hn, fun q => S q ∨ q ∈ b, vals, bss.set r bs2, ⟨hm.kept, fun q h => .inl (hm.s0 q h), fun q h => ?_, fun q h => ?_, by simp [hm.nv], by simp [hm.nb], ?_, ?_, ?_, ?_, ?_, ?_, ?_, hm.pos⟩, fun q hq => TmpOK.follows hf (he q hq)⟩
  · rcases h with h | h
    · exact hm.sub q h
    · rcases hm.mine r bs hb q (hbb q h).1 with h | h
      · exact .inr (.inl h)
      · exact .inr (.inr h)
  · rcases h with h | h
    · exact hm.lt q h
    · exact hm.blt hb q (hbb q h).1
  · intro q kq y u b1 q1 q2 q3
    rw [getElem?_set_ _ _ _ _ hrl] at q1
    rcases hbt q b1 q3 with ⟨rfl, rfl⟩ | ⟨hne, q4⟩
    · rw [if_pos rfl] at q1
      injection q1 with q1; injection q1 with _ q1
      subst q1
      rw [hv] at q2
      injection q2 with q2
      subst q2
      exact hr3
    · rw [if_neg (fun e => hne e.symm)] at q1
      exact (hm.rep q kq y u b1 q1 q2 q4).mono fun _ _ h => .inl h
  · intro q b1 q1
    rcases hbt q b1 q1 with ⟨rfl, rfl⟩ | ⟨hne, q4⟩
    · exact n2
    · exact hm.nodup q b1 q4
  · intro q q' b1 b2 hne q1 q2 x hx1 hx2
    rcases hbt q b1 q1 with ⟨rfl, rfl⟩ | ⟨hne1, q4⟩
    · rcases hbt q' b2 q2 with ⟨rfl, rfl⟩ | ⟨hne2, q5⟩
      · exact hne rfl
      · exact hm.disj q q' bs b2 hne hb q5 x (hb2 x hx1) hx2
    · rcases hbt q' b2 q2 with ⟨rfl, rfl⟩ | ⟨hne2, q5⟩
      · exact hm.disj q q' b1 bs hne q4 hb x hx1 (hb2 x hx2)
      · exact hm.disj q q' b1 b2 hne q4 q5 x hx1 hx2
  · intro q b1 q1 x hx1 hS
    rcases hbt q b1 q1 with ⟨rfl, rfl⟩ | ⟨hne1, q4⟩
    · rcases hS with hS | hS
      · exact hm.apart q bs hb x (hb2 x hx1) hS
      · exact (hbb x hS).2 hx1
    · rcases hS with hS | hS
      · exact hm.apart q b1 q4 x hx1 hS
      · exact hm.disj q r b1 bs hne1 q4 hb x hx1 (hbb x hS).1
  · intro q b1 q1 x hx1
    rcases hbt q b1 q1 with ⟨rfl, rfl⟩ | ⟨hne1, q4⟩
    · exact hm.mine q bs hb x (hb2 x hx1)
    · exact hm.mine q b1 q4 x hx1
  · intro q y hlt q1
    rw [getElem?_set_ _ _ _ _ hrl] at q1
    split at q1
    · rename_i e1
      injection q1 with q1; injection q1 with q1 _
      subst e1
      exact hm.root r _ hlt (by rw [hT, q1])
    · exact hm.root q y hlt q1
  · intro q kq y q1
    rw [getElem?_set_ _ _ _ _ hrl] at q1
    split at q1
    · injection q1 with q1; injection q1 with q1 _
      rw [← q1]; exact hm.ver r k _ hT
    · exact hm.ver q kq y q1
end
theorem nzR : (∀ r k x, renA r k (.v x) = .v x) ∧ (∀ r k x, renA r k (.ro x) = .ro x) ∧ (∀ r k x, renA r k (.rof x) = .rof x) ∧ (∀ r k e x, renA r k (.own e x) = .own e x) ∧ (∀ r k cs, renA r k (.agg cs) = .agg (cs.map (ren1 r k))) ∧
    (∀ r k x, ren1 r k (.v x) = .v x) ∧ (∀ r k x, ren1 r k (.ro x) = .ro x) ∧ (∀ r k x, ren1 r k (.rof x) = .rof x) ∧ (∀ r k x, ren1 r k (.sln x) = .sln x) :=
  ⟨fun _ _ _ => rfl, fun _ _ _ => rfl, fun _ _ _ => rfl, fun _ _ _ _ => rfl, fun _ _ _ => rfl, fun _ _ _ => rfl, fun _ _ _ => rfl, fun _ _ _ => rfl, fun _ _ _ => rfl⟩
/-- All of these under one short name, for simp. -/
theorem nA : ((∀ (env : Nat → AV) t, evA env (.tmp t) = env t) ∧ (∀ (env : Nat → AV) k n, evA env (.const (.int k n)) = .v (.int k n)) ∧ (∀ (env : Nat → AV) b, evA env (.const (.bool b)) = .v (.bool b)) ∧ (∀ (env : Nat → AV) s, evA env (.const (.string s)) = .v (.string s)) ∧ (∀ (env : Nat → AV) a n c, evA env (.const (.slice a n c)) = .v (.slice a n c)) ∧ (∀ (env : Nat → AV) f, evA env (.func f) = .v (.func (.func f) #[] #[])) ∧ (∀ (env : Nat → AV) d x, putE env (some d) x = upd env d x) ∧ (∀ (env : Nat → AV) x, putE env none x = env)) ∧ ((∀ x, ldc (.v x) = .v x) ∧ (∀ x, ldc (.ro x) = .ro x) ∧ (∀ x, ldc (.rof x) = .rof x) ∧ (∀ x, ldc (.rop x) = .rop x) ∧ (∀ e x, ldc (.own e x) = .sln x.length) ∧ (∀ n, ldc (.sln n) = .sln n) ∧ ldc .any = .any ∧ (∀ x, stc (.v x) = .v x) ∧ (∀ x, stc (.ro x) = .ro x) ∧ (∀ x, stc (.rof x) = .rof x) ∧ (∀ x, stc (.rop x) = .rop x) ∧ (∀ n, stc (.sln n) = .sln n) ∧ stc .any = .any ∧ (∀ a b c d, stc (.sl a b c d) = .any) ∧ (∀ a b c d, stc (.ptr a b c d) = .any)) ∧ ((∀ r k x, renA r k (.v x) = .v x) ∧ (∀ r k x, renA r k (.ro x) = .ro x) ∧ (∀ r k x, renA r k (.rof x) = .rof x) ∧ (∀ r k e x, renA r k (.own e x) = .own e x) ∧ (∀ r k cs, renA r k (.agg cs) = .agg (cs.map (ren1 r k))) ∧ (∀ r k x, ren1 r k (.v x) = .v x) ∧ (∀ r k x, ren1 r k (.ro x) = .ro x) ∧ (∀ r k x, ren1 r k (.rof x) = .rof x) ∧ (∀ r k x, ren1 r k (.sln x) = .sln x)) ∧ ((∀ (env : Nat → AV) d t x, upd env d x t = if t = d then x else env t) ∧ (∀ W (env : Nat → AV) t, era W env t = if W.contains t then .any else env t) ∧ (∀ T x, pushT T x = ⟨T.slots ++ [(T.ep, x)], T.ep + 1⟩) ∧ (∀ ins, insT ins = ⟨ins.map fun x => (0, x), 1⟩) ∧ (∀ (α : Type) (cs : List α) off xs, splice cs off xs = cs.take off ++ xs ++ cs.drop (off + xs.length)) ∧ (∀ g b o, (ung g b o).dst = o.dst) ∧ (∀ z, packR [z] = z) ∧ packR [] = .tup [] ∧ (∀ x y l, packR (x :: y :: l) = .tup (x :: y :: l)) ∧ (∀ T, unp [] T = ([], T)) ∧ (∀ e es ys T, unp (.own e es :: ys) T = (.sl T.slots.length T.ep 0 es.length :: (unp ys (pushT T (.own e es))).1, (unp ys (pushT T (.own e es))).2)) ∧ (∀ x ys T, unp (.v x :: ys) T = (.v x :: (unp ys T).1, (unp ys T).2)) ∧ (∀ x ys T, unp (.ro x :: ys) T = (.ro x :: (unp ys T).1, (unp ys T).2)) ∧ (∀ x ys T, unp (.rof x :: ys) T = (.rof x :: (unp ys T).1, (unp ys T).2)) ∧ (∀ x ys T, unp (.rop x :: ys) T = (.rop x :: (unp ys T).1, (unp ys T).2)) ∧ (∀ x y ys T, unp (.om x y :: ys) T = (.om x y :: (unp ys T).1, (unp ys T).2)) ∧ (∀ x y ys T, unp (.mp x y :: ys) T = (.mp x y :: (unp ys T).1, (unp ys T).2)) ∧ (∀ x ys T, unp (.agg x :: ys) T = (.agg x :: (unp ys T).1, (unp ys T).2)) ∧ (∀ x ys T, unp (.tup x :: ys) T = (.tup x :: (unp ys T).1, (unp ys T).2)) ∧ (∀ a b c d ys T, unp (.sl a b c d :: ys) T = (.sl a b c d :: (unp ys T).1, (unp ys T).2)) ∧ (∀ a b c d ys T, unp (.ptr a b c d :: ys) T = (.ptr a b c d :: (unp ys T).1, (unp ys T).2)) ∧ (∀ x ys T, unp (.sln x :: ys) T = (.sln x :: (unp ys T).1, (unp ys T).2)) ∧ (∀ ys T, unp (.any :: ys) T = (.any :: (unp ys T).1, (unp ys T).2))) ∧ ((∀ (a b : Nat) (l : List Nat), (a :: l).contains b = (b == a || l.contains b)) ∧ (∀ a : Nat, ([] : List Nat).contains a = false) ∧ (∀ b, (b || false) = b) ∧ (∀ b, (false || b) = b) ∧ (∀ b, (true || b) = true) ∧ (∀ b, (b || true) = true) ∧ ((false = true) = False) ∧ (∀ (α : Type) (x d : α) (l : List α), (x :: l).getD 0 d = x) ∧ (∀ (α : Type) (x d : α) (l : List α) n, (x :: l).getD (n + 1) d = l.getD n d) ∧ (∀ (α : Type) (d : α) n, ([] : List α).getD n d = d) ∧ (∀ (α β : Type) (f : α → β) x l, (x :: l).map f = f x :: l.map f) ∧ (∀ (α β : Type) (f : α → β), [].map f = []) ∧ (∀ (α : Type) (l : List α), [] ++ l = l) ∧ (∀ (α : Type) (x : α) (l m : List α), (x :: l) ++ m = x :: (l ++ m)) ∧ (∀ (α : Type) (l : List α), l ++ [] = l) ∧ (∀ (α : Type) (x : α) (l : List α), (x :: l).length = l.length + 1) ∧ (∀ (α : Type), ([] : List α).length = 0) ∧ (∀ (α β : Type) (f : α → β) (l : List α), (l.map f).length = l.length) ∧ (∀ n : Nat, 0 + n = n) ∧ (∀ (α : Type) (x y : α) (l : List α), (x :: l).set 0 y = y :: l) ∧ (∀ (α : Type) (x y : α) (l : List α) n, (x :: l).set (n + 1) y = x :: l.set n y) ∧ (∀ (α : Type) (x : α) (l : List α) n, (x :: l).take (n + 1) = x :: l.take n) ∧ (∀ (α : Type) (l : List α), l.take 0 = []) ∧ (∀ (α : Type) n, ([] : List α).take n = []) ∧ (∀ (α : Type) (x : α) (l : List α) n, (x :: l).drop (n + 1) = l.drop n) ∧ (∀ (α : Type) (l : List α), l.drop 0 = l) ∧ (∀ (α : Type) n, ([] : List α).drop n = [])) := ⟨evS, lcS, nzR, nzA, nzL⟩
theorem hcS : (∀ a b : Bool, ((a && b) = true) = (a = true ∧ b = true)) ∧ (∀ a b : Bool, ((a || b) = true) = (a = true ∨ b = true)) ∧ (∀ a b : Bool, ((a || b) = false) = (a = false ∧ b = false)) ∧ (∀ a b : Bool, ((a && b) = false) = (a = false ∨ b = false)) ∧
    (∀ (p : Prop) [Decidable p], (decide p = true) = p) ∧ (∀ (p : Prop) [Decidable p], (decide p = false) = ¬ p) ∧ (∀ a b : Int, (¬ a ≤ b) = (b < a)) ∧ (∀ a b : Int, (¬ a < b) = (b ≤ a)) ∧ (∀ (α : Type) [LE α] (a b : α), (a ≥ b) = (b ≤ a)) ∧ (∀ (α : Type) [LT α] (a b : α), (a > b) = (b < a)) ∧
    (∀ b : Bool, ((!b) = true) = (b = false)) ∧ (∀ b : Bool, ((!b) = false) = (b = true)) ∧ (∀ (α : Type) [BEq α] [LawfulBEq α] (a b : α), ((a != b) = true) = (a ≠ b)) ∧ (∀ (α : Type) [BEq α] [LawfulBEq α] (a b : α), ((a == b) = true) = (a = b)) ∧
    (∀ (α : Type) [BEq α] [LawfulBEq α] (a b : α), ((a != b) = false) = (a = b)) ∧ (∀ (α : Type) [BEq α] [LawfulBEq α] (a b : α), ((a == b) = false) = (a ≠ b)) ∧ (∀ (α : Type) (a b : α), (a ≠ b) = ¬ (a = b)) := by
  refine ⟨?_, ?_, ?_, ?_, ?_, ?_, ?_, ?_, ?_, ?_, ?_, ?_, ?_, ?_, ?_, ?_, ?_⟩
  case refine_4 => intro a b; cases a <;> cases b <;> simp
  case refine_11 => intro b; cases b <;> simp
  case refine_12 => intro b; cases b <;> simp
  all_goals intros; simp
end Go.Proofs.Ytjgbbffcjbmjmaa
