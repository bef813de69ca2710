import Derived.Test.YtngfknoddphhaaaAb7
namespace Go.Proofs.Ytngfknoddphhaaa
open Go.RowKit
set_option linter.unusedSimpArgs false
set_option linter.unusedVariables false

theorem flatten_set {sz : Nat} : ∀ {es : List (List AV)}, (∀ e ∈ es, e.length = sz) → ∀ {i : Nat} {row : List AV}, es[i]? = some row → ∀ (j : Nat) (xs : List AV), j + xs.length ≤ row.length →
    (es.set i (splice row j xs)).flatten = splice es.flatten (i * sz + j) xs
  | [], _, i, row, h, _, _, _ => by simp at h
  | e :: es, hs, i, row, h, j, xs, hj => by
    have he := hs e (by simp)
    cases i with
    | zero =>
      simp at h
      subst h
      unfold splice
      rw [List.set_cons_zero, List.flatten_cons, List.flatten_cons, Nat.zero_mul, Nat.zero_add, List.take_append_of_le_length (by omega), List.drop_append_of_le_length hj]
      simp
    | succ i =>
      have ih := flatten_set (es := es) (fun e h => hs e (by simp [h])) (i := i) (by simpa using h) j xs hj
      rw [List.set_cons_succ, List.flatten_cons, ih, List.flatten_cons]
      unfold splice
      have e1 : (i + 1) * sz + j = e.length + (i * sz + j) := by rw [he, Nat.add_mul]; omega
      have h1 : List.take (e.length + (i * sz + j)) (e ++ es.flatten) = e ++ List.take (i * sz + j) es.flatten := by
        rw [List.take_append, List.take_of_length_le (by omega), Nat.add_sub_cancel_left]
      have h2 : List.drop (e.length + (i * sz + j) + xs.length) (e ++ es.flatten) = List.drop (i * sz + j + xs.length) es.flatten := by
        have h0 : List.drop (e.length + (i * sz + j) + xs.length) e = [] := List.drop_eq_nil_of_le (by omega)
        rw [List.drop_append, h0, List.nil_append, Nat.add_assoc, Nat.add_sub_cancel_left]
      rw [e1, h1, h2]
      simp
theorem splice_get {α : Type} (cs : List α) (p : Nat) (xs : List α) (h : p + xs.length ≤ cs.length) (i : Nat) : (splice cs p xs)[i]? = if i < p then cs[i]? else if i < p + xs.length then xs[i - p]? else cs[i]? := by
  unfold splice
  have hl : (cs.take p).length = p := by rw [List.length_take]; omega
  by_cases h1 : i < p
  · rw [if_pos h1, List.append_assoc, List.getElem?_append_left (by omega), List.getElem?_take, if_pos h1]
  · rw [if_neg h1, List.append_assoc, List.getElem?_append_right (by omega), hl]
    by_cases h2 : i < p + xs.length
    · rw [if_pos h2, List.getElem?_append_left (by omega)]
    · rw [if_neg h2, List.getElem?_append_right (by omega), List.getElem?_drop]
      congr 1; omega
/-- Cells of an owned row are written: vs, which stand for xs and own bvs. -/
theorem Rep.own_set {P : Program} {S : Nat → Prop} {w : World} {bs : List Nat} {v : Value} {e : TypeId} {es : List (List AV)} (h : Rep P S w bs v (.own e es)) (hnd : bs.Nodup) (hap : ∀ b ∈ bs, ¬ S b) {i j : Nat} {row : List AV} (hrow : es[i]? = some row)
    {vs : List Value} {xs : List AV} {bvs : List (List Nat)} (hb1 : bvs.length = vs.length) (hx1 : vs.length = xs.length) (hr : ∀ (q : Nat) (u : Value) (x : AV) (b : List Nat), vs[q]? = some u → xs[q]? = some x → bvs[q]? = some b → Rep P S w b u x) (hbv : ∀ b ∈ bvs.flatten, b ∉ bs) (hbn : bvs.flatten.Nodup) (hj : j + xs.length ≤ row.length) :
    ∃ g cap cur sz bs', v = .slice (some ⟨g, 0, none⟩) es.length cap ∧ w.heap[g]? = some (.cells cur e (0, 0)) ∧ sizeIs P e sz ∧ i * sz + j + vs.length ≤ cur.size ∧ g ∈ bs ∧
      Rep P S (w.setRow g (cur.toList.take (i * sz + j) ++ vs ++ cur.toList.drop (i * sz + j + vs.length)).toArray) bs' v (.own e (es.set i (splice row j xs))) ∧ bs'.Nodup ∧ (∀ b ∈ bs', b ∈ bs ∨ b ∈ bvs.flatten) := by
  obtain ⟨us, sz, bss, rfl, hi, hsz, hown, hul, hbl, hc⟩ := h.own_inv
  have hil : i < es.length := (List.getElem?_eq_some_iff.1 hrow).1
  have hrl : row.length = sz := hsz row (List.mem_of_getElem? hrow)
  have hle : i * sz + sz ≤ es.length * sz := by rw [← Nat.succ_mul]; exact Nat.mul_le_mul_right _ hil
  have hfl := flat_len hsz
  rcases hown.2 with ⟨rfl, h0⟩ | ⟨g, cap, cur, rfl, -, hg, hnc, hcm, hcs, htake⟩
  · omega
  have hcl : es.length * sz ≤ cur.size := by rw [hcs]; exact Nat.mul_le_mul_right _ hnc
  have hlen : i * sz + j + vs.length ≤ us.length := by omega
  have hown' : (Value.slice (some ⟨g, 0, none⟩) es.length cap).ownBlock.toList = [g] := rfl
  rw [hown'] at hnd hap hbv ⊢
  simp only [List.singleton_append, List.nodup_cons] at hnd
  refine ⟨g, cap, cur, sz, [g] ++ (splice bss (i * sz + j) bvs).flatten, rfl, hg, hi, by omega, by simp, ?_, ?_, ?_⟩
  · have hcur : (splice cur.toList (i * sz + j) vs).take (es.length * sz) = splice us (i * sz + j) vs := by
      apply List.ext_getElem?
      intro q
      rw [splice_get us _ _ hlen, List.getElem?_take, splice_get cur.toList _ _ (by simp; omega)]
      by_cases hq : q < es.length * sz
      · rw [if_pos hq]
        have : us[q]? = cur.toList[q]? := by rw [← htake, List.getElem?_take, if_pos hq]
        rw [this]
      · rw [if_neg hq, if_neg (by omega), if_neg (by omega), List.getElem?_eq_none (by omega)]
    have hset : (es.set i (splice row j xs)).length = es.length := by simp
    have hg' := setRow_heap w g cur (splice cur.toList (i * sz + j) vs).toArray e (0, 0) hg
    have ho' : (w.setRow g (splice cur.toList (i * sz + j) vs).toArray).ownsRow 0 e sz (.slice (some ⟨g, 0, none⟩) es.length cap) (es.set i (splice row j xs)).length (splice us (i * sz + j) vs) := by
      rw [hset]
      exact ⟨by rw [splice_len _ _ _ hlen, hul, hfl], .inr ⟨g, cap, _, rfl, Nat.zero_le _, hg', hnc, hcm, by rw [← hcs, ← Array.length_toList]; show (splice _ _ _).length = _; rw [splice_len _ _ _ (by simp; omega)]; simp, by simpa using hcur⟩⟩
    have hk : Kept (fun q => q ≠ g) w (w.setRow g (splice cur.toList (i * sz + j) vs).toArray) := ⟨rfl, rfl, rfl, by simp, fun k _ hk => setRow_other w g k _ hk⟩
    refine Rep.own (us := splice us (i * sz + j) vs) hi ?_ ho' ?_ ?_ ?_
    · intro x hx
      rcases List.mem_or_eq_of_mem_set hx with h1 | h1
      · exact hsz x h1
      · rw [h1, splice_len _ _ _ hj, hrl]
    · rw [flatten_set hsz hrow j xs hj, splice_len _ _ _ hlen, splice_len _ _ _ (by omega), hul]
    · rw [splice_len _ _ _ hlen, splice_len _ _ _ (by omega), hbl]
    · intro q u x b h1 h2 h3
      rw [flatten_set hsz hrow j xs hj, splice_get _ _ _ (by omega)] at h2
      rw [splice_get _ _ _ hlen] at h1
      rw [splice_get _ _ _ (by omega), hb1] at h3
      rw [← hx1] at h2
      have hgS : ∀ k, k < w.heap.size → S k → k ≠ g := fun k _ hk he => hap g (by simp) (he ▸ hk)
      have old : ∀ (u : Value) (x : AV) (b : List Nat), us[q]? = some u → es.flatten[q]? = some x → bss[q]? = some b → Rep P S (w.setRow g (splice cur.toList (i * sz + j) vs).toArray) b u x := fun u x b h1 h2 h3 =>
        (hc q u x b h1 h2 h3).kept hk hgS fun b' hb' he => hnd.1 (he ▸ List.mem_flatten.2 ⟨b, List.mem_of_getElem? h3, hb'⟩)
      split at h1
      · rename_i h5; rw [if_pos h5] at h2 h3; exact old u x b h1 h2 h3
      · rename_i h5
        rw [if_neg h5] at h2 h3
        split at h1
        · rename_i h6
          rw [if_pos h6] at h2 h3
          refine (hr _ u x b h1 h2 h3).kept hk hgS fun b' hb' he => hbv b' (List.mem_flatten.2 ⟨b, List.mem_of_getElem? h3, hb'⟩) (by simp [he])
        · rename_i h6; rw [if_neg h6] at h2 h3; exact old u x b h1 h2 h3
  · have hsp : (splice bss (i * sz + j) bvs).flatten = (bss.take (i * sz + j)).flatten ++ bvs.flatten ++ (bss.drop (i * sz + j + bvs.length)).flatten := by unfold splice; simp
    have hsplit : bss.flatten = (bss.take (i * sz + j)).flatten ++ (((bss.drop (i * sz + j)).take bvs.length).flatten ++ (bss.drop (i * sz + j + bvs.length)).flatten) := by
      rw [← List.flatten_append, ← List.flatten_append]
      congr 1
      generalize i * sz + j = p
      have e1 : bss.drop (p + bvs.length) = (bss.drop p).drop bvs.length := by rw [List.drop_drop]
      rw [e1, List.take_append_drop, List.take_append_drop]
    have hn0 := hnd.2
    rw [hsplit, List.nodup_append, List.nodup_append] at hn0
    obtain ⟨n1, ⟨-, n2, -⟩, n3'⟩ := hn0
    have n3 : ∀ a ∈ (bss.take (i * sz + j)).flatten, ∀ b ∈ (bss.drop (i * sz + j + bvs.length)).flatten, a ≠ b := fun a ha b hb => n3' a ha b (List.mem_append_right _ hb)
    have hb2 : ∀ b ∈ bvs.flatten, b ∉ bss.flatten := fun b hb h => hbv b hb (by simp only [List.mem_append]; exact .inr h)
    have m1 : ∀ b ∈ (bss.take (i * sz + j)).flatten, b ∈ bss.flatten := fun b hb => by rw [hsplit]; exact List.mem_append_left _ hb
    have m2 : ∀ b ∈ (bss.drop (i * sz + j + bvs.length)).flatten, b ∈ bss.flatten := fun b hb => by rw [hsplit]; exact List.mem_append_right _ (List.mem_append_right _ hb)
    rw [List.singleton_append, List.nodup_cons, hsp]
    refine ⟨fun h => ?_, ?_⟩
    · rcases List.mem_append.1 h with h | h
      · rcases List.mem_append.1 h with h | h
        · exact hnd.1 (m1 g h)
        · exact hbv g h (by simp)
      · exact hnd.1 (m2 g h)
    · rw [List.nodup_append, List.nodup_append]
      refine ⟨⟨n1, hbn, fun a ha b hb he => ?_⟩, n2, fun a ha b hb he => ?_⟩
      · subst he; exact hb2 a hb (m1 a ha)
      · subst he
        rcases List.mem_append.1 ha with h | h
        · exact n3 a h a hb rfl
        · exact hb2 a h (m2 a hb)
  · intro b hb
    rcases List.mem_append.1 hb with h | h
    · exact .inl (List.mem_append_left _ h)
    · have hsp : (splice bss (i * sz + j) bvs).flatten = (bss.take (i * sz + j)).flatten ++ bvs.flatten ++ (bss.drop (i * sz + j + bvs.length)).flatten := by unfold splice; simp
      rw [hsp] at h
      have sub : ∀ l : List (List Nat), (∀ x ∈ l, x ∈ bss) → b ∈ l.flatten → b ∈ bss.flatten := fun l hl hb => by
        obtain ⟨y, h1, h2⟩ := List.mem_flatten.1 hb
        exact List.mem_flatten.2 ⟨y, hl y h1, h2⟩
      rcases List.mem_append.1 h with h | h
      · rcases List.mem_append.1 h with h | h
        · exact .inl (List.mem_append_right _ (sub _ (fun x hx => List.mem_of_mem_take hx) h))
        · exact .inr h
      · exact .inl (List.mem_append_right _ (sub _ (fun x hx => List.mem_of_mem_drop hx) h))

section
variable {C : Cx} {o : Oper} {ev : Operand → AV} {T : Sl}
theorem run_store_at {P : Program} {t : TypeId} {n : Nat} (hs : sizeIs P t n) (g oo : Nat) (e : TypeId) (cur : Array Value) (u : Value) (w : World) (hg : w.heap[g]? = some (.cells cur e (0, 0))) (hl : u.cells.size = n) (hfit : oo + u.cells.size ≤ cur.size) (h1 : ∀ v ∈ u.cells.toList, v.oneCell' = true) :
    (Instr.storeAt t (.pointer (some ⟨g, oo, none⟩)) u).run P w = .ok () (w.setRow g (cur.toList.take oo ++ u.cells.toList ++ cur.toList.drop (oo + u.cells.toList.length)).toArray) := by
  have := run_storeCells_at P g oo e u.cells.toList 0 cur w hg (by simpa using hfit) h1
  simp only [Nat.add_zero] at this
  simp [Instr.storeAt, Instr.sureAddr, storeVar, run_sizeOf hs, hl, this]
theorem op_store {t : TypeId} {y z : Operand} {x : AV} {r k i j n : Nat} {e : TypeId} {es : List (List AV)} {row xs : List AV} (ho : o.op = .store t y z) (hy : ev y = .ptr r k i j) (hz : ev z = x) (hT : T.slots[r]? = some (k, .own e es)) (hrow : es[i]? = some row) (hx : rowOf x = some xs) (hs : sizeIs C.P t n) (hn : xs.length = n) (hj : j + xs.length ≤ row.length)
    {es' : List (List AV)} (he : es.set i (splice row j xs) = es') : OpJ C o ev T .any ⟨T.slots.set r (k, .own e es'), T.ep⟩ := by
  intro a w S vals bss hm h K hK Q
  have h1 := h y (by simp [ho, Op.operands])
  have h2 := h z (by simp [ho, Op.operands])
  rw [hy] at h1
  rw [hz] at h2
  obtain ⟨v, bs, hv, hb, hrep⟩ := hm.slot hT
  have hrl := h2.row hx
  obtain ⟨g, cap, cur, sz, bs', hve, hg, hsz, hfit, hgb, hrep', hnd', hsub⟩ := hrep.own_set (hm.nodup r bs hb) (hm.apart r bs hb) hrow (vs := (a.eval z).cells.toList) (xs := xs) (bvs := List.replicate xs.length []) (by simp only [List.length_replicate]; exact hrl.1.symm) hrl.1 (fun q u x b h1 h2 h3 => by
    have : b = [] := by rw [List.getElem?_replicate] at h3; split at h3 <;> simp_all
    subst this
    exact hrl.2 q u x h1 h2) (by simp) (by simp) hj
  obtain ⟨hil, g', n', cap', hve', hae⟩ := h1.2.2 e es v sz hT hv hsz
  rw [hve] at hve'
  injection hve' with e1 e2 e3
  injection e1 with e1
  injection e1 with e1
  subst e1
  have hrun := run_store_at (P := C.P) hs g (i * sz + j) e cur (a.eval z) w hg (by rw [← hn, ← hrl.1]; simp) (by simpa using hfit) fun u hu => by
    obtain ⟨q, hq, rfl⟩ := List.getElem_of_mem hu
    exact (hrl.2 q _ (xs[q]'(by rw [← hrl.1]; exact hq)) (List.getElem?_eq_getElem _) (List.getElem?_eq_getElem _)).one
  have hk : Kept (fun q => q ∉ bs) w (w.setRow g (cur.toList.take (i * sz + j) ++ (a.eval z).cells.toList ++ cur.toList.drop (i * sz + j + (a.eval z).cells.toList.length)).toArray) := ⟨rfl, rfl, rfl, by simp, fun k _ hk' => setRow_other w g k _ (fun e => hk' (e ▸ hgb))⟩
  rw [he] at hrep'
  obtain ⟨hm', hf⟩ := hm.set (k' := k) (ep' := T.ep) hT hv hb hk hrep' hnd' (fun b hb' => .inl ((hsub b hb').resolve_right (by simp))) (.inl ⟨rfl, rfl, rfl, fun e' es'' h => by
    injection h with h3 h4
    subst h3; subst h4
    exact ⟨es, rfl, by rw [← he]; simp⟩, fun b ks h => by cases h⟩)
  unfold Oper.wp execOp
  simp only [ho, hae, hrun, Sem.run_bind, Result.andThen_ok, Sem.run_pure, Oper.upon_skip]
  exact hK undef _ _ _ _ hm' hf trivial
end
end Go.Proofs.Ytngfknoddphhaaa
